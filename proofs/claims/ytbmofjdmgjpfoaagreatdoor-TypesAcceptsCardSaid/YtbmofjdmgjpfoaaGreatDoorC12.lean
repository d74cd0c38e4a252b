/- Part 12 of the proof of TypesAccepts. -/
import Derived.Test.YtbmofjdmgjpfoaaGreatDoorC11
set_option linter.all false
section
set_option maxHeartbeats 4000000
set_option maxRecDepth 100000
namespace Go.Proofs.YtbmofjdmgjpfoaaGreatDoor.Am
open Go.AM Go.AM.K
def Aj4 (N:Nat):Prop:=∀(u:Int) (o t:Int) (c:UnT o t u),Ok trees N ⟨[o,t],[],[],[]⟩ fun x=>x=(0,(⟨[u,0],[],[],[]⟩:Ah))
theorem Ad8:Aj4 131:=by
 intro u o t c
 unfold UnT at c
 rcases c with ⟨rfl|rfl,rfl|rfl,rfl⟩|⟨rfl,rfl|rfl,rfl⟩|⟨rfl,rfl,rfl⟩|⟨rfl,rfl,rfl⟩<;>exact Ok.num (t:=YA) (a:=0) (ms:=[_,0]) rfl (by kernel_rfl) rfl
def Aj3 (N:Nat):Prop:=∀(u:Int) (o t c:Int) (g:LD o t u) (d:c=t),Ok trees N ⟨[o,t,c],[],[],[]⟩ fun x=>x=(0,(⟨[u,0],[],[],[]⟩:Ah))
theorem AaK:Aj3 132:=by
 intro u o t c d g
 subst g
 unfold LD at d
 rcases d with ⟨rfl|rfl|rfl|rfl,rfl|rfl,rfl⟩|⟨rfl|rfl|rfl|rfl|rfl,rfl,rfl⟩|⟨rfl|rfl,rfl,rfl⟩|⟨rfl|rfl|rfl,rfl|rfl,rfl⟩|⟨ho,h1,h3,rfl⟩|⟨rfl|rfl|rfl|rfl,rfl|rfl,rfl⟩
 case inr.inr.inr.inr.inl=>
  have:c=1∨c=2∨c=3:=by omega
  rcases ho with rfl|rfl<;>rcases this with rfl|rfl|rfl<;>exact Ok.num (t:=VA) (a:=0) (ms:=[_,0]) rfl (by kernel_rfl) rfl
 all_goals exact Ok.num (t:=VA) (a:=0) (ms:=[_,0]) rfl (by kernel_rfl) rfl
def AjY (N:Nat) (Γ:Ctx) (al Z:Int) (C H:Rs) (U:Mp) (n:Nat):Prop:=∀(k q:Int) (len j:Int) (x sub:Int) (pl J:Int) (lo c:Int) (y u:Int) (rk ro:Int) (O rv D:Int) (d o v:List Nat) (T z:Rs) (P R:Rs) (g A Q:Rs) (hT:T=[1,1].map Bg) (hF:z=AF) (h:k=2∧q=2∧len=2∧0≤j∧j≤2∧(2-j).toNat<n),Ok trees N ⟨[k,q,len,j,x,sub,al,pl,Z,J,lo,c,y,u,rk,ro,O,rv,D],[d,o,v],[T,z,C,P,H,R,g,A,Q],[U]⟩ fun M=>(M=(1,v0))
def Ajz (N:Nat):Prop:=∀{Γ:Ctx} {J D:Int} {d g:Rs} {C:Mp} (hC:Ck Γ J D d g C) (q v:Int) (len j:Int) (z sub:Int) (pl Q:Int) (lo c:Int) (A x:Int) (rk ro:Int) (Z rv O:Int) (k u y:List Nat) (T H:Rs) (P R:Rs) (o M RA:Rs) (hT:T=[1,1].map Bg) (hF:H=AF) (h:q=2∧v=2∧len=2∧0≤j∧j≤2:=by exact kn),Ok trees N ⟨[q,v,len,j,z,sub,J,pl,D,Q,lo,c,A,x,rk,ro,Z,rv,O],[k,u,y],[T,H,d,P,g,R,o,M,RA],[C]⟩ fun U=>(U=(1,v0))
theorem Agy {Γ:Ctx} {al fl:Int} {Z H:Rs} {M:Mp} (hC:Ck Γ al fl Z H M) (n:Nat):AjY 136 Γ al fl Z H M n:=by
 induction n with
 |zero=>intro A x len j d sub pl bl Q g v c rk N J O D o q u T FP P R k U RA hT C h;exact absurd h.2.2.2.2.2 (Nat.not_lt_zero _)
 |succ n ih=>
 intro A x len j d sub pl bl Q g v c rk N J O D o q u T FP P R k U RA hT C h
 subst hT;subst C
 refine .of (t:=Vw) rfl ?_
 unfold Vw
 refine lt j len (fun t1=>?_) fun t1=>?_
 ·refine CX j 0 ?_
  refine BD j x ?_
  obtain ⟨ai,y⟩:=Pe j (by omega) (by omega)
  refine el y ?_
  refine BD j A ?_
  have z:=Sd j (by omega) (by omega)
  refine el z ?_
  refine Cc 1 1 ?_
  obtain ⟨_,rfl,G4⟩:=ih A x len (j+1) d sub pl bl Q g v c rk N J O D o q u ([1,1].map Bg) AF P R k U RA rfl rfl kn
  refine cm G4 ?_
  refine ch G4 ?_
  exact Aj v0 (rfl)
 exact Aj v0 (rfl)
theorem AiO:Ajz 136:=fun {Γ} {al} {fl} {Ar} {Fs} {mp} hC tl ln len j grp sub pl bl lo fpl fty fbl rk ro ry rv rl knm fnm rnm T FP P R FP2 FB RA hT hF h=>Agy hC ((2-j).toNat+1) tl ln len j grp sub pl bl lo fpl fty fbl rk ro ry rv rl knm fnm rnm T FP P R FP2 FB RA hT hF ⟨h.1,h.2.1,h.2.2.1,h.2.2.2.1,h.2.2.2.2,Nat.lt_succ_self _⟩
def Aj2 (N:Nat):Prop:=∀{Γ:Ctx} {C y:Int} {k o:Rs} {x:Mp} (hC:Ck Γ C y k o x) (c d:Int) (z M:Int) (O Z:Int) (rv J:Int) (u j:Int) (sub pl:Int) (Q lo:Int) (v g q:List Nat) (A D:Rs) (H T:Rs) (P R:Rs) (hT:T=[1,1].map Bg) (hF:A=AF) (h:u=2∧c=2∧d=1:=by exact kn),Ok trees N ⟨[c,d,z,M,O,Z,rv,J,u,j,sub,C,pl,y,Q,lo],[v,g,q],[A,D,H,T,k,P,o,R],[x]⟩ fun U=>(U=(0,(⟨[1,0],[],[],[]⟩:Ah)))
theorem AiR:Aj2 133:=by
 intro Γ al fl Q U mp x M N j C D z H v Z o sub pl y J g k c q u A T P R hT O h
 obtain ⟨rfl,rfl,rfl⟩:=h
 refine .of (t:=Vz) rfl ?_
 unfold Vz
 refine Cc 2 2 ?_
 obtain ⟨_,rfl,d⟩:=AiO x 2 2 2 0 o sub pl y J 2 1 j C D z H v c g k T q P R q u A ‹_› ‹_›
 refine cm d ?_
 refine ch d ?_
 exact Aj ⟨[1,0],[],[],[]⟩ (rfl)
def Tj (N:Nat) (Γ:Ctx) (C x:Int) (j q:Rs) (u:Mp) (n:Nat):Prop:=∀{a:List E} (t k:Int) (o ty:Int) (v g:Int) (c sub:Int) (pl y D:Int) (s d:List Nat) (A P R:Rs) (J:T Γ t (.node k o ty v s a)) (H:A=E.Ac a) (h:g=A.length∧(E.node k o ty v s a).high<n),Ok trees N ⟨[k,o,ty,v,g,c,sub,C,pl,x,y,D],[s,d],[A,j,P,q,R],[u]⟩ fun z=>(z=(0,(⟨[t,0],[],[],[]⟩:Ah)))
def AjB (N:Nat):Prop:=∀{Γ:Ctx} {y x:Int} {d g:Rs} {q:Mp} (M:Ck Γ y x d g q) {a:List E} (t k:Int) (o ty:Int) (v u:Int) (c sub:Int) (pl z D:Int) (s j:List Nat) (A P R:Rs) (J:T Γ t (.node k o ty v s a)) (H:A=E.Ac a) (h:u=A.length:=by exact kn),Ok trees N ⟨[k,o,ty,v,u,c,sub,y,pl,x,z,D],[s,j],[A,d,P,g,R],[q]⟩ fun C=>(C=(0,(⟨[t,0],[],[],[]⟩:Ah)))
def Aka (C N:Nat) (Γ:Ctx) (D z:Int) (v x:Rs) (y:Mp) (m n:Nat):Prop:=∀{a:List E} (ts:List Int) (d c:Int) (len j:Int) (g sub:Int) (pl A H:Int) (k:List Nat) (L P:Rs) (R Q:Rs) (M:Ts Γ ts a) (J:L=E.Ac a) (O:Q=(ts.take j.toNat).map Bg) (h:c=L.length∧c≤3∧len=c∧0≤j∧j≤c∧d=Q.length∧d+(len-j)≤9∧0≤d∧E.BY a<m∧(len-j).toNat<n),Ok trees N ⟨[d,c,len,j,g,sub,D,pl,z,A,H],[k],[L,v,P,x,R,Q],[y]⟩ fun u=>(u=(2,v0)∧(Q=ts.map Bg))∨(∃(o:Int),∃(q:Rs),u=(3,(⟨[o],[],[q],[]⟩:Ah))∧(q=ts.map Bg)∧(o=(ts.length:Int)))
def Aj1 (u N:Nat):Prop:=∀{m:Nat} {Γ:Ctx} {v q:Int} {g k:Rs} {o:Mp} (U:Ck Γ v q g k o) (D:Tj u Γ v q g k o m) {a:List E} (ts:List Int) (d c:Int) (len j:Int) (x sub:Int) (pl H J:Int) (y:List Nat) (L P:Rs) (R Q:Rs) (O:Ts Γ ts a) (M:L=E.Ac a) (Z:Q=(ts.take j.toNat).map Bg) (h:c=L.length∧c≤3∧len=c∧0≤j∧j≤c∧d=Q.length∧d+(len-j)≤9∧0≤d∧E.BY a<m:=by exact kn),Ok trees N ⟨[d,c,len,j,x,sub,v,pl,q,H,J],[y],[L,g,P,k,R,Q],[o]⟩ fun C=>(C=(2,v0)∧(Q=ts.map Bg))∨(∃(z:Int),∃(A:Rs),C=(3,(⟨[z],[],[A],[]⟩:Ah))∧(A=ts.map Bg)∧(z=(ts.length:Int)))
theorem Ag0 {Γ:Ctx} {J H:Int} {y z:Rs} {D:Mp} (hC:Ck Γ J H y z D) {m:Nat} (q:Tj 124 Γ J H y z D m) (n:Nat):Aka 124 134 Γ J H y z D m n:=by
 induction n with
 |zero=>intro a ts O A len j k sub pl C M g L P R Q d v hQ h;exact absurd h.2.2.2.2.2.2.2.2.2 (Nat.not_lt_zero _)
 |succ n ih=>
 intro a ts O A len j k sub pl C M g L P R Q d v hQ h
 subst v
 refine .of (t:=Vy) rfl ?_
 unfold Vy
 refine lt j len (fun t1=>?_) fun t1=>?_
 ·refine CX j 0 ?_
  refine BD j A ?_
  obtain ⟨Z,aa,ac,U,ab,x,u,N,ah,ak,ai⟩:=d.get j (by omega) (by omega)
  refine el N ?_
  obtain ⟨_,rfl,G3⟩:=q u Z aa ac U ((E.Ac x).length:Int) k sub pl C M ab g (E.Ac x) P R ‹_› rfl kn
  refine ch G3 ?_
  refine Cc 0 0 ?_
  refine dL (Q++[[PV.int .i64 u]]) (fun o e4=>?_) (BG (pw O Q) pe)
  have f4:=cL e4;try simp only [lA,lC,lN,lT']at f4
  refine F8 (o.length:Int) 1048576 ?_
  obtain ⟨_,(⟨rfl,ag⟩|⟨af,ae,rfl,rfl,rfl⟩),c⟩:=ih ts (o.length:Int) A len (j+1) k sub pl C M g (E.Ac a) P R o d rfl (by subst_vars;exact HZ ‹_› (by omega)) kn
  ·refine cm c ?_
   refine cm c ?_
   refine ch c ?_
   exact Aj ⟨[(o.length:Int)],[],[o],[]⟩ (.inr ((⟨_,_,rfl,(by first|rfl|assumption|(subst_vars;assumption)),(by first|rfl|(have e:=‹_=ts.map Bg›;rw [e];exact Ts.Db))⟩)))
  refine cm c ?_
  refine cm c ?_
  refine cm c ?_
  refine ch c ?_
  exact Aj ⟨[(ts.length:Int)],[],[(ts.map Bg)],[]⟩ (.inr ((⟨_,_,rfl,(by first|rfl|assumption|(subst_vars;assumption)),(by first|rfl|(have e:=‹_=ts.map Bg›;rw [e];exact Ts.Db))⟩)))
 exact Aj v0 (.inl (⟨rfl,(hQ.trans (d.end (by omega)))⟩))
theorem AiQ:Aj1 124 134:=fun {m} {Γ} {al} {fl} {Ar} {Fs} {mp} hC hC124 {a} ts ql ln len j grp sub pl bl lo knm L P R Q hTs hLa hQ h=>Ag0 hC @hC124 ((len-j).toNat+1) ts ql ln len j grp sub pl bl lo knm L P R Q hTs hLa hQ ⟨h.1,h.2.1,h.2.2.1,h.2.2.2.1,h.2.2.2.2.1,h.2.2.2.2.2.1,h.2.2.2.2.2.2.1,h.2.2.2.2.2.2.2.1,h.2.2.2.2.2.2.2.2,Nat.lt_succ_self _⟩
def Aj7 (q N:Nat):Prop:=∀{m:Nat} {Γ:Ctx} {u o:Int} {d g:Rs} {k:Mp} (O:Ck Γ u o d g k) (C:Tj q Γ u o d g k m) {a:List E} (ts:List Int) (c len:Int) (j v:Int) (sub pl:Int) (D H:Int) (x:List Nat) (L P R:Rs) (M:Ts Γ ts a) (J:L=E.Ac a) (h:c=L.length∧c≤3∧len=c∧j=0∧E.BY a<m:=by exact kn),Ok trees N ⟨[c,len,j,v,sub,u,pl,o,D,H],[x],[L,d,P,g,R],[k]⟩ fun A=>(A=(0,v0)∧(ts=[]))∨(∃(y:Int),∃(z:Rs),A=(2,(⟨[y],[],[z],[]⟩:Ah))∧(z=ts.map Bg)∧(y=(ts.length:Int)))
theorem AiU:Aj7 124 128:=by
 intro m Γ al fl Ar Fs mp hC d a ts ln len j u sub pl D N o L P R g A h
 subst A;obtain ⟨h1,h2,rfl,rfl,h5⟩:=h
 refine .of (t:=VC) rfl ?_
 unfold VC
 refine lt 0 len (fun t1=>?_) fun t1=>?_
 ·refine CX 0 0 ?_
  refine BD 0 len ?_
  obtain ⟨C,H,M,z,J,q,k,y,Z,ad,aa⟩:=g.get 0 (by omega) (by omega)
  refine el y ?_
  obtain ⟨_,rfl,G3⟩:=d k C H M z ((E.Ac q).length:Int) u sub pl D N J o (E.Ac q) P R ‹_› rfl kn
  refine ch G3 ?_
  refine Cc 0 0 ?_
  refine dL [[.int .i64 k]] (fun x e4=>?_)
  have f4:=cL e4;try simp only [lA,lC,lN,lT']at f4
  refine ll 1 x ?_
  obtain ⟨_,(⟨rfl,U⟩|⟨Q,O,rfl,rfl,rfl⟩),c⟩:=AiQ hC @d ts 1 len len (0+1) u sub pl D N o (E.Ac a) P R x g rfl (by subst_vars;exact (HZ (j:=0) ‹_› (by omega)))
  ·refine cm c ?_
   refine cm c ?_
   refine ch c ?_
   exact Aj ⟨[1],[],[x],[]⟩ (.inr ((⟨_,_,rfl,(by first|rfl|(subst_vars;first|rfl|assumption)),(by first|rfl|(have e:=‹_=ts.map Bg›;have v:=Ts.Db (ts:=ts);rw [←e]at v;omega) |(subst_vars;first|rfl|simp))⟩)))
  refine cm c ?_
  refine cm c ?_
  refine cm c ?_
  refine ch c ?_
  exact Aj ⟨[(ts.length:Int)],[],[(ts.map Bg)],[]⟩ (.inr ((⟨_,_,rfl,(by first|rfl|(subst_vars;first|rfl|assumption)),(by first|rfl|(have e:=‹_=ts.map Bg›;have v:=Ts.Db (ts:=ts);rw [←e]at v;omega) |(subst_vars;first|rfl|simp))⟩)))
 exact Aj v0 (.inl (⟨rfl,(g.none (by omega))⟩))
def Aj8 (o N:Nat):Prop:=∀{m:Nat} {Γ:Ctx} {q k:Int} {c d:Rs} {g:Mp} (M:Ck Γ q k c d g) (z:Tj o Γ q k c d g m) {a:List E} (ts:List Int) (j u:Int) (sub pl:Int) (A D:Int) (v:List Nat) (L P R:Rs) (J:Ts Γ ts a) (H:L=E.Ac a) (h:j=L.length∧j≤3∧E.BY a<m:=by exact kn),Ok trees N ⟨[j,u,sub,q,pl,k,A,D],[v],[L,c,P,d,R],[g]⟩ fun C=>(∃(x:Int),∃(y:Rs),C=(0,(⟨[x,0],[],[y],[]⟩:Ah))∧(y=ts.map Bg)∧(x=(ts.length:Int)))
theorem Lt:Aj8 124 127:=by
 intro m Γ O N H J M z d a ts k u sub pl A C j L P R q o h
 subst o;have D:=Ts.Db (ts:=ts)
 refine .of (t:=VD) rfl ?_
 unfold VD
 obtain ⟨_,(⟨rfl,x⟩|⟨v,y,rfl,rfl,rfl⟩),c⟩:=AiU z @d ts k k 0 u sub pl A C j (E.Ac a) P R q rfl
 ·refine ch c ?_
  refine de [] ?_
  refine ll 0 [] ?_
  exact Aj ⟨[0,0],[],[[]],[]⟩ (⟨_,_,rfl,(by first|rfl|(subst_vars;first|rfl|assumption)),(by first|rfl|(have e:=‹_=ts.map Bg›;have g:=Ts.Db (ts:=ts);rw [←e]at g;omega) |(subst_vars;first|rfl|simp))⟩)
 refine cm c ?_
 refine cm c ?_
 refine ch c ?_
 refine ll (ts.length:Int) (ts.map Bg) ?_
 refine fr ?_
 exact Aj ⟨[(ts.length:Int),0],[],[(ts.map Bg)],[]⟩ (⟨_,_,rfl,(by first|rfl|(subst_vars;first|rfl|assumption)),(by first|rfl|(have e:=‹_=ts.map Bg›;have g:=Ts.Db (ts:=ts);rw [←e]at g;omega) |(subst_vars;first|rfl|simp))⟩)
theorem Ag2 {Γ:Ctx} {al fl:Int} {Ar Fs:Rs} {mp:Mp} (H:Ck Γ al fl Ar Fs mp) (n:Nat):Tj 124 Γ al fl Ar Fs mp n:=by
 induction n with
 |zero=>intro a t k o ty v Z C sub pl bl lo s D A P R hT hA h;exact absurd h.2 (Nat.not_lt_zero _)
 |succ n ih=>
 intro a t k o ty v Z C sub pl bl lo s D A P R hT hA h
 subst hA;have e2:=LJ (k:=k) (o:=o) (ty:=ty) (v:=v) (s:=s) (a:=a);have J:Z=(a.length:Int):=by have:=h.1;rw [E.A7]at this;exact this
 rcases hT.inv with hv|hv|hv|hv|hv|hv|hv|hv
 ·obtain ⟨rfl,rfl,rfl,rfl,rfl,r1,r2,r3,r4,r5,r6⟩:=hv;simp only [lC,lN]at J;have e3:E.Ag []=0:=rfl
  refine .of (t:=Em) rfl ?_
  unfold Em
  obtain ⟨_,⟨a3,a8,rfl,rfl,rfl⟩,G1⟩:=Lt H @ih [] Z C sub pl bl lo D (E.Ac []) P R (by exact .nil) rfl
  refine ch G1 ?_
  refine Cc 0 0 ?_
  refine BL 1 1 ?_
  first|exact Aj ⟨[ty,0],[],[],[]⟩ (rfl) |(exfalso;omega)
 ·obtain ⟨rfl,rfl,rfl,rfl,rfl,rfl,r1,r2⟩:=hv;simp only [lC,lN]at J;have e3:E.Ag []=0:=rfl
  refine .of (t:=Em) rfl ?_
  unfold Em
  obtain ⟨_,⟨a9,bb,rfl,rfl,rfl⟩,G2⟩:=Lt H @ih [] Z C sub pl bl lo D (E.Ac []) P R (by exact .nil) rfl
  refine ch G2 ?_
  refine Cc 0 0 ?_
  refine AT 3 1 ?_
  refine BL 3 3 ?_
  first|exact Aj ⟨[1,0],[],[],[]⟩ (rfl) |(exfalso;omega)
 ·obtain ⟨rfl,rfl,rfl,rfl,rfl,hs,kk,ii,hk,r1,r2,hg⟩:=hv;simp only [lC,lN]at J;have e3:E.Ag []=0:=rfl
  refine .of (t:=Em) rfl ?_
  unfold Em
  obtain ⟨_,⟨bf,bg,rfl,rfl,rfl⟩,G3⟩:=Lt H @ih [] Z C sub pl bl lo D (E.Ac []) P R (by exact .nil) rfl
  refine ch G3 ?_
  refine Cc 0 0 ?_
  refine AT 2 1 ?_
  refine AT 2 3 ?_
  refine AT 2 4 ?_
  refine AT 2 5 ?_
  refine AT 2 6 ?_
  refine BL 2 2 ?_
  refine lh (H.look hg) ?_
  refine eq kk 2 (fun t4=>?_) fun t4=>?_
  ·first|exact Aj ⟨[t,0],[],[],[]⟩ (rfl) |(exfalso;omega)
  refine eq kk 3 (fun t5=>?_) fun t5=>?_
  ·first|exact Aj ⟨[t,0],[],[],[]⟩ (rfl) |(exfalso;omega)
  first|exact Aj ⟨[0,30],[],[],[]⟩ (rfl) |(exfalso;omega)
 ·obtain ⟨rfl,rfl,rfl,rfl,j,q,d,c,u,g,w,rfl,hu,h1⟩:=hv;simp only [lC,lN]at J;have e3:=n1 (x:=.node j q d c u g);have e4:=g1 (x:=.node j q d c u g);have hr:=hu.rng
  refine .of (t:=Em) rfl ?_
  unfold Em
  obtain ⟨_,⟨a6,aQ,rfl,rfl,rfl⟩,G6⟩:=Lt H @ih [w] Z C sub pl bl lo D (E.Ac [.node j q d c u g]) P R (by exact .cons h1 .nil) rfl
  refine ch G6 ?_
  refine Cc 0 0 ?_
  refine AT 4 1 ?_
  refine AT 4 3 ?_
  refine BL 4 4 ?_
  refine BD 0 ([w].length:Int) ?_
  refine el (j':=0) rfl ?_
  obtain ⟨_,rfl,G7⟩:=Ad8 t o w hu
  refine ch G7 ?_
  first|exact Aj ⟨[t,0],[],[],[]⟩ (rfl) |(exfalso;omega)
 ·obtain ⟨rfl,rfl,rfl,rfl,j,q,d,c,u,g,U,O,Q,N,M,b2,w,rfl,hu,h1,h2⟩:=hv;simp only [lC,lN]at J;have e3:=n2 (x:=.node j q d c u g) (y:=.node U O Q N M b2);have e4:=g2 (x:=.node j q d c u g) (y:=.node U O Q N M b2);have hr:=hu.rng
  refine .of (t:=Em) rfl ?_
  unfold Em
  obtain ⟨_,⟨be,bc,rfl,rfl,rfl⟩,G8⟩:=Lt H @ih [w,w] Z C sub pl bl lo D (E.Ac [.node j q d c u g,.node U O Q N M b2]) P R (by exact .cons h1 (.cons h2 .nil)) rfl
  refine ch G8 ?_
  refine Cc 0 0 ?_
  refine AT 5 1 ?_
  refine AT 5 3 ?_
  refine AT 5 4 ?_
  refine BL 5 5 ?_
  refine BD 0 ([w,w].length:Int) ?_
  refine el (j':=0) rfl ?_
  refine BD 1 ([w,w].length:Int) ?_
  refine el (j':=1) rfl ?_
  obtain ⟨_,rfl,G9⟩:=AaK t o w w hu rfl
  refine ch G9 ?_
  first|exact Aj ⟨[t,0],[],[],[]⟩ (rfl) |(exfalso;omega)
 ·obtain ⟨rfl,rfl,rfl,rfl,rfl,j,q,d,c,u,g,U,O,Q,N,M,b2,k3,o3,t3,v3,s3,b3,rfl,h1,h2,h3⟩:=hv;simp only [lC,lN]at J;have e3:=n3 (x:=.node j q d c u g) (y:=.node U O Q N M b2) (z:=.node k3 o3 t3 v3 s3 b3);have e4:=g3 (x:=.node j q d c u g) (y:=.node U O Q N M b2) (z:=.node k3 o3 t3 v3 s3 b3)
  refine .of (t:=Em) rfl ?_
  unfold Em
  obtain ⟨_,⟨aN,aM,rfl,rfl,rfl⟩,aF⟩:=Lt H @ih [3,t,t] Z C sub pl bl lo D (E.Ac [.node j q d c u g,.node U O Q N M b2,.node k3 o3 t3 v3 s3 b3]) P R (by exact .cons h1 (.cons h2 (.cons h3 .nil))) rfl
  refine ch aF ?_
  refine Cc 0 0 ?_
  refine AT 6 1 ?_
  refine AT 6 3 ?_
  refine AT 6 4 ?_
  refine AT 6 5 ?_
  refine BL 6 6 ?_
  refine BD 0 ([3,t,t].length:Int) ?_
  refine el (j':=0) rfl ?_
  refine Cc 3 3 ?_
  refine BD 1 ([3,t,t].length:Int) ?_
  refine el (j':=1) rfl ?_
  refine BD 2 ([3,t,t].length:Int) ?_
  refine el (j':=2) rfl ?_
  refine Cc t t ?_
  first|exact Aj ⟨[t,0],[],[],[]⟩ (rfl) |(exfalso;omega)
 ·obtain ⟨rfl,rfl,rfl,rfl,hs,j,q,d,c,u,g,ii,rfl,r1,r2,hg,h1⟩:=hv;simp only [lC,lN]at J;have e3:=n1 (x:=.node j q d c u g);have e4:=g1 (x:=.node j q d c u g)
  refine .of (t:=Em) rfl ?_
  unfold Em
  obtain ⟨_,⟨aK,aP,rfl,rfl,rfl⟩,aG⟩:=Lt H @ih [1] Z C sub pl bl lo D (E.Ac [.node j q d c u g]) P R (by exact .cons h1 .nil) rfl
  refine ch aG ?_
  refine Cc 0 0 ?_
  refine AT 7 1 ?_
  refine AT 7 3 ?_
  refine AT 7 4 ?_
  refine AT 7 5 ?_
  refine AT 7 6 ?_
  refine AT 7 2 ?_
  refine BL 7 7 ?_
  refine lh (H.look hg) ?_
  refine BL 0 0 ?_
  refine BD 0 ([1].length:Int) ?_
  refine el (j':=0) rfl ?_
  refine Cc 1 1 ?_
  first|exact Aj ⟨[t,0],[],[],[]⟩ (rfl) |(exfalso;omega)
 ·obtain ⟨rfl,rfl,rfl,rfl,rfl,j,q,d,c,u,g,U,O,Q,N,M,b2,ii,rfl,rfl,hg,h1,h2⟩:=hv;simp only [lC,lN]at J;have e3:=n2 (x:=.node j q d c u g) (y:=.node U O Q N M b2);have e4:=g2 (x:=.node j q d c u g) (y:=.node U O Q N M b2);obtain ⟨bj,bi,F_,kf,aA,yf,wf,sf,Af,ap⟩:=H.fn _ hg;have bh:(AF.length:Int)=2:=rfl
  refine .of (t:=Em) rfl ?_
  unfold Em
  obtain ⟨_,⟨aO,aL,rfl,rfl,rfl⟩,ay⟩:=Lt H @ih [1,1] Z C sub pl bl lo D (E.Ac [.node j q d c u g,.node U O Q N M b2]) P R (by exact .cons h1 (.cons h2 .nil)) rfl
  refine ch ay ?_
  refine Cc 0 0 ?_
  refine AT 8 1 ?_
  refine AT 8 3 ?_
  refine AT 8 4 ?_
  refine AT 8 5 ?_
  refine AT 8 6 ?_
  refine AT 8 2 ?_
  refine AT 8 7 ?_
  refine BL 8 8 ?_
  refine lh (H.look hg) ?_
  refine BL 1 1 ?_
  refine CX ii 0 ?_
  refine BD ii fl ?_
  refine el ap ?_
  obtain ⟨_,rfl,az⟩:=AiR H (AF.length:Int) 1 (F_.length:Int) kf aA yf wf (Af.length:Int) ([1,1].length:Int) C sub pl bl lo [104] sf D AF F_ Af ([1,1].map Bg) P R rfl rfl
  refine ch az ?_
  first|exact Aj ⟨[1,0],[],[],[]⟩ (rfl) |(exfalso;omega)
theorem WZ:AjB 124:=fun {Γ} {al} {fl} {Ar} {Fs} {mp} hC {a} t k o ty v ln grp sub pl bl lo s knm A P R hT hA h=>Ag2 hC ((E.node k o ty v s a).high+1) t k o ty v ln grp sub pl bl lo s knm A P R hT hA ⟨h,Nat.lt_succ_self _⟩
def AjA (N:Nat):Prop:=∀{Γ:Ctx} {y x:Int} {d g:Rs} {q:Mp} (M:Ck Γ y x d g q) {a:List E} (k o:Int) (ty v:Int) (u t:Int) (c sub:Int) (pl z D:Int) (s j:List Nat) (A P R:Rs) (J:T Γ t (.node k o ty v s a)) (H:A=E.Ac a) (h:u=A.length:=by exact kn),Ok trees N ⟨[k,o,ty,v,u,t,c,sub,y,pl,x,z,D],[s,j],[A,d,P,g,R],[q]⟩ fun C=>(C=(0,(⟨[0],[],[],[]⟩:Ah)))
theorem Pq:AjA 125:=by
 intro Γ M J C D H x a k o ty v u t d sub pl y z s c A P R q g h
 refine .of (t:=VF) rfl ?_
 unfold VF
 obtain ⟨_,rfl,j⟩:=WZ x t k o ty v u d sub pl y z s c A P R q g
 refine ch j ?_
 refine BL 0 0 ?_
 refine Cc t t ?_
 exact Aj ⟨[0],[],[],[]⟩ (rfl)
end Go.Proofs.YtbmofjdmgjpfoaaGreatDoor.Am
end
section
set_option maxHeartbeats 4000000
set_option maxRecDepth 100000
namespace Go.Proofs.YtbmofjdmgjpfoaaGreatDoor.Am
open Go.AM Go.AM.K
def AjH (N:Nat):Prop:=∀{Γ:Ctx} {lp pu:Int} {Q:Ctx} {xa D:List E} {U el:List S} (k o:Int) (t b:Int) (xk xo:Int) (O Z:Int) (z yk:Int) (yo yt:Int) (yw C:Int) (c d:Int) (M sub:Int) (y pl:Int) (x bl lo:Int) (nm J:List Nat) (H A:List Nat) (X Y:Rs) (u v:Rs) (j P:Rs) (q R:Rs) (mp:Mp) (hC:Ck Γ y x j q mp) (hS:DP lp pu Γ (.node k o t b nm (.node xk xo O Z J xa) (.node yk yo yt yw H D) U el) Q) (hX:X=E.Ac xa) (hY:Y=E.Ac D) (hB:u=S.Ac U) (hE:v=S.Ac el) (h:z=X.length∧C=Y.length∧c=u.length∧d=v.length∧k=1:=by exact kn),Ok trees N ⟨[k,o,t,b,xk,xo,O,Z,z,yk,yo,yt,yw,C,c,d,M,sub,y,pl,x,bl,lo],[nm,J,H,A],[X,Y,u,v,j,P,q,R],[mp]⟩ fun zz=>(∃(g:Mp),zz=(0,(⟨[0],[],[],[g]⟩:Ah))∧(Ck Q y x j q g))
theorem AdG:AjH 117:=by
 intro Γ lp pu Γ1 O ya bo el k o t b M N C D q yk yo yt yw yl U Z j sub al pl fl v Q nm y yn d X Y Bo El Ar P Fs R J c z A H hB x h
 subst A;subst H;subst hB;subst x;obtain ⟨_,_,_,_,_,hn,g,r1,r2,hx,_,rfl⟩:=z.AhY (by omega)
 refine .of (t:=VK) rfl ?_
 unfold VK
 obtain ⟨_,rfl,u⟩:=WZ c t M N C D q j sub pl v Q y d (E.Ac O) P R ‹_› rfl
 refine ch u ?_
 refine Cc 0 0 ?_
 refine lm (c.Afa g) ?_
 refine up [.int .i64 3,.int .i64 t,.int .i64 0] ?_
 refine Cc t t ?_
 first|exact Aj ⟨[0],[],[],[(Bn J nm [.int .i64 3,.int .i64 t,.int .i64 0])]⟩ (⟨_,rfl,(c.GM g)⟩) |(exfalso;omega)
def Abs (N:Nat):Prop:=∀{Γ:Ctx} {lp pu:Int} {Γ1:Ctx} {xa z:List E} {J el:List S} (k o:Int) (t b:Int) (Z xo:Int) (H M:Int) (u yk:Int) (yo Q:Int) (yw y:Int) (c d:Int) (D sub:Int) (al pl:Int) (U bl lo:Int) (nm C:List Nat) (A x:List Nat) (X Y:Rs) (g j:Rs) (q P:Rs) (v R:Rs) (O:Mp) (hC:Ck Γ al U q v O) (hS:DP lp pu Γ (.node k o t b nm (.node Z xo H M C xa) (.node yk yo Q yw A z) J el) Γ1) (hX:X=E.Ac xa) (hY:Y=E.Ac z) (hB:g=S.Ac J) (hE:j=S.Ac el) (h:u=X.length∧y=Y.length∧c=g.length∧d=j.length∧k=2:=by exact kn),Ok trees N ⟨[k,o,t,b,Z,xo,H,M,u,yk,yo,Q,yw,y,c,d,D,sub,al,pl,U,bl,lo],[nm,C,A,x],[X,Y,g,j,q,P,v,R],[O]⟩ fun zz=>(zz=(0,(⟨[0],[],[],[]⟩:Ah)))
theorem Xa:Abs 118:=by
 intro Γ lp pu Γ1 O ya bo el k o t b M N D H j yk yo yt yw yl U Z g sub al pl fl x Q nm z yn c X Y Bo El Ar P Fs R mp d A C J hB y h
 subst C;subst J;subst hB;subst y;obtain ⟨_,_,_,_,_,_,hn,rfl,u,i,v,hx,_⟩:=A.AhZ (by omega)
 refine .of (t:=O2) rfl ?_
 unfold O2
 refine lh (d.look v) ?_
 refine BL 3 3 ?_
 obtain ⟨_,rfl,q⟩:=Pq d M N D H j u g sub pl x Q z c (E.Ac O) P R ‹_› rfl
 refine ch q ?_
 first|exact Aj ⟨[0],[],[],[]⟩ (rfl) |(exfalso;omega)
def Aj9 (N:Nat):Prop:=∀{Γ:Ctx} {xa A:List E} (u i:Int) (k o:Int) (t b:Int) (xk xo:Int) (M O:Int) (j yk:Int) (yo U:Int) (yw y:Int) (d v:Int) (H sub:Int) (al pl:Int) (Z bl lo:Int) (nm D:List Nat) (C x:List Nat) (X Y:Rs) (Bo El:Rs) (g P:Rs) (q R:Rs) (Q:Mp) (hC:Ck Γ al Z g q Q) (hg:Γ nm=some (0,u,i)) (hx:T Γ 1 (.node xk xo M O D xa)) (hy:T Γ u (.node yk yo U yw C A)) (hX:X=E.Ac xa) (hY:Y=E.Ac A) (h:j=X.length∧y=Y.length:=by exact kn),Ok trees N ⟨[k,o,t,b,xk,xo,M,O,j,yk,yo,U,yw,y,d,v,H,sub,al,pl,Z,bl,lo],[nm,D,C,x],[X,Y,Bo,El,g,P,q,R],[Q]⟩ fun zz=>(∃(c z:Int),∃(J:List Nat),zz=(0,(⟨[c,u,z,0],[J],[],[]⟩:Ah))∧(i=0∨i=2→c≠3))
theorem AdA:Aj9 126:=by
 intro Γ xa N u i k o t b xk xo Z xw H yk yo yt yw M aj ak g sub al pl fl y A nm Q O d X Y Bo El Ar P Fs R mp c x hx hy U hY h
 subst U;subst hY;obtain ⟨an,am,v,z,q,j,C⟩:=c.ar _ _ _ x
 refine .of (t:=VE) rfl ?_
 unfold VE
 refine lh (c.look x) ?_
 refine BL 0 0 ?_
 refine CX i 0 ?_
 refine BD i al ?_
 refine el j ?_
 obtain ⟨_,rfl,J⟩:=Pq c xk xo Z xw H 1 g sub pl y A Q d (E.Ac xa) P R ‹_› rfl
 refine ch J ?_
 refine BL 0 0 ?_
 obtain ⟨_,rfl,D⟩:=Pq c yk yo yt yw M u g sub pl y A O d (E.Ac N) P R ‹_› rfl
 refine ch D ?_
 first|exact Aj ⟨[z,u,q,0],[v],[],[]⟩ (⟨_,_,_,rfl,C⟩) |(exfalso;omega)
def AjE (N:Nat):Prop:=∀{Γ:Ctx} {lp pu:Int} {Γ1:Ctx} {xa z:List E} {J el:List S} (k o:Int) (t b:Int) (Z xo:Int) (H M:Int) (u yk:Int) (yo Q:Int) (yw y:Int) (c d:Int) (D sub:Int) (al pl:Int) (U bl lo:Int) (nm C:List Nat) (A x:List Nat) (X Y:Rs) (g j:Rs) (q P:Rs) (v R:Rs) (O:Mp) (hC:Ck Γ al U q v O) (hS:DP lp pu Γ (.node k o t b nm (.node Z xo H M C xa) (.node yk yo Q yw A z) J el) Γ1) (hX:X=E.Ac xa) (hY:Y=E.Ac z) (hB:g=S.Ac J) (hE:j=S.Ac el) (h:u=X.length∧y=Y.length∧c=g.length∧d=j.length∧k=3:=by exact kn),Ok trees N ⟨[k,o,t,b,Z,xo,H,M,u,yk,yo,Q,yw,y,c,d,D,sub,al,pl,U,bl,lo],[nm,C,A,x],[X,Y,g,j,q,P,v,R],[O]⟩ fun zz=>(zz=(0,(⟨[0],[],[],[]⟩:Ah)))
theorem AdD:AjE 121:=by
 intro Γ lp pu Γ1 xa N bo el k o t b xk xo xt xw v yk yo yt yw z c d j sub al pl fl H lo nm U Q g X Y Bo El q P x R mp A Z hX hY hB M h
 subst hX;subst hY;subst hB;subst M;obtain ⟨_,_,_,_,_,av,hn,rfl,u,i,_,_,C,O,J,_,_⟩:=Z.Afe (by omega)
 refine .of (t:=VH) rfl ?_
 unfold VH
 obtain ⟨_,⟨Ags,am,D,rfl,ab⟩,y⟩:=AdA u i k o t b xk xo xt xw v yk yo yt yw z c d j sub al pl fl H lo nm U Q g (E.Ac xa) (E.Ac N) (S.Ac bo) (S.Ac el) q P x R mp A C O J rfl rfl
 refine ch y ?_
 first|exact Aj ⟨[0],[],[],[]⟩ (rfl) |(exfalso;omega)
def AjD (N:Nat):Prop:=∀{Γ:Ctx} {lp pu:Int} {Γ1:Ctx} {xa z:List E} {J el:List S} (k o:Int) (t b:Int) (Z xo:Int) (H M:Int) (u yk:Int) (yo Q:Int) (yw y:Int) (c d:Int) (D sub:Int) (al pl:Int) (U bl lo:Int) (nm C:List Nat) (A x:List Nat) (X Y:Rs) (g j:Rs) (q P:Rs) (v R:Rs) (O:Mp) (hC:Ck Γ al U q v O) (hS:DP lp pu Γ (.node k o t b nm (.node Z xo H M C xa) (.node yk yo Q yw A z) J el) Γ1) (hX:X=E.Ac xa) (hY:Y=E.Ac z) (hB:g=S.Ac J) (hE:j=S.Ac el) (h:u=X.length∧y=Y.length∧c=g.length∧d=j.length∧k=4:=by exact kn),Ok trees N ⟨[k,o,t,b,Z,xo,H,M,u,yk,yo,Q,yw,y,c,d,D,sub,al,pl,U,bl,lo],[nm,C,A,x],[X,Y,g,j,q,P,v,R],[O]⟩ fun zz=>(zz=(0,(⟨[0],[],[],[]⟩:Ah)))
theorem AdC:AjD 122:=by
 intro Γ lp pu Γ1 xa O bo el k o t b xk xo xt xw x yk yo yt yw z c d j sub al pl fl J lo nm Z U g X Y Bo El v P y R mp C hS hX hY hB N h
 subst hX;subst hY;subst hB;subst N;obtain ⟨_,_,_,_,aw,hn,rfl,i,hi,D,ho,Q,M,_,_⟩:=hS.Aib (by omega)
 refine .of (t:=VG) rfl ?_
 unfold VG
 obtain ⟨_,⟨Ags,an,H,rfl,ac⟩,A⟩:=AdA 1 i k o t b xk xo xt xw x yk yo yt yw z c d j sub al pl fl J lo nm Z U g (E.Ac xa) (E.Ac O) (S.Ac bo) (S.Ac el) v P y R mp C D Q M rfl rfl
 refine ch A ?_
 refine Cc 0 0 ?_
 obtain ⟨_,rfl,u⟩:=AaK 1 o 1 1 (by unfold LD;omega) rfl
 refine ch u ?_
 refine Cc 0 0 ?_
 refine eq Ags 3 (fun q=>?_) fun q=>?_
 ·first|exact Aj ⟨[31],[],[],[]⟩ (rfl) |(exfalso;omega)
 first|exact Aj ⟨[0],[],[],[]⟩ (rfl) |(exfalso;omega)
def AjC (N:Nat):Prop:=∀{Γ:Ctx} {lp pu:Int} {Γ1:Ctx} {xa z:List E} {J el:List S} (k o:Int) (t b:Int) (Z xo:Int) (H M:Int) (u yk:Int) (yo Q:Int) (yw y:Int) (c d:Int) (D sub:Int) (al pl:Int) (U bl lo:Int) (nm C:List Nat) (A x:List Nat) (X Y:Rs) (g j:Rs) (q P:Rs) (v R:Rs) (O:Mp) (hC:Ck Γ al U q v O) (hS:DP lp pu Γ (.node k o t b nm (.node Z xo H M C xa) (.node yk yo Q yw A z) J el) Γ1) (hX:X=E.Ac xa) (hY:Y=E.Ac z) (hB:g=S.Ac J) (hE:j=S.Ac el) (h:u=X.length∧y=Y.length∧c=g.length∧d=j.length∧k=12:=by exact kn),Ok trees N ⟨[k,o,t,b,Z,xo,H,M,u,yk,yo,Q,yw,y,c,d,D,sub,al,pl,U,bl,lo],[nm,C,A,x],[X,Y,g,j,q,P,v,R],[O]⟩ fun zz=>(zz=(0,(⟨[0],[],[],[]⟩:Ah)))
theorem AdB:AjC 123:=by
 intro Γ lp pu Γ1 xa ya bo el k o t b M N H J Z yk yo yt yw yl aG aH c sub al pl fl v j nm xn yn d X Y Bo El Ar P Fs R mp g hS hX hY hB hE h
 subst hX;subst hY;subst hB;subst hE;
 rcases hS.AkX (by omega)with hv|hv
 ·obtain ⟨_,_,_,_,_,D,hn,rfl,u,w,i,q,r1,r2,ho,z,_⟩:=hv
  refine .of (t:=O1) rfl ?_
  unfold O1
  refine lh (g.look q) ?_
  refine BL 3 3 ?_
  obtain ⟨_,rfl,G1⟩:=WZ g w M N H J Z c sub pl v j xn d (E.Ac xa) P R ‹_› rfl
  refine ch G1 ?_
  refine BL 0 0 ?_
  refine AT o 4 ?_
  refine Cc 0 0 ?_
  refine eq o 1 (fun t2=>?_) fun t2=>?_
  ·refine eq w 3 (fun t3=>?_) fun t3=>?_
   ·refine eq u 1 (fun t4=>?_) fun t4=>?_
    ·first|exact Aj ⟨[0],[],[],[]⟩ (rfl) |(exfalso;omega)
    first|exact Aj ⟨[31],[],[],[]⟩ (rfl) |(exfalso;omega)
   first|exact Aj ⟨[31],[],[],[]⟩ (rfl) |(exfalso;omega)
  refine eq o 2 (fun t5=>?_) fun t5=>?_
  ·refine eq w u (fun t6=>?_) fun t6=>?_
   ·refine eq w 3 (fun t7=>?_) fun t7=>?_
    ·first|exact Aj ⟨[0],[],[],[]⟩ (rfl) |(exfalso;omega)
    first|exact Aj ⟨[31],[],[],[]⟩ (rfl) |(exfalso;omega)
   first|exact Aj ⟨[31],[],[],[]⟩ (rfl) |(exfalso;omega)
  refine eq o 3 (fun t8=>?_) fun t8=>?_
  ·refine eq w u (fun t9=>?_) fun t9=>?_
   ·refine eq w 3 (fun O=>?_) fun O=>?_
    ·first|exact Aj ⟨[0],[],[],[]⟩ (rfl) |(exfalso;omega)
    first|exact Aj ⟨[31],[],[],[]⟩ (rfl) |(exfalso;omega)
   first|exact Aj ⟨[31],[],[],[]⟩ (rfl) |(exfalso;omega)
  refine eq o 5 (fun U=>?_) fun U=>?_
  ·refine eq w u (fun aa=>?_) fun aa=>?_
   ·refine ne w 3 (fun ac=>?_) fun ac=>?_
    ·first|exact Aj ⟨[0],[],[],[]⟩ (rfl) |(exfalso;omega)
    first|exact Aj ⟨[31],[],[],[]⟩ (rfl) |(exfalso;omega)
   first|exact Aj ⟨[31],[],[],[]⟩ (rfl) |(exfalso;omega)
  refine eq o 6 (fun ab=>?_) fun ab=>?_
  ·refine eq w u (fun A=>?_) fun A=>?_
   ·refine ne w 3 (fun C=>?_) fun C=>?_
    ·first|exact Aj ⟨[0],[],[],[]⟩ (rfl) |(exfalso;omega)
    first|exact Aj ⟨[31],[],[],[]⟩ (rfl) |(exfalso;omega)
   first|exact Aj ⟨[31],[],[],[]⟩ (rfl) |(exfalso;omega)
  refine eq w u (fun Q=>?_) fun Q=>?_
  ·first|exact Aj ⟨[0],[],[],[]⟩ (rfl) |(exfalso;omega)
  first|exact Aj ⟨[31],[],[],[]⟩ (rfl) |(exfalso;omega)
 ·obtain ⟨rfl,_,_,_,_,D,hn,rfl,u,i,q,r1,r2,z,hy,_,_⟩:=hv
  refine .of (t:=O1) rfl ?_
  unfold O1
  refine lh (g.look q) ?_
  refine BL 3 3 ?_
  obtain ⟨_,rfl,x⟩:=WZ g u M N H J Z c sub pl v j xn d (E.Ac xa) P R z rfl
  refine ch x ?_
  refine BL 0 0 ?_
  refine BL 4 4 ?_
  obtain ⟨_,rfl,y⟩:=Pq g yk yo yt yw yl 1 c sub pl v j yn d (E.Ac ya) P R hy rfl
  refine ch y ?_
  refine Cc 0 0 ?_
  refine AT 4 1 ?_
  refine AT 4 2 ?_
  refine AT 4 3 ?_
  refine AT 4 5 ?_
  refine AT 4 6 ?_
  refine BL u u ?_
  first|exact Aj ⟨[0],[],[],[]⟩ (rfl) |(exfalso;omega)
def IB (N n:Nat):Prop:=∀{Γ:Ctx} {j A:Int} {z:Ctx} {l:List S} (g k:Int) (sub y:Int) (pl x:Int) (C c:Int) (q:List Nat) (L o:Rs) (P u R:Rs) (v:Mp) (J:Ck Γ y x o u v) (M:CE j A Γ l z) (H:L=S.Ac l) (h:g=L.length∧g≤200000∧(j=0∨1≤c)∧0≤c∧c+S.A4 l≤1000∧S.Ag l≤200000∧S.A4 l<n),Ok trees N ⟨[g,k,sub,y,pl,x,C,c],[q],[L,o,P,u,R],[v]⟩ fun D=>(∃(d:Int),D=(0,(⟨[0,d],[],[],[]⟩:Ah))∧(c=d))
def Xm (N:Nat):Prop:=∀{Γ:Ctx} {j A:Int} {z:Ctx} {l:List S} (g k:Int) (sub y:Int) (pl x:Int) (C c:Int) (q:List Nat) (L o:Rs) (P u R:Rs) (v:Mp) (J:Ck Γ y x o u v) (M:CE j A Γ l z) (H:L=S.Ac l) (h:g=L.length∧g≤200000∧(j=0∨1≤c)∧0≤c∧c+S.A4 l≤1000∧S.Ag l≤200000:=by exact kn),Ok trees N ⟨[g,k,sub,y,pl,x,C,c],[q],[L,o,P,u,R],[v]⟩ fun D=>(∃(d:Int),D=(0,(⟨[0,d],[],[],[]⟩:Ah))∧(c=d))
theorem IB.of {N n:Nat} (H:Xm N):IB N n:=fun {Γ} {lp} {pu} {Γe} {l} ln grp sub al pl fl bl lo knm L Ar P Fs R mp hC hO hLs h=>H ln grp sub al pl fl bl lo knm L Ar P Fs R mp hC hO hLs (by have:=h;omega)
def AjG (x N:Nat):Prop:=∀{m:Nat} (aj:IB x m) {Γ:Ctx} {y pu:Int} {Γ1:Ctx} {xa J:List E} {g el:List S} (k o:Int) (t b:Int) (xk xo:Int) (U Z:Int) (A yk:Int) (yo yt:Int) (yw H:Int) (c d:Int) (Q sub:Int) (al pl:Int) (fl bl j:Int) (nm O:List Nat) (M D:List Nat) (X Y:Rs) (u v:Rs) (z P:Rs) (C R:Rs) (mp:Mp) (hC:Ck Γ al fl z C mp) (hS:DP y pu Γ (.node k o t b nm (.node xk xo U Z O xa) (.node yk yo yt yw M J) g el) Γ1) (hX:X=E.Ac xa) (hY:Y=E.Ac J) (hB:u=S.Ac g) (hE:v=S.Ac el) (h:A=X.length∧H=Y.length∧c=u.length∧d=v.length∧(y=0∨1≤j)∧0≤j∧j+max (S.A4 g) (S.A4 el)≤1000∧S.Ag g≤200000∧S.Ag el≤200000∧S.A4 g<m∧S.A4 el<m∧c≤200000∧d≤200000∧k=5:=by exact kn),Ok trees N ⟨[k,o,t,b,xk,xo,U,Z,A,yk,yo,yt,yw,H,c,d,Q,sub,al,pl,fl,bl,j],[nm,O,M,D],[X,Y,u,v,z,P,C,R],[mp]⟩ fun zz=>(∃(q:Int),zz=(0,(⟨[0,q],[],[],[]⟩:Ah))∧(j=q))
theorem AdF:AjG 113 119:=by
 intro m c Γ lp pu Γ1 xa ya bo el k o t b xk xo Z xw J yk yo yt yw yl v z g sub D pl C u j nm O yn d X Y Bo El x P y R A q Q U hY hB N h
 subst U;subst hY;subst hB;subst N;obtain ⟨_,_,_,_,_,hx,_,rfl,Γa,Γb,aj,ak⟩:=Q.kif (by omega)
 refine .of (t:=VJ) rfl ?_
 unfold VJ
 obtain ⟨_,rfl,M⟩:=Pq q xk xo Z xw J 3 g sub pl u j O d (E.Ac xa) P R ‹_› rfl
 refine ch M ?_
 refine BL 0 0 ?_
 obtain ⟨_,⟨ae,rfl,rfl⟩,H⟩:=c v g sub D pl C u j d (S.Ac bo) x P y R A q ‹_› rfl kn
 refine ch H ?_
 refine BL 0 0 ?_
 obtain ⟨_,⟨ai,rfl,rfl⟩,G3⟩:=c z g sub D pl C u j d (S.Ac el) x P y R A q ‹_› rfl kn
 refine ch G3 ?_
 first|exact Aj ⟨[0,j],[],[],[]⟩ (⟨_,rfl,kn⟩) |(exfalso;omega)
def AjF (x N:Nat):Prop:=∀{m:Nat} (aj:IB x m) {Γ:Ctx} {y pu:Int} {Γ1:Ctx} {xa J:List E} {c el:List S} (k o:Int) (t b:Int) (xk xo:Int) (U Z:Int) (A yk:Int) (yo yt:Int) (yw H:Int) (d j:Int) (Q sub:Int) (al pl:Int) (fl bl g:Int) (nm O:List Nat) (M D:List Nat) (X Y:Rs) (u v:Rs) (z P:Rs) (C R:Rs) (mp:Mp) (hC:Ck Γ al fl z C mp) (hS:DP y pu Γ (.node k o t b nm (.node xk xo U Z O xa) (.node yk yo yt yw M J) c el) Γ1) (hX:X=E.Ac xa) (hY:Y=E.Ac J) (hB:u=S.Ac c) (hE:v=S.Ac el) (h:A=X.length∧H=Y.length∧d=u.length∧j=v.length∧(y=0∨1≤g)∧0≤g∧g+1+S.A4 c≤1000∧S.A4 c<m∧d≤200000∧S.Ag c≤200000∧S.Ag c≤200000∧k=6:=by exact kn),Ok trees N ⟨[k,o,t,b,xk,xo,U,Z,A,yk,yo,yt,yw,H,d,j,Q,sub,al,pl,fl,bl,g],[nm,O,M,D],[X,Y,u,v,z,P,C,R],[mp]⟩ fun zz=>(∃(q:Int),zz=(0,(⟨[0,q],[],[],[]⟩:Ah))∧(g=q))
theorem AdE:AjF 113 120:=by
 intro m d Γ lp pu Γ1 xa ya U el k o t b xk xo Q Z z yk yo yt yw yl q ai j sub al pl fl v c nm J yn g X Y Bo El y P A R mp u M N hY hB H h
 subst N;subst hY;subst hB;subst H;obtain ⟨_,_,_,_,_,hx,_,b1,b2,rfl,Γa,aj⟩:=M.AhX (by omega)
 refine .of (t:=VI) rfl ?_
 unfold VI
 obtain ⟨_,rfl,C⟩:=Pq u xk xo Q Z z 3 j sub pl v c J g (E.Ac xa) P R ‹_› rfl
 refine ch C ?_
 refine Cc 0 0 ?_
 refine lt b 1 (fun t2=>?_) fun t2=>?_
 ·first|exact Aj ⟨[1,c],[],[],[]⟩ (⟨_,rfl,kn⟩) |(exfalso;omega)
 refine gt b 1024 (fun x=>?_) fun x=>?_
 ·first|exact Aj ⟨[1,c],[],[],[]⟩ (⟨_,rfl,kn⟩) |(exfalso;omega)
 obtain ⟨_,⟨O,rfl,rfl⟩,D⟩:=d q j sub al pl fl v (c+1) g (S.Ac U) y P A R mp u ‹_› rfl kn
 refine ch D ?_
 first|exact Aj ⟨[0,((c+1)-1)],[],[],[]⟩ (⟨_,rfl,kn⟩) |(exfalso;omega)
def Abx (M N:Nat) (m n:Nat):Prop:=∀{Γ:Ctx} {y D:Int} {x:Ctx} {l:List S} (d len:Int) (j z:Int) (sub v:Int) (pl u:Int) (H c:Int) (A:List Nat) (L o:Rs) (P q R:Rs) (C:Mp) (Q:Ck Γ v u o q C) (U:CE y D Γ (l.drop j.toNat) x) (O:L=S.Ac l) (h:d=L.length∧d≤200000∧len=d∧0≤j∧(y=0∨1≤c)∧0≤c∧c+S.A4 (l.drop j.toNat)≤1000∧S.A4 (l.drop j.toNat)≤m∧S.Ag (l.drop j.toNat)≤200000∧(len-j).toNat<n),Ok trees N ⟨[d,len,j,z,sub,v,pl,u,H,c],[A],[L,o,P,q,R],[C]⟩ fun J=>(∃(k:Int),∃(g:Mp),J=(1,(⟨[k],[],[],[g]⟩:Ah))∧(Ck x v u o q g)∧(c=k))
def Abt (x N:Nat):Prop:=∀{m:Nat} (H:IB x m) {Γ:Ctx} {z J:Int} {y:Ctx} {l:List S} (d len:Int) (j A:Int) (sub v:Int) (pl u:Int) (M c:Int) (C:List Nat) (L o:Rs) (P q R:Rs) (D:Mp) (U:Ck Γ v u o q D) (Z:CE z J Γ (l.drop j.toNat) y) (Q:L=S.Ac l) (h:d=L.length∧d≤200000∧len=d∧0≤j∧(z=0∨1≤c)∧0≤c∧c+S.A4 (l.drop j.toNat)≤1000∧S.A4 (l.drop j.toNat)≤m∧S.Ag (l.drop j.toNat)≤200000:=by exact kn),Ok trees N ⟨[d,len,j,A,sub,v,pl,u,M,c],[C],[L,o,P,q,R],[D]⟩ fun O=>(∃(k:Int),∃(g:Mp),O=(1,(⟨[k],[],[],[g]⟩:Ah))∧(Ck y v u o q g)∧(c=k))
theorem ZK {m:Nat} (aj:IB 113 m) (n:Nat):Abx 113 116 m n:=by
 induction n with
 |zero=>intro Γ lp pu Γe l ln len j v sub M pl J H k x L D P A R C u z aA h;exact absurd h.2.2.2.2.2.2.2.2.2 (Nat.not_lt_zero _)
 |succ n ih=>
 intro Γ lp pu Γe l ln len j v sub M pl J H k x L D P A R C u z aA h
 subst aA
 refine .of (t:=KR) rfl ?_
 unfold KR
 refine lt j len (fun t1=>?_) fun t1=>?_
 ·refine CX j 0 ?_
  refine BD j ln ?_
  obtain ⟨y,ai,t_1,ah,aa,ac,ae,ad,N,ab,q,U,af,Z,Q,O,o,g,d,bF,aH,c,bC,bE,bH⟩:=CE.get j z (by omega) (by omega)
  refine el aH ?_
  have bt:=c.Aaa;have a1:=S.len g;have a4:=S.len d;have bg:=S.A7 g;have bi:=S.A7 d
  refine eq y 1 (fun t3=>?_) fun t3=>?_
  ·obtain ⟨_,⟨aF,rfl,aI⟩,G4⟩:=AdG y ai t_1 ah ac ae ad N ((E.Ac q).length:Int) U af Z Q ((E.Ac o).length:Int) ((S.Ac g).length:Int) ((S.Ac d).length:Int) v sub M pl J H k aa ab O x (E.Ac q) (E.Ac o) (S.Ac g) (S.Ac d) D P A R C u c rfl rfl rfl rfl
   refine ch G4 ?_
   refine Cc 0 0 ?_
   obtain ⟨_,⟨bw,aJ,rfl,bv,rfl⟩,G5⟩:=ih ln len (j+1) v sub M pl J H k x (S.Ac l) D P A R aF aI ‹_› rfl kn
   refine cm G5 ?_
   refine ch G5 ?_
   exact Aj ⟨[k],[],[],[aJ]⟩ (⟨_,_,rfl,(by first|assumption|(obtain ⟨_,_,e⟩:=Bv (l:=l) (j:=j) (by omega);rw [e]at z;cases z;exact u)),kn⟩)
  refine eq y 2 (fun t6=>?_) fun t6=>?_
  ·obtain ⟨_,rfl,G7⟩:=Xa y ai t_1 ah ac ae ad N ((E.Ac q).length:Int) U af Z Q ((E.Ac o).length:Int) ((S.Ac g).length:Int) ((S.Ac d).length:Int) v sub M pl J H k aa ab O x (E.Ac q) (E.Ac o) (S.Ac g) (S.Ac d) D P A R C u c rfl rfl rfl rfl
   refine ch G7 ?_
   refine Cc 0 0 ?_
   obtain ⟨_,⟨bD,aG,rfl,bx,rfl⟩,G8⟩:=ih ln len (j+1) v sub M pl J H k x (S.Ac l) D P A R C (u.keep c (by omega)) ‹_› rfl kn
   refine cm G8 ?_
   refine ch G8 ?_
   exact Aj ⟨[k],[],[],[aG]⟩ (⟨_,_,rfl,(by first|assumption|(obtain ⟨_,_,e⟩:=Bv (l:=l) (j:=j) (by omega);rw [e]at z;cases z;exact u)),kn⟩)
  refine eq y 5 (fun t9=>?_) fun t9=>?_
  ·obtain ⟨_,⟨bk,rfl,rfl⟩,aX⟩:=AdF @aj y ai t_1 ah ac ae ad N ((E.Ac q).length:Int) U af Z Q ((E.Ac o).length:Int) ((S.Ac g).length:Int) ((S.Ac d).length:Int) v sub M pl J H k aa ab O x (E.Ac q) (E.Ac o) (S.Ac g) (S.Ac d) D P A R C u c rfl rfl rfl rfl
   refine ch aX ?_
   refine Cc 0 0 ?_
   obtain ⟨_,⟨bn,ak,rfl,ba,rfl⟩,aC⟩:=ih ln len (j+1) v sub M pl J H k x (S.Ac l) D P A R C (u.keep c (by omega)) ‹_› rfl kn
   refine cm aC ?_
   refine ch aC ?_
   exact Aj ⟨[k],[],[],[ak]⟩ (⟨_,_,rfl,(by first|assumption|(obtain ⟨_,_,e⟩:=Bv (l:=l) (j:=j) (by omega);rw [e]at z;cases z;exact u)),kn⟩)
  refine eq y 6 (fun aW=>?_) fun aW=>?_
  ·obtain ⟨_,⟨bc,rfl,rfl⟩,aO⟩:=AdE @aj y ai t_1 ah ac ae ad N ((E.Ac q).length:Int) U af Z Q ((E.Ac o).length:Int) ((S.Ac g).length:Int) ((S.Ac d).length:Int) v sub M pl J H k aa ab O x (E.Ac q) (E.Ac o) (S.Ac g) (S.Ac d) D P A R C u c rfl rfl rfl rfl
   refine ch aO ?_
   refine Cc 0 0 ?_
   obtain ⟨_,⟨a5,aq,rfl,bf,rfl⟩,aw⟩:=ih ln len (j+1) v sub M pl J H k x (S.Ac l) D P A R C (u.keep c (by omega)) ‹_› rfl kn
   refine cm aw ?_
   refine ch aw ?_
   exact Aj ⟨[k],[],[],[aq]⟩ (⟨_,_,rfl,(by first|assumption|(obtain ⟨_,_,e⟩:=Bv (l:=l) (j:=j) (by omega);rw [e]at z;cases z;exact u)),kn⟩)
  refine eq y 7 (fun aL=>?_) fun aL=>?_
  ·refine eq k 0 (fun aM=>?_) fun aM=>?_
   ·exact dead
   obtain ⟨_,⟨bb,am,rfl,be,rfl⟩,ax⟩:=ih ln len (j+1) v sub M pl J H k x (S.Ac l) D P A R C (u.keep c (by omega)) ‹_› rfl kn
   refine cm ax ?_
   refine ch ax ?_
   exact Aj ⟨[k],[],[],[am]⟩ (⟨_,_,rfl,(by first|assumption|(obtain ⟨_,_,e⟩:=Bv (l:=l) (j:=j) (by omega);rw [e]at z;cases z;exact u)),kn⟩)
  refine eq y 8 (fun aR=>?_) fun aR=>?_
  ·refine eq k 0 (fun aZ=>?_) fun aZ=>?_
   ·exact dead
   obtain ⟨_,⟨bd,ap,rfl,a9,rfl⟩,ay⟩:=ih ln len (j+1) v sub M pl J H k x (S.Ac l) D P A R C (u.keep c (by omega)) ‹_› rfl kn
   refine cm ay ?_
   refine ch ay ?_
   exact Aj ⟨[k],[],[],[ap]⟩ (⟨_,_,rfl,(by first|assumption|(obtain ⟨_,_,e⟩:=Bv (l:=l) (j:=j) (by omega);rw [e]at z;cases z;exact u)),kn⟩)
  refine eq y 3 (fun a0=>?_) fun a0=>?_
  ·obtain ⟨_,rfl,aP⟩:=AdD y ai t_1 ah ac ae ad N ((E.Ac q).length:Int) U af Z Q ((E.Ac o).length:Int) ((S.Ac g).length:Int) ((S.Ac d).length:Int) v sub M pl J H k aa ab O x (E.Ac q) (E.Ac o) (S.Ac g) (S.Ac d) D P A R C u c rfl rfl rfl rfl
   refine ch aP ?_
   refine Cc 0 0 ?_
   obtain ⟨_,⟨bj,av,rfl,a6,rfl⟩,aE⟩:=ih ln len (j+1) v sub M pl J H k x (S.Ac l) D P A R C (u.keep c (by omega)) ‹_› rfl kn
   refine cm aE ?_
   refine ch aE ?_
   exact Aj ⟨[k],[],[],[av]⟩ (⟨_,_,rfl,(by first|assumption|(obtain ⟨_,_,e⟩:=Bv (l:=l) (j:=j) (by omega);rw [e]at z;cases z;exact u)),kn⟩)
  refine eq y 4 (fun aV=>?_) fun aV=>?_
  ·obtain ⟨_,rfl,aK⟩:=AdC y ai t_1 ah ac ae ad N ((E.Ac q).length:Int) U af Z Q ((E.Ac o).length:Int) ((S.Ac g).length:Int) ((S.Ac d).length:Int) v sub M pl J H k aa ab O x (E.Ac q) (E.Ac o) (S.Ac g) (S.Ac d) D P A R C u c rfl rfl rfl rfl
   refine ch aK ?_
   refine Cc 0 0 ?_
   obtain ⟨_,⟨bm,an,rfl,a2,rfl⟩,aD⟩:=ih ln len (j+1) v sub M pl J H k x (S.Ac l) D P A R C (u.keep c (by omega)) ‹_› rfl kn
   refine cm aD ?_
   refine ch aD ?_
   exact Aj ⟨[k],[],[],[an]⟩ (⟨_,_,rfl,(by first|assumption|(obtain ⟨_,_,e⟩:=Bv (l:=l) (j:=j) (by omega);rw [e]at z;cases z;exact u)),kn⟩)
  refine eq y 12 (fun aN=>?_) fun aN=>?_
  ·obtain ⟨_,rfl,aY⟩:=AdB y ai t_1 ah ac ae ad N ((E.Ac q).length:Int) U af Z Q ((E.Ac o).length:Int) ((S.Ac g).length:Int) ((S.Ac d).length:Int) v sub M pl J H k aa ab O x (E.Ac q) (E.Ac o) (S.Ac g) (S.Ac d) D P A R C u c rfl rfl rfl rfl
   refine ch aY ?_
   refine Cc 0 0 ?_
   obtain ⟨_,⟨a8,au,rfl,a3,rfl⟩,az⟩:=ih ln len (j+1) v sub M pl J H k x (S.Ac l) D P A R C (u.keep c (by omega)) ‹_› rfl kn
   refine cm az ?_
   refine ch az ?_
   exact Aj ⟨[k],[],[],[au]⟩ (⟨_,_,rfl,(by first|assumption|(obtain ⟨_,_,e⟩:=Bv (l:=l) (j:=j) (by omega);rw [e]at z;cases z;exact u)),kn⟩)
  obtain ⟨_,⟨bh,ao,rfl,a7,rfl⟩,aB⟩:=ih ln len (j+1) v sub M pl J H k x (S.Ac l) D P A R C (u.keep c (by omega)) ‹_› rfl kn
  refine cm aB ?_
  refine ch aB ?_
  exact Aj ⟨[k],[],[],[ao]⟩ (⟨_,_,rfl,(by first|assumption|(obtain ⟨_,_,e⟩:=Bv (l:=l) (j:=j) (by omega);rw [e]at z;cases z;exact u)),kn⟩)
 exact Aj ⟨[k],[],[],[C]⟩ (⟨_,_,rfl,(by first|assumption|(obtain ⟨_,_,e⟩:=Bv (l:=l) (j:=j) (by omega);rw [e]at z;cases z;exact u)),kn⟩)
theorem AaL:Abt 113 116:=fun {m} hC113 {Γ} {lp} {pu} {Γe} {l} ln len j grp sub al pl fl bl lo knm L Ar P Fs R mp hC hO hLs h=>ZK @hC113 ((len-j).toNat+1) ln len j grp sub al pl fl bl lo knm L Ar P Fs R mp hC hO hLs ⟨h.1,h.2.1,h.2.2.1,h.2.2.2.1,h.2.2.2.2.1,h.2.2.2.2.2.1,h.2.2.2.2.2.2.1,h.2.2.2.2.2.2.2.1,h.2.2.2.2.2.2.2.2,Nat.lt_succ_self _⟩
def Abu (v N:Nat):Prop:=∀{m:Nat} (D:IB v m) {Γ:Ctx} {y H:Int} {x:Ctx} {l:List S} (o z:Int) (sub u:Int) (pl q:Int) (J c:Int) (A:List Nat) (L j:Rs) (P k R:Rs) (C:Mp) (Q:Ck Γ u q j k C) (U:CE y H Γ l x) (O:L=S.Ac l) (h:o=L.length∧o≤200000∧(y=0∨1≤c)∧0≤c∧c+S.A4 l≤1000∧S.Ag l≤200000∧S.A4 l≤m:=by exact kn),Ok trees N ⟨[o,z,sub,u,pl,q,J,c],[A],[L,j,P,k,R],[C]⟩ fun M=>(∃(g:Int),∃(d:Mp),M=(0,(⟨[0,g],[],[],[d]⟩:Ah))∧(Ck x u q j k d)∧(c=g))
theorem AaM:Abu 113 115:=by
 intro m c Γ O Z N l o q sub M pl H z u j L v P x R C y J g h
 subst g;have Q:S.A4 (l.drop (0:Int).toNat)=S.A4 l:=rfl;have U:S.Ag (l.drop (0:Int).toNat)=S.Ag l:=rfl
 refine .of (t:=O3) rfl ?_
 unfold O3
 obtain ⟨_,⟨D,d,rfl,A,rfl⟩,k⟩:=AaL @c o o 0 q sub M pl H z u j (S.Ac l) v P x R C y J rfl
 refine cm k ?_
 refine ch k ?_
 exact Aj ⟨[0,u],[],[],[d]⟩ (⟨_,_,rfl,‹_›,kn⟩)
theorem Ag4 (n:Nat):IB 113 n:=by
 induction n with
 |zero=>intro Γ H O C l q g sub A pl y v j d L k P o R x u z c h;exact absurd h.2.2.2.2.2.2 (Nat.not_lt_zero _)
 |succ n ih=>
 intro Γ H O C l q g sub A pl y v j d L k P o R x u z c h
 refine .of (t:=O4) rfl ?_
 unfold O4
 obtain ⟨_,⟨N,D,rfl,M,rfl⟩,J⟩:=AaM @ih q g sub A pl y v j d L k P o R x u z c
 refine ch J ?_
 exact Aj ⟨[0,j],[],[],[]⟩ (⟨_,rfl,kn⟩)
theorem SX:Xm 113:=fun {Γ} {lp} {pu} {Γe} {l} ln grp sub al pl fl bl lo knm L Ar P Fs R mp hC hO hLs h=>Ag4 (S.A4 l+1) ln grp sub al pl fl bl lo knm L Ar P Fs R mp hC hO hLs ⟨h.1,h.2.1,h.2.2.1,h.2.2.2.1,h.2.2.2.2.1,h.2.2.2.2.2,Nat.lt_succ_self _⟩
end Go.Proofs.YtbmofjdmgjpfoaaGreatDoor.Am
end
section
set_option maxHeartbeats 4000000
set_option maxRecDepth 100000
namespace Go.Proofs.YtbmofjdmgjpfoaaGreatDoor.Am
open Go.AM Go.AM.K
namespace Y
def Abs (N:Nat):Prop:=∀{Γ:Ctx} (k o:Int) (t b:Int) (xk xo:Int) (Q U:Int) (z yk:Int) (yo Z:Int) (yw A:Int) (c j:Int) (u sub:Int) (y pl:Int) (x D lo:Int) (nm O:List Nat) (M q:List Nat) (X Y:Rs) (C J:Rs) (d P:Rs) (g R:Rs) (v:Mp) (hC:Ck Γ y x d g v) (hg:Γ nm=none),Ok trees N ⟨[k,o,t,b,xk,xo,Q,U,z,yk,yo,Z,yw,A,c,j,u,sub,y,pl,x,D,lo],[nm,O,M,q],[X,Y,C,J,d,P,g,R],[v]⟩ fun H=>(H=(0,(⟨[30],[],[],[]⟩:Ah)))
theorem Xa:Abs 118:=by
 intro Γ k o t b Z xo M N x yk yo Q yw z g j u sub al pl U C lo nm J H q X Y A D v P y R O c d
 refine .of (t:=O2) rfl ?_
 unfold O2
 refine lm (c.Afa d) ?_
 exact Aj ⟨[30],[],[],[]⟩ (rfl)
end Y
namespace X
def Abx (N n:Nat):Prop:=∀{Γ:Ctx} {o D:Int} {k:Ctx} {l:List S} (d len:Int) (j q:Int) (sub C:Int) (pl A:Int) (H c:Int) (v:List Nat) (L u:Rs) (P x R:Rs) (y:Mp) (O:Ck Γ C A u x y) (Q:k [113,113,57]=none) (M:L=S.Ac (l++[Dx])) (U:CE o D Γ (l.drop j.toNat) k) (h:d=L.length∧d≤200000∧len=d∧0≤j∧j≤l.length∧(o=0∨1≤c)∧0≤c∧c+S.A4 (l.drop j.toNat)≤900∧S.Ag (l.drop j.toNat)≤200000∧(len-j).toNat<n),Ok trees N ⟨[d,len,j,q,sub,C,pl,A,H,c],[v],[L,u,P,x,R],[y]⟩ fun J=>(∃(g:Int),∃(z:Mp),J=(0,(⟨[30,g],[],[],[z]⟩:Ah))∧(c=g))
def Abt (N:Nat):Prop:=∀{Γ:Ctx} {o D:Int} {k:Ctx} {l:List S} (d len:Int) (j q:Int) (sub C:Int) (pl A:Int) (H c:Int) (v:List Nat) (L u:Rs) (P x R:Rs) (y:Mp) (O:Ck Γ C A u x y) (Q:k [113,113,57]=none) (M:L=S.Ac (l++[Dx])) (U:CE o D Γ (l.drop j.toNat) k) (h:d=L.length∧d≤200000∧len=d∧0≤j∧j≤l.length∧(o=0∨1≤c)∧0≤c∧c+S.A4 (l.drop j.toNat)≤900∧S.Ag (l.drop j.toNat)≤200000:=by exact kn),Ok trees N ⟨[d,len,j,q,sub,C,pl,A,H,c],[v],[L,u,P,x,R],[y]⟩ fun J=>(∃(g:Int),∃(z:Mp),J=(0,(⟨[30,g],[],[],[z]⟩:Ah))∧(c=g))
theorem ZK (n:Nat):Abx 116 n:=by
 induction n with
 |zero=>intro Γ lp pu Γe l ln len j q sub H pl D C d u L A P z R y J hn aw hO h;exact absurd h.2.2.2.2.2.2.2.2.2 (Nat.not_lt_zero _)
 |succ n ih=>
 intro Γ lp pu Γe l ln len j q sub H pl D C d u L A P z R y J hn aw hO h
 subst aw;have bC:=Rf (l:=l)
 rcases (by omega:j<(l.length:Int)∨j=(l.length:Int))with hj|rfl
 ·refine .of (t:=KR) rfl ?_
  unfold KR
  refine lt j len (fun t1=>?_) fun t1=>?_
  ·refine CX j 0 ?_
   refine BD j ln ?_
   obtain ⟨x,ai,t_1,ah,Z,ab,ad,ac,M,aa,v,Q,ae,U,O,N,o,k,g,bx,az,c,bt,bw,bA⟩:=CE.AkY j hO (by omega) (by omega)
   refine el az ?_
   have bk:=c.Aaa;have a2:=S.len k;have a3:=S.len g;have a9:=S.A7 k;have bb:=S.A7 g
   refine eq x 1 (fun t3=>?_) fun t3=>?_
   ·obtain ⟨_,⟨ax,rfl,aA⟩,G4⟩:=AdG x ai t_1 ah ab ad ac M ((E.Ac v).length:Int) Q ae U O ((E.Ac o).length:Int) ((S.Ac k).length:Int) ((S.Ac g).length:Int) q sub H pl D C d Z aa N u (E.Ac v) (E.Ac o) (S.Ac k) (S.Ac g) A P z R y J c rfl rfl rfl rfl
    refine ch G4 ?_
    refine Cc 0 0 ?_
    obtain ⟨_,⟨bm,aB,rfl,rfl⟩,G5⟩:=ih ln len (j+1) q sub H pl D C d u (S.Ac (l++[Dx])) A P z R ax aA hn rfl ‹_› kn
    refine ch G5 ?_
    first|exact Aj ⟨[30,d],[],[],[aB]⟩ (⟨_,_,rfl,kn⟩) |(exfalso;omega)
   refine eq x 2 (fun t6=>?_) fun t6=>?_
   ·obtain ⟨_,rfl,G7⟩:=Xa x ai t_1 ah ab ad ac M ((E.Ac v).length:Int) Q ae U O ((E.Ac o).length:Int) ((S.Ac k).length:Int) ((S.Ac g).length:Int) q sub H pl D C d Z aa N u (E.Ac v) (E.Ac o) (S.Ac k) (S.Ac g) A P z R y J c rfl rfl rfl rfl
    refine ch G7 ?_
    refine Cc 0 0 ?_
    obtain ⟨_,⟨bv,ay,rfl,rfl⟩,G8⟩:=ih ln len (j+1) q sub H pl D C d u (S.Ac (l++[Dx])) A P z R y (J.keep c (by omega)) hn rfl ‹_› kn
    refine ch G8 ?_
    first|exact Aj ⟨[30,d],[],[],[ay]⟩ (⟨_,_,rfl,kn⟩) |(exfalso;omega)
   refine eq x 5 (fun t9=>?_) fun t9=>?_
   ·obtain ⟨_,⟨bd,rfl,rfl⟩,aU⟩:=AdF (IB.of (n:=1000) @SX) x ai t_1 ah ab ad ac M ((E.Ac v).length:Int) Q ae U O ((E.Ac o).length:Int) ((S.Ac k).length:Int) ((S.Ac g).length:Int) q sub H pl D C d Z aa N u (E.Ac v) (E.Ac o) (S.Ac k) (S.Ac g) A P z R y J c rfl rfl rfl rfl
    refine ch aU ?_
    refine Cc 0 0 ?_
    obtain ⟨_,⟨bf,aj,rfl,rfl⟩,aW⟩:=ih ln len (j+1) q sub H pl D C d u (S.Ac (l++[Dx])) A P z R y (J.keep c (by omega)) hn rfl ‹_› kn
    refine ch aW ?_
    first|exact Aj ⟨[30,d],[],[],[aj]⟩ (⟨_,_,rfl,kn⟩) |(exfalso;omega)
   refine eq x 6 (fun aQ=>?_) fun aQ=>?_
   ·obtain ⟨_,⟨a7,rfl,rfl⟩,aL⟩:=AdE (IB.of (n:=1000) @SX) x ai t_1 ah ab ad ac M ((E.Ac v).length:Int) Q ae U O ((E.Ac o).length:Int) ((S.Ac k).length:Int) ((S.Ac g).length:Int) q sub H pl D C d Z aa N u (E.Ac v) (E.Ac o) (S.Ac k) (S.Ac g) A P z R y J c rfl rfl rfl rfl
    refine ch aL ?_
    refine Cc 0 0 ?_
    obtain ⟨_,⟨a4,aq,rfl,rfl⟩,aC⟩:=ih ln len (j+1) q sub H pl D C d u (S.Ac (l++[Dx])) A P z R y (J.keep c (by omega)) hn rfl ‹_› kn
    refine ch aC ?_
    first|exact Aj ⟨[30,d],[],[],[aq]⟩ (⟨_,_,rfl,kn⟩) |(exfalso;omega)
   refine eq x 7 (fun aI=>?_) fun aI=>?_
   ·refine eq d 0 (fun aJ=>?_) fun aJ=>?_
    ·first|exact Aj ⟨[31,d],[],[],[y]⟩ (⟨_,_,rfl,kn⟩) |(exfalso;omega)
    obtain ⟨_,⟨a6,ak,rfl,rfl⟩,aD⟩:=ih ln len (j+1) q sub H pl D C d u (S.Ac (l++[Dx])) A P z R y (J.keep c (by omega)) hn rfl ‹_› kn
    refine ch aD ?_
    first|exact Aj ⟨[30,d],[],[],[ak]⟩ (⟨_,_,rfl,kn⟩) |(exfalso;omega)
   refine eq x 8 (fun aN=>?_) fun aN=>?_
   ·refine eq d 0 (fun aZ=>?_) fun aZ=>?_
    ·first|exact Aj ⟨[31,d],[],[],[y]⟩ (⟨_,_,rfl,kn⟩) |(exfalso;omega)
    obtain ⟨_,⟨a8,ap,rfl,rfl⟩,aE⟩:=ih ln len (j+1) q sub H pl D C d u (S.Ac (l++[Dx])) A P z R y (J.keep c (by omega)) hn rfl ‹_› kn
    refine ch aE ?_
    first|exact Aj ⟨[30,d],[],[],[ap]⟩ (⟨_,_,rfl,kn⟩) |(exfalso;omega)
   refine eq x 3 (fun a1=>?_) fun a1=>?_
   ·obtain ⟨_,rfl,aM⟩:=AdD x ai t_1 ah ab ad ac M ((E.Ac v).length:Int) Q ae U O ((E.Ac o).length:Int) ((S.Ac k).length:Int) ((S.Ac g).length:Int) q sub H pl D C d Z aa N u (E.Ac v) (E.Ac o) (S.Ac k) (S.Ac g) A P z R y J c rfl rfl rfl rfl
    refine ch aM ?_
    refine Cc 0 0 ?_
    obtain ⟨_,⟨bc,av,rfl,rfl⟩,a0⟩:=ih ln len (j+1) q sub H pl D C d u (S.Ac (l++[Dx])) A P z R y (J.keep c (by omega)) hn rfl ‹_› kn
    refine ch a0 ?_
    first|exact Aj ⟨[30,d],[],[],[av]⟩ (⟨_,_,rfl,kn⟩) |(exfalso;omega)
   refine eq x 4 (fun aP=>?_) fun aP=>?_
   ·obtain ⟨_,rfl,aF⟩:=AdC x ai t_1 ah ab ad ac M ((E.Ac v).length:Int) Q ae U O ((E.Ac o).length:Int) ((S.Ac k).length:Int) ((S.Ac g).length:Int) q sub H pl D C d Z aa N u (E.Ac v) (E.Ac o) (S.Ac k) (S.Ac g) A P z R y J c rfl rfl rfl rfl
    refine ch aF ?_
    refine Cc 0 0 ?_
    obtain ⟨_,⟨be,am,rfl,rfl⟩,aY⟩:=ih ln len (j+1) q sub H pl D C d u (S.Ac (l++[Dx])) A P z R y (J.keep c (by omega)) hn rfl ‹_› kn
    refine ch aY ?_
    first|exact Aj ⟨[30,d],[],[],[am]⟩ (⟨_,_,rfl,kn⟩) |(exfalso;omega)
   refine eq x 12 (fun aK=>?_) fun aK=>?_
   ·obtain ⟨_,rfl,aX⟩:=AdB x ai t_1 ah ab ad ac M ((E.Ac v).length:Int) Q ae U O ((E.Ac o).length:Int) ((S.Ac k).length:Int) ((S.Ac g).length:Int) q sub H pl D C d Z aa N u (E.Ac v) (E.Ac o) (S.Ac k) (S.Ac g) A P z R y J c rfl rfl rfl rfl
    refine ch aX ?_
    refine Cc 0 0 ?_
    obtain ⟨_,⟨a5,au,rfl,rfl⟩,aH⟩:=ih ln len (j+1) q sub H pl D C d u (S.Ac (l++[Dx])) A P z R y (J.keep c (by omega)) hn rfl ‹_› kn
    refine ch aH ?_
    first|exact Aj ⟨[30,d],[],[],[au]⟩ (⟨_,_,rfl,kn⟩) |(exfalso;omega)
   obtain ⟨_,⟨ba,an,rfl,rfl⟩,aV⟩:=ih ln len (j+1) q sub H pl D C d u (S.Ac (l++[Dx])) A P z R y (J.keep c (by omega)) hn rfl ‹_› kn
   refine ch aV ?_
   first|exact Aj ⟨[30,d],[],[],[an]⟩ (⟨_,_,rfl,kn⟩) |(exfalso;omega)
  exact dead
 ·have aO:l.drop (l.length:Int).toNat=[]:=(by simp);rw [aO]at hO;cases hO
  refine .of (t:=KR) rfl ?_
  unfold KR
  refine lt (l.length:Int) len (fun aG=>?_) fun aG=>?_
  ·refine CX (l.length:Int) 0 ?_
   refine BD (l.length:Int) ln ?_
   refine el Adf ?_
   refine AT 2 1 ?_
   refine BL 2 2 ?_
   obtain ⟨_,rfl,aR⟩:=Y.Xa 2 0 0 0 1 0 1 1 ([].length:Int) 0 0 0 0 ([].length:Int) ([].length:Int) ([].length:Int) q sub H pl D C d [113,113,57] [] [] u [] [] [] [] A P z R y J hn
   refine ch aR ?_
   refine neY 30 0 ?_
   first|exact Aj ⟨[30,d],[],[],[y]⟩ (⟨_,_,rfl,kn⟩) |(exfalso;omega)
  exact dead
theorem AaL:Abt 116:=fun {Γ} {lp} {pu} {Γe} {l} ln len j grp sub al pl fl bl lo knm L Ar P Fs R mp hC hn hLs hO h=>ZK ((len-j).toNat+1) ln len j grp sub al pl fl bl lo knm L Ar P Fs R mp hC hn hLs hO ⟨h.1,h.2.1,h.2.2.1,h.2.2.2.1,h.2.2.2.2.1,h.2.2.2.2.2.1,h.2.2.2.2.2.2.1,h.2.2.2.2.2.2.2.1,h.2.2.2.2.2.2.2.2,Nat.lt_succ_self _⟩
def Abu (N:Nat):Prop:=∀{Γ:Ctx} {k C:Int} {j:Ctx} {l:List S} (g o:Int) (sub A:Int) (pl z:Int) (D c:Int) (u:List Nat) (L q:Rs) (P v R:Rs) (x:Mp) (M:Ck Γ A z q v x) (O:j [113,113,57]=none) (J:L=S.Ac (l++[Dx])) (Q:CE k C Γ l j) (h:g=L.length∧g≤200000∧(k=0∨1≤c)∧0≤c∧c+S.A4 l≤900∧S.Ag l≤200000:=by exact kn),Ok trees N ⟨[g,o,sub,A,pl,z,D,c],[u],[L,q,P,v,R],[x]⟩ fun H=>(∃(d:Int),∃(y:Mp),H=(0,(⟨[30,d],[],[],[y]⟩:Ah))∧(c=d))
theorem AaM:Abu 115:=by
 intro Γ N U M l j k sub J pl D z o g L q P u R A x y d H h
 have O:S.A4 (l.drop (0:Int).toNat)=S.A4 l:=rfl;have Q:S.Ag (l.drop (0:Int).toNat)=S.Ag l:=rfl
 refine .of (t:=O3) rfl ?_
 unfold O3
 obtain ⟨_,⟨C,c,rfl,rfl⟩,v⟩:=AaL j j 0 k sub J pl D z o g L q P u R A x y d H
 refine ch v ?_
 exact Aj ⟨[30,o],[],[],[c]⟩ (⟨_,_,rfl,kn⟩)
def Xm (N:Nat):Prop:=∀{Γ:Ctx} {k A:Int} {j:Ctx} {l:List S} (g o:Int) (sub z:Int) (pl y:Int) (C c:Int) (u:List Nat) (L q:Rs) (P v R:Rs) (x:Mp) (J:Ck Γ z y q v x) (M:j [113,113,57]=none) (H:L=S.Ac (l++[Dx])) (O:CE k A Γ l j) (h:g=L.length∧g≤200000∧(k=0∨1≤c)∧0≤c∧c+S.A4 l≤900∧S.Ag l≤200000:=by exact kn),Ok trees N ⟨[g,o,sub,z,pl,y,C,c],[u],[L,q,P,v,R],[x]⟩ fun D=>(∃(d:Int),D=(0,(⟨[30,d],[],[],[]⟩:Ah))∧(c=d))
theorem SX:Xm 113:=by
 intro Γ N O M l v g sub J pl D z j d L o P q R A x y c H h
 refine .of (t:=O4) rfl ?_
 unfold O4
 obtain ⟨_,⟨C,k,rfl,rfl⟩,u⟩:=AaM v g sub J pl D z j d L o P q R A x y c H
 refine ch u ?_
 exact Aj ⟨[30,j],[],[],[]⟩ (⟨_,rfl,kn⟩)
end X
end Go.Proofs.YtbmofjdmgjpfoaaGreatDoor.Am
end
