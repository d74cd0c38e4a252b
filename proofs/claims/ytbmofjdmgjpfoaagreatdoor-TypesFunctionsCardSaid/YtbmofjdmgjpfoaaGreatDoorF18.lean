/- Part 18 of TypesFunctions. -/
import Derived.Test.YtbmofjdmgjpfoaaGreatDoorF17
set_option linter.all false
namespace Go.Proofs.YtbmofjdmgjpfoaaGreatDoor.Am
section
set_option maxHeartbeats 4000000
set_option maxRecDepth 100000
open Go.AM Go.AM.K
def Ams (N:Nat):Prop:=∀(u:Int) (o t:Int) (j:Ym o t u),Ok trees N ⟨[o,t],[],[],[]⟩ fun x=>x=(0,(⟨[u,0],[],[],[]⟩:Aj))
theorem Aeb:Ams 131:=by
 intro u o t j
 unfold Ym at j
 rcases j with ⟨rfl|rfl,rfl|rfl,rfl⟩|⟨rfl,rfl|rfl,rfl⟩|⟨rfl,rfl,rfl⟩|⟨rfl,rfl,rfl⟩<;>exact Ok.num (t:=Zf) (a:=0) (ms:=[_,0]) rfl (by kernel_rfl) rfl
def Amr (N:Nat):Prop:=∀(u:Int) (o t j:Int) (q:KL o t u) (v:j=t),Ok trees N ⟨[o,t,j],[],[],[]⟩ fun x=>x=(0,(⟨[u,0],[],[],[]⟩:Aj))
theorem AbG:Amr 132:=by
 intro u o t j q v
 subst v
 unfold KL at q
 rcases q with ⟨rfl|rfl|rfl|rfl,rfl|rfl,rfl⟩|⟨rfl|rfl|rfl|rfl|rfl,rfl,rfl⟩|⟨rfl|rfl,rfl,rfl⟩|⟨rfl|rfl|rfl,rfl|rfl,rfl⟩|⟨ho,h1,h3,rfl⟩|⟨rfl|rfl|rfl|rfl,rfl|rfl,rfl⟩
 case inr.inr.inr.inr.inl=>
  have:j=1∨j=2∨j=3:=by omega
  rcases ho with rfl|rfl<;>rcases this with rfl|rfl|rfl<;>exact Ok.num (t:=V9) (a:=0) (ms:=[_,0]) rfl (by kernel_rfl) rfl
 all_goals exact Ok.num (t:=V9) (a:=0) (ms:=[_,0]) rfl (by kernel_rfl) rfl
def Xc (N:Nat) (Γ:Ctx) (X fl:Int) (Ar V:Rs) (mp:Mp) (n:Nat):Prop:=∀(v ln:Int) (len j:Int) (H sub:Int) (pl U:Int) (lo B:Int) (q J:Int) (Q L:Int) (O rv Y:Int) (z I A:List Nat) (T C:Rs) (P R:Rs) (x Z RA:Rs) (hT:T=[1,1].map Bb) (hF:C=DO) (h:v=2/\ln=2/\len=2/\0<=j/\j<=2/\(2-j).toNat<n),Ok trees N ⟨[v,ln,len,j,H,sub,X,pl,fl,U,lo,B,q,J,Q,L,O,rv,Y],[z,I,A],[T,C,Ar,P,V,R,x,Z,RA],[mp]⟩ fun M=>(M=(1,v0))
def WZ (N:Nat):Prop:=∀{Γ:Ctx} {C fl:Int} {M B:Rs} {Q:Mp} (hC:Ck Γ C fl M B Q) (v ln:Int) (len j:Int) (J sub:Int) (pl Z:Int) (lo H:Int) (q O:Int) (Y U:Int) (X rv rl:Int) (z L A:List Nat) (T I:Rs) (P R:Rs) (x FB RA:Rs) (hT:T=[1,1].map Bb) (hF:I=DO) (h:v=2/\ln=2/\len=2/\0<=j/\j<=2:=by exact kn),Ok trees N ⟨[v,ln,len,j,J,sub,C,pl,fl,Z,lo,H,q,O,Y,U,X,rv,rl],[z,L,A],[T,I,M,P,B,R,x,FB,RA],[Q]⟩ fun V=>(V=(1,v0))
theorem AaB {Γ:Ctx} {O fl:Int} {Ar Fs:Rs} {X:Mp} (hC:Ck Γ O fl Ar Fs X) (n:Nat):Xc 136 Γ O fl Ar Fs X n:=by
 induction n with
 |zero=>intro I ln len j z sub pl bl lo H q B Z Y N V Q x A C T FP P R v U RA M hF h;exact absurd h.2.2.2.2.2 (Nat.not_lt_zero _)
 |succ n ih=>
 intro I ln len j z sub pl bl lo H q B Z Y N V Q x A C T FP P R v U RA M hF h
 subst M;subst hF
 refine .of (t:=RN) rfl ?_
 conv=>arg 3;reduce
 refine lt j len (fun t1=>?_) fun t1=>?_
 ·refine CO j 0 ?_
  refine B8 j ln ?_
  obtain ⟨ah,J⟩:=Pc j om om
  refine el J ?_
  refine B8 j I ?_
  have L:=Sx j om om
  refine el L ?_
  refine BB 1 1 ?_
  obtain ⟨_,rfl,G4⟩:=ih I ln len (j+1) z sub pl bl lo H q B Z Y N V Q x A C ([1,1].map Bb) DO P R v U RA rfl rfl kn
  refine cm G4 ?_
  refine ch G4 ?_
  exact Ag v0 (rfl)
 exact Ag v0 (rfl)
theorem AbF:WZ 136:=fun {Γ} {al} {fl} {Ar} {Fs} {mp} hC tl ln len j grp sub pl bl lo fpl fty fbl rk ro ry rv rl knm fnm rnm T FP P R FP2 FB RA hT hF h=>AaB hC ((2-j).toNat+1) tl ln len j grp sub pl bl lo fpl fty fbl rk ro ry rv rl knm fnm rnm T FP P R FP2 FB RA hT hF ⟨h.1,h.2.1,h.2.2.1,h.2.2.2.1,h.2.2.2.2,Nat.lt_succ_self _⟩
def Pz (N:Nat):Prop:=∀{Γ:Ctx} {z fl:Int} {I v:Rs} {L:Mp} (hC:Ck Γ z fl I v L) (q j:Int) (J rk:Int) (O V:Int) (Y Q:Int) (x C:Int) (sub pl:Int) (bl lo:Int) (H M B:List Nat) (A X:Rs) (Z T:Rs) (P R:Rs) (hT:T=[1,1].map Bb) (hF:A=DO) (h:x=2/\q=2/\j=1:=by exact kn),Ok trees N ⟨[q,j,J,rk,O,V,Y,Q,x,C,sub,z,pl,fl,bl,lo],[H,M,B],[A,X,Z,T,I,P,v,R],[L]⟩ fun U=>(U=(0,(⟨[1,0],[],[],[]⟩:Aj)))
theorem Th:Pz 133:=by
 intro Γ al fl Ar Z mp I V U B J C H O M Y z sub pl L lo A v q x N Q T P R X hF h
 obtain ⟨rfl,rfl,rfl⟩:=h
 refine .of (t:=RO) rfl ?_
 conv=>arg 3;reduce
 refine BB 2 2 ?_
 obtain ⟨_,rfl,j⟩:=AbF I 2 2 2 0 z sub pl L lo 2 1 B J C H O M q A v T x P R x N Q asm asm
 refine cm j ?_
 refine ch j ?_
 exact Ag ⟨[1,0],[],[],[]⟩ (rfl)
def HM (N:Nat) (Γ:Ctx) (z fl:Int) (C x:Rs) (I:Mp) (n:Nat):Prop:=∀{a:List E} (t k:Int) (o ty:Int) (v ln:Int) (q sub:Int) (pl H lo:Int) (s j:List Nat) (A P R:Rs) (J:T Γ t (.node k o ty v s a)) (L:A=E.Aa a) (h:ln=A.length/\(E.node k o ty v s a).high<n),Ok trees N ⟨[k,o,ty,v,ln,q,sub,z,pl,fl,H,lo],[s,j],[A,C,P,x,R],[I]⟩ fun B=>(B=(0,(⟨[t,0],[],[],[]⟩:Aj)))
def JO (N:Nat):Prop:=∀{Γ:Ctx} {q fl:Int} {B j:Rs} {C:Mp} (M:Ck Γ q fl B j C) {a:List E} (t k:Int) (o ty:Int) (v ln:Int) (z sub:Int) (pl I lo:Int) (s x:List Nat) (A P R:Rs) (J:T Γ t (.node k o ty v s a)) (L:A=E.Aa a) (h:ln=A.length:=by exact kn),Ok trees N ⟨[k,o,ty,v,ln,z,sub,q,pl,fl,I,lo],[s,x],[A,B,P,j,R],[C]⟩ fun H=>(H=(0,(⟨[t,0],[],[],[]⟩:Aj)))
theorem HM.of {N:Nat} {Γ:Ctx} {x fl:Int} {q j:Rs} {z:Mp} (B:Ck Γ x fl q j z) {n:Nat} (H:JO N):HM N Γ x fl q j z n:=fun {a} t k o ty v ln grp sub pl bl lo s knm A P R hT hA h=>H B t k o ty v ln grp sub pl bl lo s knm A P R hT hA (by have:=h;omega)
def Aew (H N:Nat) (Γ:Ctx) (I fl:Int) (J C:Rs) (O:Mp) (m n:Nat):Prop:=∀{a:List E} (ts:List Int) (q ln:Int) (len j:Int) (B sub:Int) (pl M lo:Int) (A:List Nat) (L P:Rs) (R Q:Rs) (V:Ts Γ ts a) (U:L=E.Aa a) (X:Q=(ts.take j.toNat).map Bb) (h:ln=L.length/\ln<=3/\len=ln/\0<=j/\j<=ln/\q=Q.length/\q+(len-j)<=9/\0<=q/\E.BL a<m/\(len-j).toNat<n),Ok trees N ⟨[q,ln,len,j,B,sub,I,pl,fl,M,lo],[A],[L,J,P,C,R,Q],[O]⟩ fun x=>(x=(2,v0)/\(Q=ts.map Bb))∨(∃(v:Int),∃(z:Rs),x=(3,(⟨[v],[],[z],[]⟩:Aj))/\(z=ts.map Bb)/\(v=(ts.length:Int)))
def Aen (x N:Nat):Prop:=∀{m:Nat} {Γ:Ctx} {z fl:Int} {A v:Rs} {B:Mp} (Y:Ck Γ z fl A v B) (O:HM x Γ z fl A v B m) {a:List E} (ts:List Int) (q ln:Int) (len j:Int) (M sub:Int) (pl U lo:Int) (J:List Nat) (L P:Rs) (R Q:Rs) (X:Ts Γ ts a) (V:L=E.Aa a) (Z:Q=(ts.take j.toNat).map Bb) (h:ln=L.length/\ln<=3/\len=ln/\0<=j/\j<=ln/\q=Q.length/\q+(len-j)<=9/\0<=q/\E.BL a<m:=by exact kn),Ok trees N ⟨[q,ln,len,j,M,sub,z,pl,fl,U,lo],[J],[L,A,P,v,R,Q],[B]⟩ fun H=>(H=(2,v0)/\(Q=ts.map Bb))∨(∃(C:Int),∃(I:Rs),H=(3,(⟨[C],[],[I],[]⟩:Aj))/\(I=ts.map Bb)/\(C=(ts.length:Int)))
theorem Aiy {Γ:Ctx} {N fl:Int} {O M:Rs} {V:Mp} (hC:Ck Γ N fl O M V) {m:Nat} (B:HM 124 Γ N fl O M V m) (n:Nat):Aew 124 134 Γ N fl O M V m n:=by
 induction n with
 |zero=>intro a ts ql ln len j A sub pl J lo x L P R Q v I X h;exact absurd h.2.2.2.2.2.2.2.2.2 (Nat.not_lt_zero _)
 |succ n ih=>
 intro a ts ql ln len j A sub pl J lo x L P R Q v I X h
 subst I
 refine .of (t:=Ze) rfl ?_
 conv=>arg 3;reduce
 refine lt j len (fun t1=>?_) fun t1=>?_
 ·refine CO j 0 ?_
  refine B8 j ln ?_
  obtain ⟨ad,Z,Y,ac,aa,C,H,U,an,aj,ah⟩:=v.get j om om
  refine el U ?_
  obtain ⟨_,rfl,G3⟩:=B H ad Z Y ac ((E.Aa C).length:Int) A sub pl J lo aa x (E.Aa C) P R asm rfl kn
  refine ch G3 ?_
  refine BB 0 0 ?_
  refine dL (Q++[[PV.int .i64 H]]) (fun z e4=>?_) (Bq (pw ql Q) pe)
  have f4:=cL e4;try simp only [lA,lC,lN,lT']at f4
  refine Er (z.length:Int) 1048576 ?_
  obtain ⟨_,(⟨rfl,ae⟩|⟨ag,af,rfl,rfl,rfl⟩),q⟩:=ih ts (z.length:Int) ln len (j+1) A sub pl J lo x (E.Aa a) P R z v rfl (by subst_vars;exact HN asm om) kn
  ·refine cm q ?_
   refine cm q ?_
   refine ch q ?_
   exact Ag ⟨[(z.length:Int)],[],[z],[]⟩ (.inr ((⟨_,_,rfl,(by first|rfl|assumption|(subst_vars;assumption)),(by first|rfl|(have e:=‹_=ts.map Bb›;rw [e];exact Ts.CL))⟩)))
  refine cm q ?_
  refine cm q ?_
  refine cm q ?_
  refine ch q ?_
  exact Ag ⟨[(ts.length:Int)],[],[(ts.map Bb)],[]⟩ (.inr ((⟨_,_,rfl,(by first|rfl|assumption|(subst_vars;assumption)),(by first|rfl|(have e:=‹_=ts.map Bb›;rw [e];exact Ts.CL))⟩)))
 exact Ag v0 (.inl (⟨rfl,(X.trans (v.end om))⟩))
theorem Alf:Aen 124 134:=fun {m} {Γ} {al} {fl} {Ar} {Fs} {mp} hC hC124 {a} ts ql ln len j grp sub pl bl lo knm L P R Q hTs hLa hQ h=>Aiy hC @hC124 ((len-j).toNat+1) ts ql ln len j grp sub pl bl lo knm L P R Q hTs hLa hQ ⟨h.1,h.2.1,h.2.2.1,h.2.2.2.1,h.2.2.2.2.1,h.2.2.2.2.2.1,h.2.2.2.2.2.2.1,h.2.2.2.2.2.2.2.1,h.2.2.2.2.2.2.2.2,Nat.lt_succ_self _⟩
def Aeo (v N:Nat):Prop:=∀{m:Nat} {Γ:Ctx} {x fl:Int} {z q:Rs} {A:Mp} (V:Ck Γ x fl z q A) (M:HM v Γ x fl z q A m) {a:List E} (ts:List Int) (ln len:Int) (j J:Int) (sub pl:Int) (O lo:Int) (I:List Nat) (L P R:Rs) (U:Ts Γ ts a) (Q:L=E.Aa a) (h:ln=L.length/\ln<=3/\len=ln/\j=0/\E.BL a<m:=by exact kn),Ok trees N ⟨[ln,len,j,J,sub,x,pl,fl,O,lo],[I],[L,z,P,q,R],[A]⟩ fun C=>(C=(0,v0)/\(ts=[]))∨(∃(B:Int),∃(H:Rs),C=(2,(⟨[B],[],[H],[]⟩:Aj))/\(H=ts.map Bb)/\(B=(ts.length:Int)))
theorem Alh:Aeo 124 128:=by
 intro m Γ al fl Ar Fs mp hC v a ts ln len j C sub pl N lo z L P R x U h
 subst U;obtain ⟨h1,h2,rfl,rfl,h5⟩:=h
 refine .of (t:=Zh) rfl ?_
 conv=>arg 3;reduce
 refine lt 0 len (fun t1=>?_) fun t1=>?_
 ·refine CO 0 0 ?_
  refine B8 0 len ?_
  obtain ⟨X,O,M,V,Q,A,B,I,ag,ae,ab⟩:=x.get 0 om om
  refine el I ?_
  obtain ⟨_,rfl,G3⟩:=v B X O M V ((E.Aa A).length:Int) C sub pl N lo Q z (E.Aa A) P R asm rfl kn
  refine ch G3 ?_
  refine BB 0 0 ?_
  refine dL [[.int .i64 B]] (fun H e4=>?_)
  have f4:=cL e4;try simp only [lA,lC,lN,lT']at f4
  refine ll 1 H ?_
  obtain ⟨_,(⟨rfl,Y⟩|⟨aa,Z,rfl,rfl,rfl⟩),q⟩:=Alf hC @v ts 1 len len (0+1) C sub pl N lo z (E.Aa a) P R H x rfl (by subst_vars;exact (HN (j:=0) asm om))
  ·refine cm q ?_
   refine cm q ?_
   refine ch q ?_
   exact Ag ⟨[1],[],[H],[]⟩ (.inr ((⟨_,_,rfl,(by first|rfl|(subst_vars;first|rfl|assumption)),(by first|rfl|(have e:=‹_=ts.map Bb›;have J:=Ts.CL (ts:=ts);rw [<-e]at J;omega) |(subst_vars;first|rfl|simp))⟩)))
  refine cm q ?_
  refine cm q ?_
  refine cm q ?_
  refine ch q ?_
  exact Ag ⟨[(ts.length:Int)],[],[(ts.map Bb)],[]⟩ (.inr ((⟨_,_,rfl,(by first|rfl|(subst_vars;first|rfl|assumption)),(by first|rfl|(have e:=‹_=ts.map Bb›;have J:=Ts.CL (ts:=ts);rw [<-e]at J;omega) |(subst_vars;first|rfl|simp))⟩)))
 exact Ag v0 (.inl (⟨rfl,(x.none om)⟩))
def Aep (q N:Nat):Prop:=∀{m:Nat} {Γ:Ctx} {v fl:Int} {x j:Rs} {z:Mp} (U:Ck Γ v fl x j z) (I:HM q Γ v fl x j z m) {a:List E} (ts:List Int) (ln H:Int) (sub pl:Int) (M lo:Int) (C:List Nat) (L P R:Rs) (Q:Ts Γ ts a) (O:L=E.Aa a) (h:ln=L.length/\ln<=3/\E.BL a<m:=by exact kn),Ok trees N ⟨[ln,H,sub,v,pl,fl,M,lo],[C],[L,x,P,j,R],[z]⟩ fun J=>(∃(A:Int),∃(B:Rs),J=(0,(⟨[A,0],[],[B],[]⟩:Aj))/\(B=ts.map Bb)/\(A=(ts.length:Int)))
theorem HJ:Aep 124 127:=by
 intro m Γ Q fl U O V J q a ts ln B sub pl M lo z L P R x A h
 subst A;have N:=Ts.CL (ts:=ts)
 refine .of (t:=Zi) rfl ?_
 conv=>arg 3;reduce
 obtain ⟨_,(⟨rfl,H⟩|⟨I,C,rfl,rfl,rfl⟩),j⟩:=Alh J @q ts ln ln 0 B sub pl M lo z (E.Aa a) P R x rfl
 ·refine ch j ?_
  refine de [] ?_
  refine ll 0 [] ?_
  exact Ag ⟨[0,0],[],[[]],[]⟩ (⟨_,_,rfl,(by first|rfl|(subst_vars;first|rfl|assumption)),(by first|rfl|(have e:=‹_=ts.map Bb›;have v:=Ts.CL (ts:=ts);rw [<-e]at v;omega) |(subst_vars;first|rfl|simp))⟩)
 refine cm j ?_
 refine cm j ?_
 refine ch j ?_
 refine ll (ts.length:Int) (ts.map Bb) ?_
 refine fr ?_
 exact Ag ⟨[(ts.length:Int),0],[],[(ts.map Bb)],[]⟩ (⟨_,_,rfl,(by first|rfl|(subst_vars;first|rfl|assumption)),(by first|rfl|(have e:=‹_=ts.map Bb›;have v:=Ts.CL (ts:=ts);rw [<-e]at v;omega) |(subst_vars;first|rfl|simp))⟩)
theorem Ai0 {Γ:Ctx} {al fl:Int} {Ar Fs:Rs} {mp:Mp} (J:Ck Γ al fl Ar Fs mp) (n:Nat):HM 124 Γ al fl Ar Fs mp n:=by
 induction n with
 |zero=>intro a t k o ty v ln I sub pl V lo s H A P R hT hA h;exact absurd h.2 (Nat.not_lt_zero _)
 |succ n ih=>
 intro a t k o ty v ln I sub pl V lo s H A P R hT hA h
 subst hA;have e2:=J3 (k:=k) (o:=o) (ty:=ty) (v:=v) (s:=s) (a:=a);have L:ln=(a.length:Int):=by have:=h.1;rw [E.A0]at this;exact this
 rcases hT.inv with hv|hv|hv|hv|hv|hv|hv|hv
 ·obtain ⟨rfl,rfl,rfl,rfl,rfl,r1,r2,r3,r4,r5,r6⟩:=hv;simp only [lC,lN]at L;have Y:E.Ad []=0:=rfl
  refine .of (t:=F8) rfl ?_
  conv=>arg 3;reduce
  obtain ⟨_,⟨a2,aX,rfl,rfl,rfl⟩,G1⟩:=HJ J @ih [] ln I sub pl V lo H (E.Aa []) P R (by exact .nil) rfl
  refine ch G1 ?_
  refine BB 0 0 ?_
  refine AH 1 1 ?_
  first|exact Ag ⟨[ty,0],[],[],[]⟩ (rfl) |(exfalso;omega)
 ·obtain ⟨rfl,rfl,rfl,rfl,rfl,rfl,r1,r2⟩:=hv;simp only [lC,lN]at L;have Y:E.Ad []=0:=rfl
  refine .of (t:=F8) rfl ?_
  conv=>arg 3;reduce
  obtain ⟨_,⟨ba,a1,rfl,rfl,rfl⟩,G2⟩:=HJ J @ih [] ln I sub pl V lo H (E.Aa []) P R (by exact .nil) rfl
  refine ch G2 ?_
  refine BB 0 0 ?_
  refine Az 3 1 ?_
  refine AH 3 3 ?_
  first|exact Ag ⟨[1,0],[],[],[]⟩ (rfl) |(exfalso;omega)
 ·obtain ⟨rfl,rfl,rfl,rfl,rfl,hs,kk,ii,hk,r1,r2,hg⟩:=hv;simp only [lC,lN]at L;have Y:E.Ad []=0:=rfl
  refine .of (t:=F8) rfl ?_
  conv=>arg 3;reduce
  obtain ⟨_,⟨aW,a4,rfl,rfl,rfl⟩,G3⟩:=HJ J @ih [] ln I sub pl V lo H (E.Aa []) P R (by exact .nil) rfl
  refine ch G3 ?_
  refine BB 0 0 ?_
  refine Az 2 1 ?_
  refine Az 2 3 ?_
  refine Az 2 4 ?_
  refine Az 2 5 ?_
  refine Az 2 6 ?_
  refine AH 2 2 ?_
  refine lh (J.look hg) ?_
  refine eq kk 2 (fun t4=>?_) fun t4=>?_
  ·first|exact Ag ⟨[t,0],[],[],[]⟩ (rfl) |(exfalso;omega)
  refine eq kk 3 (fun t5=>?_) fun t5=>?_
  ·first|exact Ag ⟨[t,0],[],[],[]⟩ (rfl) |(exfalso;omega)
  first|exact Ag ⟨[0,30],[],[],[]⟩ (rfl) |(exfalso;omega)
 ·obtain ⟨rfl,rfl,rfl,rfl,k1,q,t1,B,j,C,w,rfl,hu,X⟩:=hv;simp only [lC,lN]at L;have Y:=n1 (x:=.node k1 q t1 B j C);have e4:=g1 (x:=.node k1 q t1 B j C);have hr:=hu.Ty
  refine .of (t:=F8) rfl ?_
  conv=>arg 3;reduce
  obtain ⟨_,⟨a0,aM,rfl,rfl,rfl⟩,G6⟩:=HJ J @ih [w] ln I sub pl V lo H (E.Aa [.node k1 q t1 B j C]) P R (by exact .cons X .nil) rfl
  refine ch G6 ?_
  refine BB 0 0 ?_
  refine Az 4 1 ?_
  refine Az 4 3 ?_
  refine AH 4 4 ?_
  refine B8 0 ([w].length:Int) ?_
  refine el (j':=0) rfl ?_
  obtain ⟨_,rfl,G7⟩:=Aeb t o w hu
  refine ch G7 ?_
  first|exact Ag ⟨[t,0],[],[],[]⟩ (rfl) |(exfalso;omega)
 ·obtain ⟨rfl,rfl,rfl,rfl,k1,q,t1,B,j,C,M,U,O,Q,N,b2,w,rfl,hu,X,Z⟩:=hv;simp only [lC,lN]at L;have Y:=n2 (x:=.node k1 q t1 B j C) (y:=.node M U O Q N b2);have e4:=g2 (x:=.node k1 q t1 B j C) (y:=.node M U O Q N b2);have hr:=hu.Ty
  refine .of (t:=F8) rfl ?_
  conv=>arg 3;reduce
  obtain ⟨_,⟨aP,aR,rfl,rfl,rfl⟩,G8⟩:=HJ J @ih [w,w] ln I sub pl V lo H (E.Aa [.node k1 q t1 B j C,.node M U O Q N b2]) P R (by exact .cons X (.cons Z .nil)) rfl
  refine ch G8 ?_
  refine BB 0 0 ?_
  refine Az 5 1 ?_
  refine Az 5 3 ?_
  refine Az 5 4 ?_
  refine AH 5 5 ?_
  refine B8 0 ([w,w].length:Int) ?_
  refine el (j':=0) rfl ?_
  refine B8 1 ([w,w].length:Int) ?_
  refine el (j':=1) rfl ?_
  obtain ⟨_,rfl,G9⟩:=AbG t o w w hu rfl
  refine ch G9 ?_
  first|exact Ag ⟨[t,0],[],[],[]⟩ (rfl) |(exfalso;omega)
 ·obtain ⟨rfl,rfl,rfl,rfl,rfl,k1,q,t1,B,j,C,M,U,O,Q,N,b2,k3,o3,t3,v3,s3,b3,rfl,X,Z,h3⟩:=hv;simp only [lC,lN]at L;have Y:=n3 (x:=.node k1 q t1 B j C) (y:=.node M U O Q N b2) (z:=.node k3 o3 t3 v3 s3 b3);have e4:=g3 (x:=.node k1 q t1 B j C) (y:=.node M U O Q N b2) (z:=.node k3 o3 t3 v3 s3 b3)
  refine .of (t:=F8) rfl ?_
  conv=>arg 3;reduce
  obtain ⟨_,⟨aF,aH,rfl,rfl,rfl⟩,az⟩:=HJ J @ih [3,t,t] ln I sub pl V lo H (E.Aa [.node k1 q t1 B j C,.node M U O Q N b2,.node k3 o3 t3 v3 s3 b3]) P R (by exact .cons X (.cons Z (.cons h3 .nil))) rfl
  refine ch az ?_
  refine BB 0 0 ?_
  refine Az 6 1 ?_
  refine Az 6 3 ?_
  refine Az 6 4 ?_
  refine Az 6 5 ?_
  refine AH 6 6 ?_
  refine B8 0 ([3,t,t].length:Int) ?_
  refine el (j':=0) rfl ?_
  refine BB 3 3 ?_
  refine B8 1 ([3,t,t].length:Int) ?_
  refine el (j':=1) rfl ?_
  refine B8 2 ([3,t,t].length:Int) ?_
  refine el (j':=2) rfl ?_
  refine BB t t ?_
  first|exact Ag ⟨[t,0],[],[],[]⟩ (rfl) |(exfalso;omega)
 ·obtain ⟨rfl,rfl,rfl,rfl,hs,k1,q,t1,B,j,C,ii,rfl,r1,r2,hg,X⟩:=hv;simp only [lC,lN]at L;have Y:=n1 (x:=.node k1 q t1 B j C);have e4:=g1 (x:=.node k1 q t1 B j C)
  refine .of (t:=F8) rfl ?_
  conv=>arg 3;reduce
  obtain ⟨_,⟨aE,aG,rfl,rfl,rfl⟩,aB⟩:=HJ J @ih [1] ln I sub pl V lo H (E.Aa [.node k1 q t1 B j C]) P R (by exact .cons X .nil) rfl
  refine ch aB ?_
  refine BB 0 0 ?_
  refine Az 7 1 ?_
  refine Az 7 3 ?_
  refine Az 7 4 ?_
  refine Az 7 5 ?_
  refine Az 7 6 ?_
  refine Az 7 2 ?_
  refine AH 7 7 ?_
  refine lh (J.look hg) ?_
  refine AH 0 0 ?_
  refine B8 0 ([1].length:Int) ?_
  refine el (j':=0) rfl ?_
  refine BB 1 1 ?_
  first|exact Ag ⟨[t,0],[],[],[]⟩ (rfl) |(exfalso;omega)
 ·obtain ⟨rfl,rfl,rfl,rfl,rfl,k1,q,t1,B,j,C,M,U,O,Q,N,b2,ii,rfl,rfl,hg,X,Z⟩:=hv;simp only [lC,lN]at L;have Y:=n2 (x:=.node k1 q t1 B j C) (y:=.node M U O Q N b2);have e4:=g2 (x:=.node k1 q t1 B j C) (y:=.node M U O Q N b2);obtain ⟨bb,bc,F_,kf,ay,yf,wf,sf,Af,an⟩:=J.fn _ hg;have be:(DO.length:Int)=2:=rfl
  refine .of (t:=F8) rfl ?_
  conv=>arg 3;reduce
  obtain ⟨_,⟨aI,aJ,rfl,rfl,rfl⟩,aq⟩:=HJ J @ih [1,1] ln I sub pl V lo H (E.Aa [.node k1 q t1 B j C,.node M U O Q N b2]) P R (by exact .cons X (.cons Z .nil)) rfl
  refine ch aq ?_
  refine BB 0 0 ?_
  refine Az 8 1 ?_
  refine Az 8 3 ?_
  refine Az 8 4 ?_
  refine Az 8 5 ?_
  refine Az 8 6 ?_
  refine Az 8 2 ?_
  refine Az 8 7 ?_
  refine AH 8 8 ?_
  refine lh (J.look hg) ?_
  refine AH 1 1 ?_
  refine CO ii 0 ?_
  refine B8 ii fl ?_
  refine el an ?_
  obtain ⟨_,rfl,au⟩:=Th J (DO.length:Int) 1 (F_.length:Int) kf ay yf wf (Af.length:Int) ([1,1].length:Int) I sub pl V lo [104] sf H DO F_ Af ([1,1].map Bb) P R rfl rfl
  refine ch au ?_
  first|exact Ag ⟨[1,0],[],[],[]⟩ (rfl) |(exfalso;omega)
theorem FV:JO 124:=fun {Γ} {al} {fl} {Ar} {Fs} {mp} hC {a} t k o ty v ln grp sub pl bl lo s knm A P R hT hA h=>Ai0 hC ((E.node k o ty v s a).high+1) t k o ty v ln grp sub pl bl lo s knm A P R hT hA ⟨h,Nat.lt_succ_self _⟩
def Aeq (N:Nat):Prop:=∀{Γ:Ctx} {q fl:Int} {B j:Rs} {C:Mp} (M:Ck Γ q fl B j C) {a:List E} (k o:Int) (ty v:Int) (ln t:Int) (z sub:Int) (pl I lo:Int) (s x:List Nat) (A P R:Rs) (J:T Γ t (.node k o ty v s a)) (L:A=E.Aa a) (h:ln=A.length:=by exact kn),Ok trees N ⟨[k,o,ty,v,ln,t,z,sub,q,pl,fl,I,lo],[s,x],[A,B,P,j,R],[C]⟩ fun H=>(H=(0,(⟨[0],[],[],[]⟩:Aj)))
theorem Pr:Aeq 125:=by
 intro Γ J fl L I M C a k o ty v ln t q sub pl H lo s j A P R x z h
 refine .of (t:=Zk) rfl ?_
 conv=>arg 3;reduce
 obtain ⟨_,rfl,B⟩:=FV C t k o ty v ln q sub pl H lo s j A P R x z
 refine ch B ?_
 refine AH 0 0 ?_
 refine BB t t ?_
 exact Ag ⟨[0],[],[],[]⟩ (rfl)
def Am2 (N:Nat):Prop:=∀{Γ:Ctx} {lp pu:Int} {Γ1:Ctx} {xa J:List E} {bo el:List S} (k o:Int) (t b:Int) (xk xo:Int) (V O:Int) (H yk:Int) (Q Z:Int) (I M:Int) (j v:Int) (af sub:Int) (A pl:Int) (fl bl lo:Int) (nm U:List Nat) (L aa:List Nat) (X Y:Rs) (z B:Rs) (C P:Rs) (x R:Rs) (mp:Mp) (hC:Ck Γ A fl C x mp) (hS:Fb lp pu Γ (.node k o t b nm (.node xk xo V O U xa) (.node yk Q Z I L J) bo el) Γ1) (hX:X=E.Aa xa) (hY:Y=E.Aa J) (hB:z=S.Aa bo) (hE:B=S.Aa el) (h:H=X.length/\M=Y.length/\j=z.length/\v=B.length/\k=1:=by exact kn),Ok trees N ⟨[k,o,t,b,xk,xo,V,O,H,yk,Q,Z,I,M,j,v,af,sub,A,pl,fl,bl,lo],[nm,U,L,aa],[X,Y,z,B,C,P,x,R],[mp]⟩ fun zz=>(∃(q:Mp),zz=(0,(⟨[0],[],[],[q]⟩:Aj))/\(Ck Γ1 A fl C x q))
theorem Alo:Am2 117:=by
 intro Γ lp pu Γ1 L ya bo el k o t b U M H B x yk yo yt yw yl V Z v sub al pl fl I lo nm C yn q X Y Bo El Ar P Fs R Q j J N O hB z h
 subst N;subst O;subst hB;subst z;obtain ⟨_,_,_,_,_,hn,hg,r1,r2,hx,_,rfl⟩:=J.AjY om
 refine .of (t:=Zq) rfl ?_
 conv=>arg 3;reduce
 obtain ⟨_,rfl,A⟩:=FV j t U M H B x v sub pl I lo C q (E.Aa L) P R asm rfl
 refine ch A ?_
 refine BB 0 0 ?_
 refine lm (j.AjV hg) ?_
 refine up [.int .i64 3,.int .i64 t,.int .i64 0] ?_
 refine BB t t ?_
 first|exact Ag ⟨[0],[],[],[(Bw Q nm [.int .i64 3,.int .i64 t,.int .i64 0])]⟩ (⟨_,rfl,(j.E9 hg)⟩) |(exfalso;omega)
def Am1 (N:Nat):Prop:=∀{Γ:Ctx} {lp pu:Int} {Γ1:Ctx} {V B:List E} {bo el:List S} (k o:Int) (t b:Int) (xk xo:Int) (M I:Int) (z yk:Int) (J O:Int) (A H:Int) (j q:Int) (ac sub:Int) (Z pl:Int) (fl bl lo:Int) (nm L:List Nat) (C Q:List Nat) (X Y:Rs) (v x:Rs) (Ar P:Rs) (U R:Rs) (mp:Mp) (hC:Ck Γ Z fl Ar U mp) (hS:Fb lp pu Γ (.node k o t b nm (.node xk xo M I L V) (.node yk J O A C B) bo el) Γ1) (hX:X=E.Aa V) (hY:Y=E.Aa B) (hB:v=S.Aa bo) (hE:x=S.Aa el) (h:z=X.length/\H=Y.length/\j=v.length/\q=x.length/\k=2:=by exact kn),Ok trees N ⟨[k,o,t,b,xk,xo,M,I,z,yk,J,O,A,H,j,q,ac,sub,Z,pl,fl,bl,lo],[nm,L,C,Q],[X,Y,v,x,Ar,P,U,R],[mp]⟩ fun zz=>(zz=(0,(⟨[0],[],[],[]⟩:Aj)))
theorem Aln:Am1 118:=by
 intro Γ lp pu Γ1 L ya bo el k o t b Q M H B x yk yo yt Z yl U V v sub al pl fl I lo nm C yn q X Y Bo El Ar P Fs R mp j J N O hB z h
 subst N;subst O;subst hB;subst z;obtain ⟨_,_,_,_,_,_,hn,rfl,u,i,hg,hx,_⟩:=J.AjZ om
 refine .of (t:=Zp) rfl ?_
 conv=>arg 3;reduce
 refine lh (j.look hg) ?_
 refine AH 3 3 ?_
 obtain ⟨_,rfl,A⟩:=Pr j Q M H B x u v sub pl I lo C q (E.Aa L) P R asm rfl
 refine ch A ?_
 first|exact Ag ⟨[0],[],[],[]⟩ (rfl) |(exfalso;omega)
def Amv (N:Nat):Prop:=∀{Γ:Ctx} {U A:List E} (u i:Int) (k o:Int) (t b:Int) (xk Z:Int) (L H:Int) (v yk:Int) (I M:Int) (z C:Int) (x af:Int) (aa sub:Int) (V pl:Int) (fl bl lo:Int) (nm J:List Nat) (B O:List Nat) (X Y:Rs) (Bo El:Rs) (Ar P:Rs) (Q R:Rs) (mp:Mp) (hC:Ck Γ V fl Ar Q mp) (hg:Γ nm=some (0,u,i)) (hx:T Γ 1 (.node xk Z L H J U)) (hy:T Γ u (.node yk I M z B A)) (hX:X=E.Aa U) (hY:Y=E.Aa A) (h:v=X.length/\C=Y.length:=by exact kn),Ok trees N ⟨[k,o,t,b,xk,Z,L,H,v,yk,I,M,z,C,x,af,aa,sub,V,pl,fl,bl,lo],[nm,J,B,O],[X,Y,Bo,El,Ar,P,Q,R],[mp]⟩ fun zz=>(∃(j q:Int),∃(ae:List Nat),zz=(0,(⟨[j,u,q,0],[ae],[],[]⟩:Aj))/\(i=0∨i=2->j≠3))
theorem Aee:Amv 126:=by
 intro Γ xa L u i k o t b xk xo Z Q I yk U yt J O ai an v sub al pl fl A lo nm V N q X Y Bo El Ar P Fs R mp j hg hx hy hX hY h
 subst hX;subst hY;obtain ⟨aj,ak,H,B,C,x,z⟩:=j.ar _ _ _ hg
 refine .of (t:=Zj) rfl ?_
 conv=>arg 3;reduce
 refine lh (j.look hg) ?_
 refine AH 0 0 ?_
 refine CO i 0 ?_
 refine B8 i al ?_
 refine el x ?_
 obtain ⟨_,rfl,M⟩:=Pr j xk xo Z Q I 1 v sub pl A lo V q (E.Aa xa) P R asm rfl
 refine ch M ?_
 refine AH 0 0 ?_
 obtain ⟨_,rfl,G2⟩:=Pr j yk U yt J O u v sub pl A lo N q (E.Aa L) P R asm rfl
 refine ch G2 ?_
 first|exact Ag ⟨[B,u,C,0],[H],[],[]⟩ (⟨_,_,_,rfl,z⟩) |(exfalso;omega)
def Amy (N:Nat):Prop:=∀{Γ:Ctx} {lp pu:Int} {Γ1:Ctx} {V B:List E} {bo el:List S} (k o:Int) (t b:Int) (xk xo:Int) (M I:Int) (z yk:Int) (J O:Int) (A H:Int) (j q:Int) (ac sub:Int) (Z pl:Int) (fl bl lo:Int) (nm L:List Nat) (C Q:List Nat) (X Y:Rs) (v x:Rs) (Ar P:Rs) (U R:Rs) (mp:Mp) (hC:Ck Γ Z fl Ar U mp) (hS:Fb lp pu Γ (.node k o t b nm (.node xk xo M I L V) (.node yk J O A C B) bo el) Γ1) (hX:X=E.Aa V) (hY:Y=E.Aa B) (hB:v=S.Aa bo) (hE:x=S.Aa el) (h:z=X.length/\H=Y.length/\j=v.length/\q=x.length/\k=3:=by exact kn),Ok trees N ⟨[k,o,t,b,xk,xo,M,I,z,yk,J,O,A,H,j,q,ac,sub,Z,pl,fl,bl,lo],[nm,L,C,Q],[X,Y,v,x,Ar,P,U,R],[mp]⟩ fun zz=>(zz=(0,(⟨[0],[],[],[]⟩:Aj)))
theorem Alk:Amy 121:=by
 intro Γ lp pu Γ1 xa B bo el k o t b xk xo Q L z yk M U A J j x v sub al pl fl V lo nm O I q X Y Bo El Ar P Fs R mp N Z hX hY hB C h
 subst hX;subst hY;subst hB;subst C;obtain ⟨_,_,_,_,_,au,hn,rfl,u,i,_,_,hg,hx,hy,_,_⟩:=Z.AgN om
 refine .of (t:=Zm) rfl ?_
 conv=>arg 3;reduce
 obtain ⟨_,⟨CR,aq,ai,rfl,ag⟩,H⟩:=Aee u i k o t b xk xo Q L z yk M U A J j x v sub al pl fl V lo nm O I q (E.Aa xa) (E.Aa B) (S.Aa bo) (S.Aa el) Ar P Fs R mp N hg hx hy rfl rfl
 refine ch H ?_
 first|exact Ag ⟨[0],[],[],[]⟩ (rfl) |(exfalso;omega)
def Amx (N:Nat):Prop:=∀{Γ:Ctx} {lp pu:Int} {Γ1:Ctx} {V B:List E} {bo el:List S} (k o:Int) (t b:Int) (xk xo:Int) (M I:Int) (z yk:Int) (J O:Int) (A H:Int) (j q:Int) (ac sub:Int) (Z pl:Int) (fl bl lo:Int) (nm L:List Nat) (C Q:List Nat) (X Y:Rs) (v x:Rs) (Ar P:Rs) (U R:Rs) (mp:Mp) (hC:Ck Γ Z fl Ar U mp) (hS:Fb lp pu Γ (.node k o t b nm (.node xk xo M I L V) (.node yk J O A C B) bo el) Γ1) (hX:X=E.Aa V) (hY:Y=E.Aa B) (hB:v=S.Aa bo) (hE:x=S.Aa el) (h:z=X.length/\H=Y.length/\j=v.length/\q=x.length/\k=4:=by exact kn),Ok trees N ⟨[k,o,t,b,xk,xo,M,I,z,yk,J,O,A,H,j,q,ac,sub,Z,pl,fl,bl,lo],[nm,L,C,Q],[X,Y,v,x,Ar,P,U,R],[mp]⟩ fun zz=>(zz=(0,(⟨[0],[],[],[]⟩:Aj)))
theorem Alj:Amx 122:=by
 intro Γ lp pu Γ1 xa B bo el k o t b xk xo U L z yk M V A J j x v sub al pl fl Z lo nm Q I q X Y Bo El Ar P Fs R mp N hS hX hY hB C h
 subst hX;subst hY;subst hB;subst C;obtain ⟨_,_,_,_,aw,hn,rfl,i,hi,hg,ho,hx,hy,_,_⟩:=hS.Akb om
 refine .of (t:=Zl) rfl ?_
 conv=>arg 3;reduce
 obtain ⟨_,⟨CR,av,ak,rfl,ah⟩,H⟩:=Aee 1 i k o t b xk xo U L z yk M V A J j x v sub al pl fl Z lo nm Q I q (E.Aa xa) (E.Aa B) (S.Aa bo) (S.Aa el) Ar P Fs R mp N hg hx hy rfl rfl
 refine ch H ?_
 refine BB 0 0 ?_
 obtain ⟨_,rfl,G2⟩:=AbG 1 o 1 1 (by unfold KL;omega) rfl
 refine ch G2 ?_
 refine BB 0 0 ?_
 refine eq CR 3 (fun O=>?_) fun O=>?_
 ·first|exact Ag ⟨[31],[],[],[]⟩ (rfl) |(exfalso;omega)
 first|exact Ag ⟨[0],[],[],[]⟩ (rfl) |(exfalso;omega)
def Amw (N:Nat):Prop:=∀{Γ:Ctx} {lp pu:Int} {Γ1:Ctx} {V B:List E} {bo el:List S} (k o:Int) (t b:Int) (xk xo:Int) (M I:Int) (z yk:Int) (J O:Int) (A H:Int) (j q:Int) (ac sub:Int) (Z pl:Int) (fl bl lo:Int) (nm L:List Nat) (C Q:List Nat) (X Y:Rs) (v x:Rs) (Ar P:Rs) (U R:Rs) (mp:Mp) (hC:Ck Γ Z fl Ar U mp) (hS:Fb lp pu Γ (.node k o t b nm (.node xk xo M I L V) (.node yk J O A C B) bo el) Γ1) (hX:X=E.Aa V) (hY:Y=E.Aa B) (hB:v=S.Aa bo) (hE:x=S.Aa el) (h:z=X.length/\H=Y.length/\j=v.length/\q=x.length/\k=12:=by exact kn),Ok trees N ⟨[k,o,t,b,xk,xo,M,I,z,yk,J,O,A,H,j,q,ac,sub,Z,pl,fl,bl,lo],[nm,L,C,Q],[X,Y,v,x,Ar,P,U,R],[mp]⟩ fun zz=>(zz=(0,(⟨[0],[],[],[]⟩:Aj)))
theorem Ali:Amw 123:=by
 intro Γ lp pu Γ1 M ya bo el k o t b xk xo xt U A yk yo yt yw yl aG aH q sub al pl fl x lo nm V yn j X Y Bo El Ar P Fs R mp v hS hX hY hB hE h
 subst hX;subst hY;subst hB;subst hE;
 rcases hS.AnK om with hv|hv
 ·obtain ⟨_,_,_,_,_,H,hn,rfl,u,w,i,hg,r1,r2,ho,O,_⟩:=hv
  refine .of (t:=VB) rfl ?_
  conv=>arg 3;reduce
  refine lh (v.look hg) ?_
  refine AH 3 3 ?_
  obtain ⟨_,rfl,G1⟩:=FV v w xk xo xt U A q sub pl x lo V j (E.Aa M) P R asm rfl
  refine ch G1 ?_
  refine AH 0 0 ?_
  refine Az o 4 ?_
  refine BB 0 0 ?_
  refine eq o 1 (fun t2=>?_) fun t2=>?_
  ·refine eq w 3 (fun t3=>?_) fun t3=>?_
   ·refine eq u 1 (fun t4=>?_) fun t4=>?_
    ·first|exact Ag ⟨[0],[],[],[]⟩ (rfl) |(exfalso;omega)
    first|exact Ag ⟨[31],[],[],[]⟩ (rfl) |(exfalso;omega)
   first|exact Ag ⟨[31],[],[],[]⟩ (rfl) |(exfalso;omega)
  refine eq o 2 (fun t5=>?_) fun t5=>?_
  ·refine eq w u (fun t6=>?_) fun t6=>?_
   ·refine eq w 3 (fun t7=>?_) fun t7=>?_
    ·first|exact Ag ⟨[0],[],[],[]⟩ (rfl) |(exfalso;omega)
    first|exact Ag ⟨[31],[],[],[]⟩ (rfl) |(exfalso;omega)
   first|exact Ag ⟨[31],[],[],[]⟩ (rfl) |(exfalso;omega)
  refine eq o 3 (fun t8=>?_) fun t8=>?_
  ·refine eq w u (fun t9=>?_) fun t9=>?_
   ·refine eq w 3 (fun z=>?_) fun z=>?_
    ·first|exact Ag ⟨[0],[],[],[]⟩ (rfl) |(exfalso;omega)
    first|exact Ag ⟨[31],[],[],[]⟩ (rfl) |(exfalso;omega)
   first|exact Ag ⟨[31],[],[],[]⟩ (rfl) |(exfalso;omega)
  refine eq o 5 (fun L=>?_) fun L=>?_
  ·refine eq w u (fun B=>?_) fun B=>?_
   ·refine ne w 3 (fun J=>?_) fun J=>?_
    ·first|exact Ag ⟨[0],[],[],[]⟩ (rfl) |(exfalso;omega)
    first|exact Ag ⟨[31],[],[],[]⟩ (rfl) |(exfalso;omega)
   first|exact Ag ⟨[31],[],[],[]⟩ (rfl) |(exfalso;omega)
  refine eq o 6 (fun Z=>?_) fun Z=>?_
  ·refine eq w u (fun ab=>?_) fun ab=>?_
   ·refine ne w 3 (fun I=>?_) fun I=>?_
    ·first|exact Ag ⟨[0],[],[],[]⟩ (rfl) |(exfalso;omega)
    first|exact Ag ⟨[31],[],[],[]⟩ (rfl) |(exfalso;omega)
   first|exact Ag ⟨[31],[],[],[]⟩ (rfl) |(exfalso;omega)
  refine eq w u (fun Q=>?_) fun Q=>?_
  ·first|exact Ag ⟨[0],[],[],[]⟩ (rfl) |(exfalso;omega)
  first|exact Ag ⟨[31],[],[],[]⟩ (rfl) |(exfalso;omega)
 ·obtain ⟨rfl,_,_,_,_,H,hn,rfl,u,i,hg,r1,r2,O,hy,_,_⟩:=hv
  refine .of (t:=VB) rfl ?_
  conv=>arg 3;reduce
  refine lh (v.look hg) ?_
  refine AH 3 3 ?_
  obtain ⟨_,rfl,C⟩:=FV v u xk xo xt U A q sub pl x lo V j (E.Aa M) P R O rfl
  refine ch C ?_
  refine AH 0 0 ?_
  refine AH 4 4 ?_
  obtain ⟨_,rfl,N⟩:=Pr v yk yo yt yw yl 1 q sub pl x lo yn j (E.Aa ya) P R hy rfl
  refine ch N ?_
  refine BB 0 0 ?_
  refine Az 4 1 ?_
  refine Az 4 2 ?_
  refine Az 4 3 ?_
  refine Az 4 5 ?_
  refine Az 4 6 ?_
  refine AH u u ?_
  first|exact Ag ⟨[0],[],[],[]⟩ (rfl) |(exfalso;omega)
def P0 (N n:Nat):Prop:=∀{Γ:Ctx} {v pu:Int} {J:Ctx} {l:List S} (ln z:Int) (sub x:Int) (pl fl:Int) (I lo:Int) (B:List Nat) (L A:Rs) (P q R:Rs) (C:Mp) (O:Ck Γ x fl A q C) (Q:Ew v pu Γ l J) (M:L=S.Aa l) (h:ln=L.length/\ln<=200000/\(v=0∨1<=lo)/\0<=lo/\lo+S.Ay l<=1000/\S.Ad l<=200000/\S.Ay l<n),Ok trees N ⟨[ln,z,sub,x,pl,fl,I,lo],[B],[L,A,P,q,R],[C]⟩ fun H=>(∃(j:Int),H=(0,(⟨[0,j],[],[],[]⟩:Aj))/\(lo=j))
def Am6 (N:Nat):Prop:=∀{Γ:Ctx} {v pu:Int} {J:Ctx} {l:List S} (ln z:Int) (sub x:Int) (pl fl:Int) (I lo:Int) (B:List Nat) (L A:Rs) (P q R:Rs) (C:Mp) (O:Ck Γ x fl A q C) (Q:Ew v pu Γ l J) (M:L=S.Aa l) (h:ln=L.length/\ln<=200000/\(v=0∨1<=lo)/\0<=lo/\lo+S.Ay l<=1000/\S.Ad l<=200000:=by exact kn),Ok trees N ⟨[ln,z,sub,x,pl,fl,I,lo],[B],[L,A,P,q,R],[C]⟩ fun H=>(∃(j:Int),H=(0,(⟨[0,j],[],[],[]⟩:Aj))/\(lo=j))
def Am0 (z N:Nat):Prop:=∀{m:Nat} (aj:P0 z m) {Γ:Ctx} {lp pu:Int} {Γ1:Ctx} {xa I:List E} {q el:List S} (k o:Int) (t b:Int) (xk xo:Int) (U M:Int) (C yk:Int) (O V:Int) (H L:Int) (j v:Int) (af sub:Int) (al pl:Int) (fl bl lo:Int) (nm Q:List Nat) (J Z:List Nat) (X Y:Rs) (A B:Rs) (Ar P:Rs) (Fs R:Rs) (mp:Mp) (hC:Ck Γ al fl Ar Fs mp) (hS:Fb lp pu Γ (.node k o t b nm (.node xk xo U M Q xa) (.node yk O V H J I) q el) Γ1) (hX:X=E.Aa xa) (hY:Y=E.Aa I) (hB:A=S.Aa q) (hE:B=S.Aa el) (h:C=X.length/\L=Y.length/\j=A.length/\v=B.length/\(lp=0∨1<=lo)/\0<=lo/\lo+max (S.Ay q) (S.Ay el)<=1000/\S.Ad q<=200000/\S.Ad el<=200000/\S.Ay q<m/\S.Ay el<m/\j<=200000/\v<=200000/\k=5:=by exact kn),Ok trees N ⟨[k,o,t,b,xk,xo,U,M,C,yk,O,V,H,L,j,v,af,sub,al,pl,fl,bl,lo],[nm,Q,J,Z],[X,Y,A,B,Ar,P,Fs,R],[mp]⟩ fun zz=>(∃(x:Int),zz=(0,(⟨[0,x],[],[],[]⟩:Aj))/\(lo=x))
theorem Alm:Am0 113 119:=by
 intro m j Γ lp pu Γ1 xa ya bo el k o t b xk xo V O L yk yo yt yw yl A J v sub C pl fl z lo nm U yn q X Y Bo El H P B R I x Z hX hY hB M h
 subst hX;subst hY;subst hB;subst M;obtain ⟨_,_,_,_,_,hx,_,rfl,Γa,Γb,aj,ak⟩:=Z.kif om
 refine .of (t:=Zo) rfl ?_
 conv=>arg 3;reduce
 obtain ⟨_,rfl,N⟩:=Pr x xk xo V O L 3 v sub pl z lo U q (E.Aa xa) P R asm rfl
 refine ch N ?_
 refine AH 0 0 ?_
 obtain ⟨_,⟨ae,rfl,rfl⟩,G2⟩:=j A v sub C pl fl z lo q (S.Aa bo) H P B R I x asm rfl kn
 refine ch G2 ?_
 refine AH 0 0 ?_
 obtain ⟨_,⟨Q,rfl,rfl⟩,G3⟩:=j J v sub C pl fl z lo q (S.Aa el) H P B R I x asm rfl kn
 refine ch G3 ?_
 first|exact Ag ⟨[0,lo],[],[],[]⟩ (⟨_,rfl,kn⟩) |(exfalso;omega)
def Amz (z N:Nat):Prop:=∀{m:Nat} (aj:P0 z m) {Γ:Ctx} {lp pu:Int} {Γ1:Ctx} {xa I:List E} {j el:List S} (k o:Int) (t b:Int) (xk xo:Int) (U M:Int) (C yk:Int) (O V:Int) (H L:Int) (q x:Int) (af sub:Int) (al pl:Int) (fl bl lo:Int) (nm Q:List Nat) (J Z:List Nat) (X Y:Rs) (A B:Rs) (Ar P:Rs) (Fs R:Rs) (mp:Mp) (hC:Ck Γ al fl Ar Fs mp) (hS:Fb lp pu Γ (.node k o t b nm (.node xk xo U M Q xa) (.node yk O V H J I) j el) Γ1) (hX:X=E.Aa xa) (hY:Y=E.Aa I) (hB:A=S.Aa j) (hE:B=S.Aa el) (h:C=X.length/\L=Y.length/\q=A.length/\x=B.length/\(lp=0∨1<=lo)/\0<=lo/\lo+1+S.Ay j<=1000/\S.Ay j<m/\q<=200000/\S.Ad j<=200000/\S.Ad j<=200000/\k=6:=by exact kn),Ok trees N ⟨[k,o,t,b,xk,xo,U,M,C,yk,O,V,H,L,q,x,af,sub,al,pl,fl,bl,lo],[nm,Q,J,Z],[X,Y,A,B,Ar,P,Fs,R],[mp]⟩ fun zz=>(∃(v:Int),zz=(0,(⟨[0,v],[],[],[]⟩:Aj))/\(lo=v))
theorem All:Amz 113 120:=by
 intro m j Γ lp pu Γ1 U ya Z el k o t b xk xo N J B yk yo yt yw yl x aj v sub V pl fl A lo nm M yn q X Y Bo El Ar P Q R mp z O hX hY hB H h
 subst hX;subst hY;subst hB;subst H;obtain ⟨_,_,_,_,_,hx,_,b1,b2,rfl,Γa,ai⟩:=O.AjX om
 refine .of (t:=Zn) rfl ?_
 conv=>arg 3;reduce
 obtain ⟨_,rfl,I⟩:=Pr z xk xo N J B 3 v sub pl A lo M q (E.Aa U) P R asm rfl
 refine ch I ?_
 refine BB 0 0 ?_
 refine lt b 1 (fun C=>?_) fun C=>?_
 ·first|exact Ag ⟨[1,lo],[],[],[]⟩ (⟨_,rfl,kn⟩) |(exfalso;omega)
 refine gt b 1024 (fun L=>?_) fun L=>?_
 ·first|exact Ag ⟨[1,lo],[],[],[]⟩ (⟨_,rfl,kn⟩) |(exfalso;omega)
 obtain ⟨_,⟨ah,rfl,rfl⟩,G4⟩:=j x v sub V pl fl A (lo+1) q (S.Aa Z) Ar P Q R mp z asm rfl kn
 refine ch G4 ?_
 first|exact Ag ⟨[0,((lo+1)-1)],[],[],[]⟩ (⟨_,rfl,kn⟩) |(exfalso;omega)
def AmR (M N:Nat) (m n:Nat):Prop:=∀{Γ:Ctx} {B pu:Int} {I:Ctx} {l:List S} (ln len:Int) (j H:Int) (sub z:Int) (pl fl:Int) (Q lo:Int) (C:List Nat) (L A:Rs) (P x R:Rs) (J:Mp) (V:Ck Γ z fl A x J) (X:Ew B pu Γ (l.drop j.toNat) I) (U:L=S.Aa l) (h:ln=L.length/\ln<=200000/\len=ln/\0<=j/\(B=0∨1<=lo)/\0<=lo/\lo+S.Ay (l.drop j.toNat)<=1000/\S.Ay (l.drop j.toNat)<=m/\S.Ad (l.drop j.toNat)<=200000/\(len-j).toNat<n),Ok trees N ⟨[ln,len,j,H,sub,z,pl,fl,Q,lo],[C],[L,A,P,x,R],[J]⟩ fun O=>(∃(q:Int),∃(v:Mp),O=(1,(⟨[q],[],[],[v]⟩:Aj))/\(Ck I z fl A x v)/\(lo=q))
def Am3 (z N:Nat):Prop:=∀{m:Nat} (O:P0 z m) {Γ:Ctx} {C pu:Int} {J:Ctx} {l:List S} (ln len:Int) (j I:Int) (sub A:Int) (pl fl:Int) (U lo:Int) (H:List Nat) (L B:Rs) (P x R:Rs) (M:Mp) (X:Ck Γ A fl B x M) (Y:Ew C pu Γ (l.drop j.toNat) J) (V:L=S.Aa l) (h:ln=L.length/\ln<=200000/\len=ln/\0<=j/\(C=0∨1<=lo)/\0<=lo/\lo+S.Ay (l.drop j.toNat)<=1000/\S.Ay (l.drop j.toNat)<=m/\S.Ad (l.drop j.toNat)<=200000:=by exact kn),Ok trees N ⟨[ln,len,j,I,sub,A,pl,fl,U,lo],[H],[L,B,P,x,R],[M]⟩ fun Q=>(∃(q:Int),∃(v:Mp),Q=(1,(⟨[q],[],[],[v]⟩:Aj))/\(Ck J A fl B x v)/\(lo=q))
theorem Ai1 {m:Nat} (aj:P0 113 m) (n:Nat):AmR 113 116 m n:=by
 induction n with
 |zero=>intro Γ lp pu Γe l ln len j H sub M pl fl O lo C L U P Q R N B J ax h;exact absurd h.2.2.2.2.2.2.2.2.2 (Nat.not_lt_zero _)
 |succ n ih=>
 intro Γ lp pu Γe l ln len j H sub M pl fl O lo C L U P Q R N B J ax h
 subst ax
 refine .of (t:=Zr) rfl ?_
 conv=>arg 3;reduce
 refine lt j len (fun t1=>?_) fun t1=>?_
 ·refine CO j 0 ?_
  refine B8 j ln ?_
  obtain ⟨I,ai,t_1,ah,aa,ag,ab,Z,ad,X,A,ae,af,V,Y,ac,z,v,x,bz,aK,q,bE,bJ,bH⟩:=Ew.get j J om om
  refine el aK ?_
  have bG:=q.AdM;have be:=S.len v;have bg:=S.len x;have a8:=S.A0 v;have a2:=S.A0 x
  refine eq I 1 (fun t3=>?_) fun t3=>?_
  ·obtain ⟨_,⟨aH,rfl,aG⟩,G4⟩:=Alo I ai t_1 ah ag ab Z ad ((E.Aa A).length:Int) ae af V Y ((E.Aa z).length:Int) ((S.Aa v).length:Int) ((S.Aa x).length:Int) H sub M pl fl O lo aa X ac C (E.Aa A) (E.Aa z) (S.Aa v) (S.Aa x) U P Q R N B q rfl rfl rfl rfl
   refine ch G4 ?_
   refine BB 0 0 ?_
   obtain ⟨_,⟨bK,aI,rfl,bD,rfl⟩,G5⟩:=ih ln len (j+1) H sub M pl fl O lo C (S.Aa l) U P Q R aH aG asm rfl kn
   refine cm G5 ?_
   refine ch G5 ?_
   exact Ag ⟨[lo],[],[],[aI]⟩ (⟨_,_,rfl,(by first|assumption|(obtain ⟨_,_,e⟩:=Bd (l:=l) (j:=j) om;rw [e]at J;cases J;exact B)),kn⟩)
  refine eq I 2 (fun t6=>?_) fun t6=>?_
  ·obtain ⟨_,rfl,G7⟩:=Aln I ai t_1 ah ag ab Z ad ((E.Aa A).length:Int) ae af V Y ((E.Aa z).length:Int) ((S.Aa v).length:Int) ((S.Aa x).length:Int) H sub M pl fl O lo aa X ac C (E.Aa A) (E.Aa z) (S.Aa v) (S.Aa x) U P Q R N B q rfl rfl rfl rfl
   refine ch G7 ?_
   refine BB 0 0 ?_
   obtain ⟨_,⟨bv,aJ,rfl,bx,rfl⟩,G8⟩:=ih ln len (j+1) H sub M pl fl O lo C (S.Aa l) U P Q R N (B.keep q om) asm rfl kn
   refine cm G8 ?_
   refine ch G8 ?_
   exact Ag ⟨[lo],[],[],[aJ]⟩ (⟨_,_,rfl,(by first|assumption|(obtain ⟨_,_,e⟩:=Bd (l:=l) (j:=j) om;rw [e]at J;cases J;exact B)),kn⟩)
  refine eq I 5 (fun t9=>?_) fun t9=>?_
  ·obtain ⟨_,⟨a3,rfl,rfl⟩,a0⟩:=Alm @aj I ai t_1 ah ag ab Z ad ((E.Aa A).length:Int) ae af V Y ((E.Aa z).length:Int) ((S.Aa v).length:Int) ((S.Aa x).length:Int) H sub M pl fl O lo aa X ac C (E.Aa A) (E.Aa z) (S.Aa v) (S.Aa x) U P Q R N B q rfl rfl rfl rfl
   refine ch a0 ?_
   refine BB 0 0 ?_
   obtain ⟨_,⟨bj,au,rfl,a4,rfl⟩,aD⟩:=ih ln len (j+1) H sub M pl fl O lo C (S.Aa l) U P Q R N (B.keep q om) asm rfl kn
   refine cm aD ?_
   refine ch aD ?_
   exact Ag ⟨[lo],[],[],[au]⟩ (⟨_,_,rfl,(by first|assumption|(obtain ⟨_,_,e⟩:=Bd (l:=l) (j:=j) om;rw [e]at J;cases J;exact B)),kn⟩)
  refine eq I 6 (fun aM=>?_) fun aM=>?_
  ·obtain ⟨_,⟨a6,rfl,rfl⟩,aR⟩:=All @aj I ai t_1 ah ag ab Z ad ((E.Aa A).length:Int) ae af V Y ((E.Aa z).length:Int) ((S.Aa v).length:Int) ((S.Aa x).length:Int) H sub M pl fl O lo aa X ac C (E.Aa A) (E.Aa z) (S.Aa v) (S.Aa x) U P Q R N B q rfl rfl rfl rfl
   refine ch aR ?_
   refine BB 0 0 ?_
   obtain ⟨_,⟨bi,an,rfl,a5,rfl⟩,aB⟩:=ih ln len (j+1) H sub M pl fl O lo C (S.Aa l) U P Q R N (B.keep q om) asm rfl kn
   refine cm aB ?_
   refine ch aB ?_
   exact Ag ⟨[lo],[],[],[an]⟩ (⟨_,_,rfl,(by first|assumption|(obtain ⟨_,_,e⟩:=Bd (l:=l) (j:=j) om;rw [e]at J;cases J;exact B)),kn⟩)
  refine eq I 7 (fun a1=>?_) fun a1=>?_
  ·refine eq lo 0 (fun aN=>?_) fun aN=>?_
   ·exact dead
   obtain ⟨_,⟨ba,av,rfl,br,rfl⟩,aE⟩:=ih ln len (j+1) H sub M pl fl O lo C (S.Aa l) U P Q R N (B.keep q om) asm rfl kn
   refine cm aE ?_
   refine ch aE ?_
   exact Ag ⟨[lo],[],[],[av]⟩ (⟨_,_,rfl,(by first|assumption|(obtain ⟨_,_,e⟩:=Bd (l:=l) (j:=j) om;rw [e]at J;cases J;exact B)),kn⟩)
  refine eq I 8 (fun aX=>?_) fun aX=>?_
  ·refine eq lo 0 (fun aW=>?_) fun aW=>?_
   ·exact dead
   obtain ⟨_,⟨bm,ao,rfl,a9,rfl⟩,aF⟩:=ih ln len (j+1) H sub M pl fl O lo C (S.Aa l) U P Q R N (B.keep q om) asm rfl kn
   refine cm aF ?_
   refine ch aF ?_
   exact Ag ⟨[lo],[],[],[ao]⟩ (⟨_,_,rfl,(by first|assumption|(obtain ⟨_,_,e⟩:=Bd (l:=l) (j:=j) om;rw [e]at J;cases J;exact B)),kn⟩)
  refine eq I 3 (fun aZ=>?_) fun aZ=>?_
  ·obtain ⟨_,rfl,aY⟩:=Alk I ai t_1 ah ag ab Z ad ((E.Aa A).length:Int) ae af V Y ((E.Aa z).length:Int) ((S.Aa v).length:Int) ((S.Aa x).length:Int) H sub M pl fl O lo aa X ac C (E.Aa A) (E.Aa z) (S.Aa v) (S.Aa x) U P Q R N B q rfl rfl rfl rfl
   refine ch aY ?_
   refine BB 0 0 ?_
   obtain ⟨_,⟨bh,ap,rfl,bk,rfl⟩,aA⟩:=ih ln len (j+1) H sub M pl fl O lo C (S.Aa l) U P Q R N (B.keep q om) asm rfl kn
   refine cm aA ?_
   refine ch aA ?_
   exact Ag ⟨[lo],[],[],[ap]⟩ (⟨_,_,rfl,(by first|assumption|(obtain ⟨_,_,e⟩:=Bd (l:=l) (j:=j) om;rw [e]at J;cases J;exact B)),kn⟩)
  refine eq I 4 (fun aP=>?_) fun aP=>?_
  ·obtain ⟨_,rfl,aU⟩:=Alj I ai t_1 ah ag ab Z ad ((E.Aa A).length:Int) ae af V Y ((E.Aa z).length:Int) ((S.Aa v).length:Int) ((S.Aa x).length:Int) H sub M pl fl O lo aa X ac C (E.Aa A) (E.Aa z) (S.Aa v) (S.Aa x) U P Q R N B q rfl rfl rfl rfl
   refine ch aU ?_
   refine BB 0 0 ?_
   obtain ⟨_,⟨a7,aq,rfl,bo,rfl⟩,ay⟩:=ih ln len (j+1) H sub M pl fl O lo C (S.Aa l) U P Q R N (B.keep q om) asm rfl kn
   refine cm ay ?_
   refine ch ay ?_
   exact Ag ⟨[lo],[],[],[aq]⟩ (⟨_,_,rfl,(by first|assumption|(obtain ⟨_,_,e⟩:=Bd (l:=l) (j:=j) om;rw [e]at J;cases J;exact B)),kn⟩)
  refine eq I 12 (fun aQ=>?_) fun aQ=>?_
  ·obtain ⟨_,rfl,aV⟩:=Ali I ai t_1 ah ag ab Z ad ((E.Aa A).length:Int) ae af V Y ((E.Aa z).length:Int) ((S.Aa v).length:Int) ((S.Aa x).length:Int) H sub M pl fl O lo aa X ac C (E.Aa A) (E.Aa z) (S.Aa v) (S.Aa x) U P Q R N B q rfl rfl rfl rfl
   refine ch aV ?_
   refine BB 0 0 ?_
   obtain ⟨_,⟨bb,aw,rfl,bq,rfl⟩,aC⟩:=ih ln len (j+1) H sub M pl fl O lo C (S.Aa l) U P Q R N (B.keep q om) asm rfl kn
   refine cm aC ?_
   refine ch aC ?_
   exact Ag ⟨[lo],[],[],[aw]⟩ (⟨_,_,rfl,(by first|assumption|(obtain ⟨_,_,e⟩:=Bd (l:=l) (j:=j) om;rw [e]at J;cases J;exact B)),kn⟩)
  obtain ⟨_,⟨bc,ak,rfl,bn,rfl⟩,az⟩:=ih ln len (j+1) H sub M pl fl O lo C (S.Aa l) U P Q R N (B.keep q om) asm rfl kn
  refine cm az ?_
  refine ch az ?_
  exact Ag ⟨[lo],[],[],[ak]⟩ (⟨_,_,rfl,(by first|assumption|(obtain ⟨_,_,e⟩:=Bd (l:=l) (j:=j) om;rw [e]at J;cases J;exact B)),kn⟩)
 exact Ag ⟨[lo],[],[],[N]⟩ (⟨_,_,rfl,(by first|assumption|(obtain ⟨_,_,e⟩:=Bd (l:=l) (j:=j) om;rw [e]at J;cases J;exact B)),kn⟩)
theorem Alp:Am3 113 116:=fun {m} hC113 {Γ} {lp} {pu} {Γe} {l} ln len j grp sub al pl fl bl lo knm L Ar P Fs R mp hC hO hLs h=>Ai1 @hC113 ((len-j).toNat+1) ln len j grp sub al pl fl bl lo knm L Ar P Fs R mp hC hO hLs ⟨h.1,h.2.1,h.2.2.1,h.2.2.2.1,h.2.2.2.2.1,h.2.2.2.2.2.1,h.2.2.2.2.2.2.1,h.2.2.2.2.2.2.2.1,h.2.2.2.2.2.2.2.2,Nat.lt_succ_self _⟩
def Am4 (x N:Nat):Prop:=∀{m:Nat} (M:P0 x m) {Γ:Ctx} {B pu:Int} {H:Ctx} {l:List S} (ln C:Int) (sub z:Int) (pl fl:Int) (Q lo:Int) (I:List Nat) (L A:Rs) (P v R:Rs) (J:Mp) (V:Ck Γ z fl A v J) (X:Ew B pu Γ l H) (U:L=S.Aa l) (h:ln=L.length/\ln<=200000/\(B=0∨1<=lo)/\0<=lo/\lo+S.Ay l<=1000/\S.Ad l<=200000/\S.Ay l<=m:=by exact kn),Ok trees N ⟨[ln,C,sub,z,pl,fl,Q,lo],[I],[L,A,P,v,R],[J]⟩ fun O=>(∃(j:Int),∃(q:Mp),O=(0,(⟨[0,j],[],[],[q]⟩:Aj))/\(Ck H z fl A v q)/\(lo=j))
theorem Alq:Am4 113 115:=by
 intro m j Γ U pu X l ln A sub M pl fl I lo z L O P J R Q C H v h
 subst v;have V:S.Ay (l.drop (0:Int).toNat)=S.Ay l:=rfl;have Y:S.Ad (l.drop (0:Int).toNat)=S.Ad l:=rfl
 refine .of (t:=Zs) rfl ?_
 conv=>arg 3;reduce
 obtain ⟨_,⟨B,q,rfl,N,rfl⟩,x⟩:=Alp @j ln ln 0 A sub M pl fl I lo z (S.Aa l) O P J R Q C H rfl
 refine cm x ?_
 refine ch x ?_
 exact Ag ⟨[0,lo],[],[],[q]⟩ (⟨_,_,rfl,asm,kn⟩)
theorem Ai3 (n:Nat):P0 113 n:=by
 induction n with
 |zero=>intro Γ O pu U l ln v sub C pl fl A lo q L H P B R I x z j h;exact absurd h.2.2.2.2.2.2 (Nat.not_lt_zero _)
 |succ n ih=>
 intro Γ O pu U l ln v sub C pl fl A lo q L H P B R I x z j h
 refine .of (t:=Zu) rfl ?_
 conv=>arg 3;reduce
 obtain ⟨_,⟨J,N,rfl,Q,rfl⟩,M⟩:=Alq @ih ln v sub C pl fl A lo q L H P B R I x z j
 refine ch M ?_
 exact Ag ⟨[0,lo],[],[],[]⟩ (⟨_,rfl,kn⟩)
theorem Alr:Am6 113:=fun {Γ} {lp} {pu} {Γe} {l} ln grp sub al pl fl bl lo knm L Ar P Fs R mp hC hO hLs h=>Ai3 (S.Ay l+1) ln grp sub al pl fl bl lo knm L Ar P Fs R mp hC hO hLs ⟨h.1,h.2.1,h.2.2.1,h.2.2.2.1,h.2.2.2.2.1,h.2.2.2.2.2,Nat.lt_succ_self _⟩
end
end Go.Proofs.YtbmofjdmgjpfoaaGreatDoor.Am
