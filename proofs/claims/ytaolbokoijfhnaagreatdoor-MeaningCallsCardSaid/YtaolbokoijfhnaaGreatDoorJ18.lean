/- Part 18 of MeaningCalls. -/
import Derived.Test.YtaolbokoijfhnaaGreatDoorJ16
set_option linter.all false
namespace Go.Proofs.YtaolbokoijfhnaaGreatDoor.Am
section
set_option maxHeartbeats 4000000
set_option maxRecDepth 100000
open Go.AM Go.AM.K
def AmM (N:Nat):Prop:=∀(u:Int) (o t:Int) (j:Xo o t u),Ok trees N ⟨[o,t],[],[],[]⟩ fun x=>x=(0,(⟨[u,0],[],[],[]⟩:Aj))
theorem Xd:AmM 131:=by
 intro u o t j
 unfold Xo at j
 rcases j with ⟨rfl|rfl,rfl|rfl,rfl⟩|⟨rfl,rfl|rfl,rfl⟩|⟨rfl,rfl,rfl⟩|⟨rfl,rfl,rfl⟩<;>exact Ok.num (t:=Zv) (a:=0) (ms:=[_,0]) rfl (by kernel_rfl) rfl
def AmL (N:Nat):Prop:=∀(u:Int) (o t j:Int) (q:FC o t u) (v:j=t),Ok trees N ⟨[o,t,j],[],[],[]⟩ fun x=>x=(0,(⟨[u,0],[],[],[]⟩:Aj))
theorem Px:AmL 132:=by
 intro u o t j q v
 subst v
 unfold FC at q
 rcases q with ⟨rfl|rfl|rfl|rfl,rfl|rfl,rfl⟩|⟨rfl|rfl|rfl|rfl|rfl,rfl,rfl⟩|⟨rfl|rfl,rfl,rfl⟩|⟨rfl|rfl|rfl,rfl|rfl,rfl⟩|⟨ho,h1,h3,rfl⟩|⟨rfl|rfl|rfl|rfl,rfl|rfl,rfl⟩
 case inr.inr.inr.inr.inl=>
  have:j=1∨j=2∨j=3:=by omega
  rcases ho with rfl|rfl<;>rcases this with rfl|rfl|rfl<;>exact Ok.num (t:=CS) (a:=0) (ms:=[_,0]) rfl (by kernel_rfl) rfl
 all_goals exact Ok.num (t:=CS) (a:=0) (ms:=[_,0]) rfl (by kernel_rfl) rfl
def AeI (N:Nat) (Γ:Ctx) (Y fl:Int) (Ar L:Rs) (mp:Mp) (n:Nat):Prop:=∀(q ln:Int) (len j:Int) (C sub:Int) (pl Q:Int) (lo H:Int) (x v:Int) (V M:Int) (Z X rl:Int) (I B J:List Nat) (T A:Rs) (P R:Rs) (z FB RA:Rs) (hT:T=[1,1].map By) (hF:∃O gn,A=WN O gn) (h:q=2/\ln=2/\len=2/\0<=j/\j<=2/\(2-j).toNat<n),Ok trees N ⟨[q,ln,len,j,C,sub,Y,pl,fl,Q,lo,H,x,v,V,M,Z,X,rl],[I,B,J],[T,A,Ar,P,L,R,z,FB,RA],[mp]⟩ fun U=>(U=(1,v0))
def Ae9 (N:Nat):Prop:=∀{Γ:Ctx} {C fl:Int} {J q:Rs} {Q:Mp} (hC:Ck Γ C fl J q Q) (v ln:Int) (len j:Int) (I sub:Int) (pl X:Int) (lo L:Int) (z x:Int) (Z U:Int) (ry rv rl:Int) (M H O:List Nat) (T B:Rs) (P R:Rs) (A FB RA:Rs) (hT:T=[1,1].map By) (hF:∃V gn,B=WN V gn) (h:v=2/\ln=2/\len=2/\0<=j/\j<=2:=by exact kn),Ok trees N ⟨[v,ln,len,j,I,sub,C,pl,fl,X,lo,L,z,x,Z,U,ry,rv,rl],[M,H,O],[T,B,J,P,q,R,A,FB,RA],[Q]⟩ fun Y=>(Y=(1,v0))
theorem AiS {Γ:Ctx} {al fl:Int} {Ar O:Rs} {mp:Mp} (hC:Ck Γ al fl Ar O mp) (n:Nat):AeI 136 Γ al fl Ar O mp n:=by
 induction n with
 |zero=>intro J ln len j B sub pl V lo C v q M Q N Y rl z x H T FP P R A FB RA X Z h;exact absurd h.2.2.2.2.2 (Nat.not_lt_zero _)
 |succ n ih=>
 intro J ln len j B sub pl V lo C v q M Q N Y rl z x H T FP P R A FB RA X Z h
 subst X;obtain ⟨gm,gn,rfl⟩:=Z
 refine .of (t:=Zr) rfl ?_
 conv=>arg 3;reduce
 refine lt j len (fun t1=>?_) fun t1=>?_
 ·refine Dv j 0 ?_
  refine CF j ln ?_
  obtain ⟨ak,L⟩:=WM j om om
  refine el L ?_
  refine CF j J ?_
  have I:=SD j om om
  refine el I ?_
  refine BJ 1 1 ?_
  obtain ⟨_,rfl,U⟩:=ih J ln len (j+1) B sub pl V lo C v q M Q N Y rl z x H ([1,1].map By) (WN gm gn) P R A FB RA rfl (⟨_,_,rfl⟩) kn
  refine cm U ?_
  refine ch U ?_
  exact Ah v0 (rfl)
 exact Ah v0 (rfl)
theorem AlB:Ae9 136:=fun {Γ} {al} {fl} {Ar} {Fs} {mp} hC tl ln len j grp sub pl bl lo fpl fty fbl rk ro ry rv rl knm fnm rnm T FP P R FP2 FB RA hT hF h=>AiS hC ((2-j).toNat+1) tl ln len j grp sub pl bl lo fpl fty fbl rk ro ry rv rl knm fnm rnm T FP P R FP2 FB RA hT hF ⟨h.1,h.2.1,h.2.2.1,h.2.2.2.1,h.2.2.2.2,Nat.lt_succ_self _⟩
def AeB (N:Nat):Prop:=∀{Γ:Ctx} {A fl:Int} {I v:Rs} {M:Mp} (hC:Ck Γ A fl I v M) (j q:Int) (C rk:Int) (O Q:Int) (rv rl:Int) (x H:Int) (sub pl:Int) (V lo:Int) (B L J:List Nat) (z FB:Rs) (X T:Rs) (P R:Rs) (hT:T=[1,1].map By) (hF:∃U Z,z=WN U Z) (h:x=2/\j=2/\q=1:=by exact kn),Ok trees N ⟨[j,q,C,rk,O,Q,rv,rl,x,H,sub,A,pl,fl,V,lo],[B,L,J],[z,FB,X,T,I,P,v,R],[M]⟩ fun Y=>(Y=(0,(⟨[1,0],[],[],[]⟩:Aj)))
theorem AlF:AeB 133:=by
 intro Γ al fl Ar X mp C V U j J H M L O Y x sub pl I lo v B A q Q N T P R Z hF h
 obtain ⟨rfl,rfl,rfl⟩:=h
 refine .of (t:=Zu) rfl ?_
 conv=>arg 3;reduce
 refine BJ 2 2 ?_
 obtain ⟨_,rfl,z⟩:=AlB C 2 2 2 0 x sub pl I lo 2 1 j J H M L O A v B T q P R q Q N asm asm
 refine cm z ?_
 refine ch z ?_
 exact Ah ⟨[1,0],[],[],[]⟩ (rfl)
def P6 (N:Nat) (Γ:Ctx) (z fl:Int) (H x:Rs) (I:Mp) (n:Nat):Prop:=∀{a:List E} (t k:Int) (o ty:Int) (v ln:Int) (j sub:Int) (pl B lo:Int) (s q:List Nat) (A P R:Rs) (J:T Γ t (.node k o ty v s a)) (L:A=E.Ab a) (h:ln=A.length/\(E.node k o ty v s a).high<n),Ok trees N ⟨[k,o,ty,v,ln,j,sub,z,pl,fl,B,lo],[s,q],[A,H,P,x,R],[I]⟩ fun C=>(C=(0,(⟨[t,0],[],[],[]⟩:Aj)))
def AeF (N:Nat):Prop:=∀{Γ:Ctx} {q fl:Int} {z j:Rs} {C:Mp} (J:Ck Γ q fl z j C) {a:List E} (t k:Int) (o ty:Int) (v ln:Int) (x sub:Int) (pl H lo:Int) (s B:List Nat) (A P R:Rs) (L:T Γ t (.node k o ty v s a)) (M:A=E.Ab a) (h:ln=A.length:=by exact kn),Ok trees N ⟨[k,o,ty,v,ln,x,sub,q,pl,fl,H,lo],[s,B],[A,z,P,j,R],[C]⟩ fun I=>(I=(0,(⟨[t,0],[],[],[]⟩:Aj)))
def AeJ (M N:Nat) (Γ:Ctx) (H fl:Int) (J C:Rs) (O:Mp) (m n:Nat):Prop:=∀{a:List E} (ts:List Int) (q ln:Int) (len j:Int) (v sub:Int) (pl I lo:Int) (B:List Nat) (L P:Rs) (R Q:Rs) (V:Ts Γ ts a) (U:L=E.Ab a) (X:Q=(ts.take j.toNat).map By) (h:ln=L.length/\ln<=3/\len=ln/\0<=j/\j<=ln/\q=Q.length/\q+(len-j)<=9/\0<=q/\E.BA a<m/\(len-j).toNat<n),Ok trees N ⟨[q,ln,len,j,v,sub,H,pl,fl,I,lo],[B],[L,J,P,C,R,Q],[O]⟩ fun z=>(z=(2,v0)/\(Q=ts.map By))∨(∃(A:Int),∃(x:Rs),z=(3,(⟨[A],[],[x],[]⟩:Aj))/\(x=ts.map By)/\(A=(ts.length:Int)))
def AeA (A N:Nat):Prop:=∀{m:Nat} {Γ:Ctx} {x fl:Int} {z v:Rs} {B:Mp} (Y:Ck Γ x fl z v B) (O:P6 A Γ x fl z v B m) {a:List E} (ts:List Int) (q ln:Int) (len j:Int) (C sub:Int) (pl U lo:Int) (M:List Nat) (L P:Rs) (R Q:Rs) (X:Ts Γ ts a) (V:L=E.Ab a) (Z:Q=(ts.take j.toNat).map By) (h:ln=L.length/\ln<=3/\len=ln/\0<=j/\j<=ln/\q=Q.length/\q+(len-j)<=9/\0<=q/\E.BA a<m:=by exact kn),Ok trees N ⟨[q,ln,len,j,C,sub,x,pl,fl,U,lo],[M],[L,z,P,v,R,Q],[B]⟩ fun I=>(I=(2,v0)/\(Q=ts.map By))∨(∃(J:Int),∃(H:Rs),I=(3,(⟨[J],[],[H],[]⟩:Aj))/\(H=ts.map By)/\(J=(ts.length:Int)))
theorem AiU {Γ:Ctx} {O fl:Int} {U J:Rs} {V:Mp} (hC:Ck Γ O fl U J V) {m:Nat} (B:P6 124 Γ O fl U J V m) (n:Nat):AeJ 124 134 Γ O fl U J V m n:=by
 induction n with
 |zero=>intro a ts X ln len j z sub pl M lo A L P R Q v H Z h;exact absurd h.2.2.2.2.2.2.2.2.2 (Nat.not_lt_zero _)
 |succ n ih=>
 intro a ts X ln len j z sub pl M lo A L P R Q v H Z h
 subst H
 refine .of (t:=Zt) rfl ?_
 conv=>arg 3;reduce
 refine lt j len (fun t1=>?_) fun t1=>?_
 ·refine Dv j 0 ?_
  refine CF j ln ?_
  obtain ⟨ac,Y,ad,ab,aa,I,C,N,ai,ao,ah⟩:=v.get j om om
  refine el N ?_
  obtain ⟨_,rfl,G3⟩:=B C ac Y ad ab ((E.Ab I).length:Int) z sub pl M lo aa A (E.Ab I) P R asm rfl kn
  refine ch G3 ?_
  refine BJ 0 0 ?_
  refine dL (Q++[[PV.int .i64 C]]) (fun x e4=>?_) (Bq (pw X Q) pe)
  have f4:=cL e4;try simp only [lA,lC,lN,lT']at f4
  refine E6 (x.length:Int) 1048576 ?_
  obtain ⟨_,(⟨rfl,ag⟩|⟨af,ae,rfl,rfl,rfl⟩),q⟩:=ih ts (x.length:Int) ln len (j+1) z sub pl M lo A (E.Ab a) P R x v rfl (by subst_vars;exact HQ asm om) kn
  ·refine cm q ?_
   refine cm q ?_
   refine ch q ?_
   exact Ah ⟨[(x.length:Int)],[],[x],[]⟩ (.inr ((⟨_,_,rfl,(by first|rfl|assumption|(subst_vars;assumption)),(by first|rfl|(have e:=‹_=ts.map By›;rw [e];exact Ts.CM))⟩)))
  refine cm q ?_
  refine cm q ?_
  refine cm q ?_
  refine ch q ?_
  exact Ah ⟨[(ts.length:Int)],[],[(ts.map By)],[]⟩ (.inr ((⟨_,_,rfl,(by first|rfl|assumption|(subst_vars;assumption)),(by first|rfl|(have e:=‹_=ts.map By›;rw [e];exact Ts.CM))⟩)))
 exact Ah v0 (.inl (⟨rfl,(Z.trans (v.end om))⟩))
theorem AlE:AeA 124 134:=fun {m} {Γ} {al} {fl} {Ar} {Fs} {mp} hC hC124 {a} ts ql ln len j grp sub pl bl lo knm L P R Q hTs hLa hQ h=>AiU hC @hC124 ((len-j).toNat+1) ts ql ln len j grp sub pl bl lo knm L P R Q hTs hLa hQ ⟨h.1,h.2.1,h.2.2.1,h.2.2.2.1,h.2.2.2.2.1,h.2.2.2.2.2.1,h.2.2.2.2.2.2.1,h.2.2.2.2.2.2.2.1,h.2.2.2.2.2.2.2.2,Nat.lt_succ_self _⟩
def AeC (z N:Nat):Prop:=∀{m:Nat} {Γ:Ctx} {v fl:Int} {x q:Rs} {A:Mp} (V:Ck Γ v fl x q A) (M:P6 z Γ v fl x q A m) {a:List E} (ts:List Int) (ln len:Int) (j B:Int) (sub pl:Int) (O lo:Int) (J:List Nat) (L P R:Rs) (U:Ts Γ ts a) (Q:L=E.Ab a) (h:ln=L.length/\ln<=3/\len=ln/\j=0/\E.BA a<m:=by exact kn),Ok trees N ⟨[ln,len,j,B,sub,v,pl,fl,O,lo],[J],[L,x,P,q,R],[A]⟩ fun H=>(H=(0,v0)/\(ts=[]))∨(∃(I:Int),∃(C:Rs),H=(2,(⟨[I],[],[C],[]⟩:Aj))/\(C=ts.map By)/\(I=(ts.length:Int)))
theorem AlI:AeC 124 128:=by
 intro m Γ al fl Ar Fs mp hC v a ts ln len j A sub pl O lo C L P R x Q h
 subst Q;obtain ⟨h1,h2,rfl,rfl,h5⟩:=h
 refine .of (t:=Zy) rfl ?_
 conv=>arg 3;reduce
 refine lt 0 len (fun t1=>?_) fun t1=>?_
 ·refine Dv 0 0 ?_
  refine CF 0 len ?_
  obtain ⟨V,M,X,U,N,B,z,H,ad,ah,ac⟩:=x.get 0 om om
  refine el H ?_
  obtain ⟨_,rfl,G3⟩:=v z V M X U ((E.Ab B).length:Int) A sub pl O lo N C (E.Ab B) P R asm rfl kn
  refine ch G3 ?_
  refine BJ 0 0 ?_
  refine dL [[.int .i64 z]] (fun J e4=>?_)
  have f4:=cL e4;try simp only [lA,lC,lN,lT']at f4
  refine ll 1 J ?_
  obtain ⟨_,(⟨rfl,aa⟩|⟨Z,Y,rfl,rfl,rfl⟩),q⟩:=AlE hC @v ts 1 len len (0+1) A sub pl O lo C (E.Ab a) P R J x rfl (by subst_vars;exact (HQ (j:=0) asm om))
  ·refine cm q ?_
   refine cm q ?_
   refine ch q ?_
   exact Ah ⟨[1],[],[J],[]⟩ (.inr ((⟨_,_,rfl,(by first|rfl|(subst_vars;first|rfl|assumption)),(by first|rfl|(have e:=‹_=ts.map By›;have I:=Ts.CM (ts:=ts);rw [<-e]at I;omega) |(subst_vars;first|rfl|simp))⟩)))
  refine cm q ?_
  refine cm q ?_
  refine cm q ?_
  refine ch q ?_
  exact Ah ⟨[(ts.length:Int)],[],[(ts.map By)],[]⟩ (.inr ((⟨_,_,rfl,(by first|rfl|(subst_vars;first|rfl|assumption)),(by first|rfl|(have e:=‹_=ts.map By›;have I:=Ts.CM (ts:=ts);rw [<-e]at I;omega) |(subst_vars;first|rfl|simp))⟩)))
 exact Ah v0 (.inl (⟨rfl,(x.none om)⟩))
def AeD (x N:Nat):Prop:=∀{m:Nat} {Γ:Ctx} {q fl:Int} {v j:Rs} {z:Mp} (U:Ck Γ q fl v j z) (I:P6 x Γ q fl v j z m) {a:List E} (ts:List Int) (ln A:Int) (sub pl:Int) (J lo:Int) (H:List Nat) (L P R:Rs) (Q:Ts Γ ts a) (O:L=E.Ab a) (h:ln=L.length/\ln<=3/\E.BA a<m:=by exact kn),Ok trees N ⟨[ln,A,sub,q,pl,fl,J,lo],[H],[L,v,P,j,R],[z]⟩ fun M=>(∃(C:Int),∃(B:Rs),M=(0,(⟨[C,0],[],[B],[]⟩:Aj))/\(B=ts.map By)/\(C=(ts.length:Int)))
theorem Lt:AeD 124 127:=by
 intro m Γ Q fl U O V J j a ts ln z sub pl M lo B L P R A x h
 subst x;have N:=Ts.CM (ts:=ts)
 refine .of (t:=Zz) rfl ?_
 conv=>arg 3;reduce
 obtain ⟨_,(⟨rfl,H⟩|⟨C,I,rfl,rfl,rfl⟩),q⟩:=AlI J @j ts ln ln 0 z sub pl M lo B (E.Ab a) P R A rfl
 ·refine ch q ?_
  refine de [] ?_
  refine ll 0 [] ?_
  exact Ah ⟨[0,0],[],[[]],[]⟩ (⟨_,_,rfl,(by first|rfl|(subst_vars;first|rfl|assumption)),(by first|rfl|(have e:=‹_=ts.map By›;have v:=Ts.CM (ts:=ts);rw [<-e]at v;omega) |(subst_vars;first|rfl|simp))⟩)
 refine cm q ?_
 refine cm q ?_
 refine ch q ?_
 refine ll (ts.length:Int) (ts.map By) ?_
 refine fr ?_
 exact Ah ⟨[(ts.length:Int),0],[],[(ts.map By)],[]⟩ (⟨_,_,rfl,(by first|rfl|(subst_vars;first|rfl|assumption)),(by first|rfl|(have e:=‹_=ts.map By›;have v:=Ts.CM (ts:=ts);rw [<-e]at v;omega) |(subst_vars;first|rfl|simp))⟩)
theorem AiW {Γ:Ctx} {al fl:Int} {Ar Fs:Rs} {mp:Mp} (L:Ck Γ al fl Ar Fs mp) (n:Nat):P6 124 Γ al fl Ar Fs mp n:=by
 induction n with
 |zero=>intro a t k o ty v ln J sub pl X lo s I A P R hT hA h;exact absurd h.2 (Nat.not_lt_zero _)
 |succ n ih=>
 intro a t k o ty v ln J sub pl X lo s I A P R hT hA h
 subst hA;have e2:=Fu (k:=k) (o:=o) (ty:=ty) (v:=v) (s:=s) (a:=a);have M:ln=(a.length:Int):=by have:=h.1;rw [E.A7]at this;exact this
 rcases hT.inv with hv|hv|hv|hv|hv|hv|hv|hv
 ·obtain ⟨rfl,rfl,rfl,rfl,rfl,r1,r2,r3,r4,r5,r6⟩:=hv;simp only [lC,lN]at M;have Z:E.Ad []=0:=rfl
  refine .of (t:=Is) rfl ?_
  conv=>arg 3;reduce
  obtain ⟨_,⟨bf,a0,rfl,rfl,rfl⟩,G1⟩:=Lt L @ih [] ln J sub pl X lo I (E.Ab []) P R (by exact .nil) rfl
  refine ch G1 ?_
  refine BJ 0 0 ?_
  refine Bw 1 1 ?_
  first|exact Ah ⟨[ty,0],[],[],[]⟩ (rfl) |(exfalso;omega)
 ·obtain ⟨rfl,rfl,rfl,rfl,rfl,rfl,r1,r2⟩:=hv;simp only [lC,lN]at M;have Z:E.Ad []=0:=rfl
  refine .of (t:=Is) rfl ?_
  conv=>arg 3;reduce
  obtain ⟨_,⟨aP,bc,rfl,rfl,rfl⟩,G2⟩:=Lt L @ih [] ln J sub pl X lo I (E.Ab []) P R (by exact .nil) rfl
  refine ch G2 ?_
  refine BJ 0 0 ?_
  refine AB 3 1 ?_
  refine Bw 3 3 ?_
  first|exact Ah ⟨[1,0],[],[],[]⟩ (rfl) |(exfalso;omega)
 ·obtain ⟨rfl,rfl,rfl,rfl,rfl,hs,kk,ii,hk,r1,r2,hg⟩:=hv;simp only [lC,lN]at M;have Z:E.Ad []=0:=rfl
  refine .of (t:=Is) rfl ?_
  conv=>arg 3;reduce
  obtain ⟨_,⟨a1,a3,rfl,rfl,rfl⟩,G3⟩:=Lt L @ih [] ln J sub pl X lo I (E.Ab []) P R (by exact .nil) rfl
  refine ch G3 ?_
  refine BJ 0 0 ?_
  refine AB 2 1 ?_
  refine AB 2 3 ?_
  refine AB 2 4 ?_
  refine AB 2 5 ?_
  refine AB 2 6 ?_
  refine Bw 2 2 ?_
  refine lh (L.look hg) ?_
  refine eq kk 2 (fun t4=>?_) fun t4=>?_
  ·first|exact Ah ⟨[t,0],[],[],[]⟩ (rfl) |(exfalso;omega)
  refine eq kk 3 (fun t5=>?_) fun t5=>?_
  ·first|exact Ah ⟨[t,0],[],[],[]⟩ (rfl) |(exfalso;omega)
  first|exact Ah ⟨[0,30],[],[],[]⟩ (rfl) |(exfalso;omega)
 ·obtain ⟨rfl,rfl,rfl,rfl,B,H,j,v1,q,C,w,rfl,hu,Y⟩:=hv;simp only [lC,lN]at M;have Z:=n1 (x:=.node B H j v1 q C);have e4:=g1 (x:=.node B H j v1 q C);have hr:=hu.X2
  refine .of (t:=Is) rfl ?_
  conv=>arg 3;reduce
  obtain ⟨_,⟨aX,a7,rfl,rfl,rfl⟩,G6⟩:=Lt L @ih [w] ln J sub pl X lo I (E.Ab [.node B H j v1 q C]) P R (by exact .cons Y .nil) rfl
  refine ch G6 ?_
  refine BJ 0 0 ?_
  refine AB 4 1 ?_
  refine AB 4 3 ?_
  refine Bw 4 4 ?_
  refine CF 0 ([w].length:Int) ?_
  refine el (j':=0) rfl ?_
  obtain ⟨_,rfl,G7⟩:=Xd t o w hu
  refine ch G7 ?_
  first|exact Ah ⟨[t,0],[],[],[]⟩ (rfl) |(exfalso;omega)
 ·obtain ⟨rfl,rfl,rfl,rfl,B,H,j,v1,q,C,O,V,Q,N,U,b2,w,rfl,hu,Y,h2⟩:=hv;simp only [lC,lN]at M;have Z:=n2 (x:=.node B H j v1 q C) (y:=.node O V Q N U b2);have e4:=g2 (x:=.node B H j v1 q C) (y:=.node O V Q N U b2);have hr:=hu.X2
  refine .of (t:=Is) rfl ?_
  conv=>arg 3;reduce
  obtain ⟨_,⟨a8,a5,rfl,rfl,rfl⟩,G8⟩:=Lt L @ih [w,w] ln J sub pl X lo I (E.Ab [.node B H j v1 q C,.node O V Q N U b2]) P R (by exact .cons Y (.cons h2 .nil)) rfl
  refine ch G8 ?_
  refine BJ 0 0 ?_
  refine AB 5 1 ?_
  refine AB 5 3 ?_
  refine AB 5 4 ?_
  refine Bw 5 5 ?_
  refine CF 0 ([w,w].length:Int) ?_
  refine el (j':=0) rfl ?_
  refine CF 1 ([w,w].length:Int) ?_
  refine el (j':=1) rfl ?_
  obtain ⟨_,rfl,G9⟩:=Px t o w w hu rfl
  refine ch G9 ?_
  first|exact Ah ⟨[t,0],[],[],[]⟩ (rfl) |(exfalso;omega)
 ·obtain ⟨rfl,rfl,rfl,rfl,rfl,B,H,j,v1,q,C,O,V,Q,N,U,b2,k3,o3,t3,v3,s3,b3,rfl,Y,h2,h3⟩:=hv;simp only [lC,lN]at M;have Z:=n3 (x:=.node B H j v1 q C) (y:=.node O V Q N U b2) (z:=.node k3 o3 t3 v3 s3 b3);have e4:=g3 (x:=.node B H j v1 q C) (y:=.node O V Q N U b2) (z:=.node k3 o3 t3 v3 s3 b3)
  refine .of (t:=Is) rfl ?_
  conv=>arg 3;reduce
  obtain ⟨_,⟨aN,aJ,rfl,rfl,rfl⟩,aA⟩:=Lt L @ih [3,t,t] ln J sub pl X lo I (E.Ab [.node B H j v1 q C,.node O V Q N U b2,.node k3 o3 t3 v3 s3 b3]) P R (by exact .cons Y (.cons h2 (.cons h3 .nil))) rfl
  refine ch aA ?_
  refine BJ 0 0 ?_
  refine AB 6 1 ?_
  refine AB 6 3 ?_
  refine AB 6 4 ?_
  refine AB 6 5 ?_
  refine Bw 6 6 ?_
  refine CF 0 ([3,t,t].length:Int) ?_
  refine el (j':=0) rfl ?_
  refine BJ 3 3 ?_
  refine CF 1 ([3,t,t].length:Int) ?_
  refine el (j':=1) rfl ?_
  refine CF 2 ([3,t,t].length:Int) ?_
  refine el (j':=2) rfl ?_
  refine BJ t t ?_
  first|exact Ah ⟨[t,0],[],[],[]⟩ (rfl) |(exfalso;omega)
 ·obtain ⟨rfl,rfl,rfl,rfl,hs,B,H,j,v1,q,C,ii,rfl,r1,r2,hg,Y⟩:=hv;simp only [lC,lN]at M;have Z:=n1 (x:=.node B H j v1 q C);have e4:=g1 (x:=.node B H j v1 q C)
  refine .of (t:=Is) rfl ?_
  conv=>arg 3;reduce
  obtain ⟨_,⟨aK,aL,rfl,rfl,rfl⟩,ay⟩:=Lt L @ih [1] ln J sub pl X lo I (E.Ab [.node B H j v1 q C]) P R (by exact .cons Y .nil) rfl
  refine ch ay ?_
  refine BJ 0 0 ?_
  refine AB 7 1 ?_
  refine AB 7 3 ?_
  refine AB 7 4 ?_
  refine AB 7 5 ?_
  refine AB 7 6 ?_
  refine AB 7 2 ?_
  refine Bw 7 7 ?_
  refine lh (L.look hg) ?_
  refine Bw 0 0 ?_
  refine CF 0 ([1].length:Int) ?_
  refine el (j':=0) rfl ?_
  refine BJ 1 1 ?_
  first|exact Ah ⟨[t,0],[],[],[]⟩ (rfl) |(exfalso;omega)
 ·obtain ⟨rfl,rfl,rfl,rfl,rfl,B,H,j,v1,q,C,O,V,Q,N,U,b2,ii,rfl,rfl,hg,Y,h2⟩:=hv;simp only [lC,lN]at M;have Z:=n2 (x:=.node B H j v1 q C) (y:=.node O V Q N U b2);have e4:=g2 (x:=.node B H j v1 q C) (y:=.node O V Q N U b2);obtain ⟨bg,bh,gm,gn,F_,kf,av,yf,wf,sf,Af,ak⟩:=L.fn _ hg;have bi:((WN gm gn).length:Int)=2:=rfl
  refine .of (t:=Is) rfl ?_
  conv=>arg 3;reduce
  obtain ⟨_,⟨aI,aM,rfl,rfl,rfl⟩,aE⟩:=Lt L @ih [1,1] ln J sub pl X lo I (E.Ab [.node B H j v1 q C,.node O V Q N U b2]) P R (by exact .cons Y (.cons h2 .nil)) rfl
  refine ch aE ?_
  refine BJ 0 0 ?_
  refine AB 8 1 ?_
  refine AB 8 3 ?_
  refine AB 8 4 ?_
  refine AB 8 5 ?_
  refine AB 8 6 ?_
  refine AB 8 2 ?_
  refine AB 8 7 ?_
  refine Bw 8 8 ?_
  refine lh (L.look hg) ?_
  refine Bw 1 1 ?_
  refine Dv ii 0 ?_
  refine CF ii fl ?_
  refine el ak ?_
  obtain ⟨_,rfl,aC⟩:=AlF L ((WN gm gn).length:Int) 1 (F_.length:Int) kf av yf wf (Af.length:Int) ([1,1].length:Int) J sub pl X lo [104] sf I (WN gm gn) F_ Af ([1,1].map By) P R rfl (⟨_,_,rfl⟩)
  refine ch aC ?_
  first|exact Ah ⟨[1,0],[],[],[]⟩ (rfl) |(exfalso;omega)
theorem Xe:AeF 124:=fun {Γ} {al} {fl} {Ar} {Fs} {mp} hC {a} t k o ty v ln grp sub pl bl lo s knm A P R hT hA h=>AiW hC ((E.node k o ty v s a).high+1) t k o ty v ln grp sub pl bl lo s knm A P R hT hA ⟨h,Nat.lt_succ_self _⟩
def AeE (N:Nat):Prop:=∀{Γ:Ctx} {q fl:Int} {z j:Rs} {C:Mp} (J:Ck Γ q fl z j C) {a:List E} (k o:Int) (ty v:Int) (ln t:Int) (x sub:Int) (pl H lo:Int) (s B:List Nat) (A P R:Rs) (L:T Γ t (.node k o ty v s a)) (M:A=E.Ab a) (h:ln=A.length:=by exact kn),Ok trees N ⟨[k,o,ty,v,ln,t,x,sub,q,pl,fl,H,lo],[s,B],[A,z,P,j,R],[C]⟩ fun I=>(I=(0,(⟨[0],[],[],[]⟩:Aj)))
theorem Py:AeE 125:=by
 intro Γ J fl L I M x a k o ty v ln t j sub pl z lo s q A P R B C h
 refine .of (t:=Z1) rfl ?_
 conv=>arg 3;reduce
 obtain ⟨_,rfl,H⟩:=Xe x t k o ty v ln j sub pl z lo s q A P R B C
 refine ch H ?_
 refine Bw 0 0 ?_
 refine BJ t t ?_
 exact Ah ⟨[0],[],[],[]⟩ (rfl)
def AmW (N:Nat):Prop:=∀{Γ:Ctx} {lp pu:Int} {Γ1:Ctx} {H ya:List E} {Z el:List S} (k o:Int) (t b:Int) (xk xo:Int) (U xw:Int) (xl yk:Int) (M O:Int) (L Q:Int) (j v:Int) (V sub:Int) (B pl:Int) (fl bl lo:Int) (nm I:List Nat) (J af:List Nat) (X Y:Rs) (z A:Rs) (C P:Rs) (x R:Rs) (mp:Mp) (hC:Ck Γ B fl C x mp) (hS:Fc lp pu Γ (.node k o t b nm (.node xk xo U xw I H) (.node yk M O L J ya) Z el) Γ1) (hX:X=E.Ab H) (hY:Y=E.Ab ya) (hB:z=S.Ab Z) (hE:A=S.Ab el) (h:xl=X.length/\Q=Y.length/\j=z.length/\v=A.length/\k=1:=by exact kn),Ok trees N ⟨[k,o,t,b,xk,xo,U,xw,xl,yk,M,O,L,Q,j,v,V,sub,B,pl,fl,bl,lo],[nm,I,J,af],[X,Y,z,A,C,P,x,R],[mp]⟩ fun zz=>(∃(q:Mp),zz=(0,(⟨[0],[],[],[q]⟩:Aj))/\(Ck Γ1 B fl C x q))
theorem AlP:AmW 117:=by
 intro Γ lp pu Γ1 z ya bo el k o t b L U J M N yk yo yt yw yl Z aa v sub al pl fl C lo nm A yn x X Y Bo El Ar P Fs R V j O B H hB I h
 subst B;subst H;subst hB;subst I;obtain ⟨_,_,_,_,_,hn,q,r1,r2,hx,_,rfl⟩:=O.Ak7 om
 refine .of (t:=Z7) rfl ?_
 conv=>arg 3;reduce
 obtain ⟨_,rfl,Q⟩:=Xe j t L U J M N v sub pl C lo A x (E.Ab z) P R asm rfl
 refine ch Q ?_
 refine BJ 0 0 ?_
 refine lm (j.Ak4 q) ?_
 refine up [.int .i64 3,.int .i64 t,.int .i64 0] ?_
 refine BJ t t ?_
 first|exact Ah ⟨[0],[],[],[(Bv V nm [.int .i64 3,.int .i64 t,.int .i64 0])]⟩ (⟨_,rfl,(j.Iq q)⟩) |(exfalso;omega)
def AmV (N:Nat):Prop:=∀{Γ:Ctx} {lp pu:Int} {Γ1:Ctx} {z ya:List E} {U el:List S} (k o:Int) (t b:Int) (V xo:Int) (O xw:Int) (xl yk:Int) (I J:Int) (H L:Int) (j q:Int) (Q sub:Int) (M pl:Int) (fl bl lo:Int) (nm A:List Nat) (C ae:List Nat) (X Y:Rs) (v x:Rs) (Z P:Rs) (B R:Rs) (mp:Mp) (hC:Ck Γ M fl Z B mp) (hS:Fc lp pu Γ (.node k o t b nm (.node V xo O xw A z) (.node yk I J H C ya) U el) Γ1) (hX:X=E.Ab z) (hY:Y=E.Ab ya) (hB:v=S.Ab U) (hE:x=S.Ab el) (h:xl=X.length/\L=Y.length/\j=v.length/\q=x.length/\k=2:=by exact kn),Ok trees N ⟨[k,o,t,b,V,xo,O,xw,xl,yk,I,J,H,L,j,q,Q,sub,M,pl,fl,bl,lo],[nm,A,C,ae],[X,Y,v,x,Z,P,B,R],[mp]⟩ fun zz=>(zz=(0,(⟨[0],[],[],[]⟩:Aj)))
theorem AlO:AmV 118:=by
 intro Γ lp pu Γ1 x ya bo el k o t b L U J M N yk yo yt yw yl V Z q sub al pl fl C lo nm z yn v X Y Bo El Ar P Fs R mp j O A H hB I h
 subst A;subst H;subst hB;subst I;obtain ⟨_,_,_,_,_,_,hn,rfl,u,i,B,hx,_⟩:=O.Ak8 om
 refine .of (t:=Z6) rfl ?_
 conv=>arg 3;reduce
 refine lh (j.look B) ?_
 refine Bw 3 3 ?_
 obtain ⟨_,rfl,Q⟩:=Py j L U J M N u q sub pl C lo z v (E.Ab x) P R asm rfl
 refine ch Q ?_
 first|exact Ah ⟨[0],[],[],[]⟩ (rfl) |(exfalso;omega)
def AmP (N:Nat):Prop:=∀{Γ:Ctx} {v ya:List E} (u i:Int) (k o:Int) (t b:Int) (V xo:Int) (O xw:Int) (xl yk:Int) (I J:Int) (C L:Int) (x U:Int) (Q sub:Int) (M pl:Int) (fl bl lo:Int) (nm z:List Nat) (B ae:List Nat) (X Y:Rs) (Bo El:Rs) (Z P:Rs) (A R:Rs) (mp:Mp) (hC:Ck Γ M fl Z A mp) (hg:Γ nm=some (0,u,i)) (hx:T Γ 1 (.node V xo O xw z v)) (hy:T Γ u (.node yk I J C B ya)) (hX:X=E.Ab v) (hY:Y=E.Ab ya) (h:xl=X.length/\L=Y.length:=by exact kn),Ok trees N ⟨[k,o,t,b,V,xo,O,xw,xl,yk,I,J,C,L,x,U,Q,sub,M,pl,fl,bl,lo],[nm,z,B,ae],[X,Y,Bo,El,Z,P,A,R],[mp]⟩ fun zz=>(∃(j q:Int),∃(H:List Nat),zz=(0,(⟨[j,u,q,0],[H],[],[]⟩:Aj))/\(i=0∨i=2->j≠3))
theorem Ae6:AmP 126:=by
 intro Γ J ya u i k o t b xk xo xt xw xl yk Q U O Z ak ao q sub al pl fl B lo nm L M v X Y Bo El Ar P Fs R mp j A hx hy N V h
 subst N;subst V;obtain ⟨an,aj,I,C,z,x,H⟩:=j.ar _ _ _ A
 refine .of (t:=Z0) rfl ?_
 conv=>arg 3;reduce
 refine lh (j.look A) ?_
 refine Bw 0 0 ?_
 refine Dv i 0 ?_
 refine CF i al ?_
 refine el x ?_
 obtain ⟨_,rfl,G1⟩:=Py j xk xo xt xw xl 1 q sub pl B lo L v (E.Ab J) P R asm rfl
 refine ch G1 ?_
 refine Bw 0 0 ?_
 obtain ⟨_,rfl,G2⟩:=Py j yk Q U O Z u q sub pl B lo M v (E.Ab ya) P R asm rfl
 refine ch G2 ?_
 first|exact Ah ⟨[C,u,z,0],[I],[],[]⟩ (⟨_,_,_,rfl,H⟩) |(exfalso;omega)
def AmS (N:Nat):Prop:=∀{Γ:Ctx} {lp pu:Int} {Γ1:Ctx} {z ya:List E} {U el:List S} (k o:Int) (t b:Int) (V xo:Int) (O xw:Int) (xl yk:Int) (I J:Int) (H L:Int) (j q:Int) (Q sub:Int) (M pl:Int) (fl bl lo:Int) (nm A:List Nat) (C ae:List Nat) (X Y:Rs) (v x:Rs) (Z P:Rs) (B R:Rs) (mp:Mp) (hC:Ck Γ M fl Z B mp) (hS:Fc lp pu Γ (.node k o t b nm (.node V xo O xw A z) (.node yk I J H C ya) U el) Γ1) (hX:X=E.Ab z) (hY:Y=E.Ab ya) (hB:v=S.Ab U) (hE:x=S.Ab el) (h:xl=X.length/\L=Y.length/\j=v.length/\q=x.length/\k=3:=by exact kn),Ok trees N ⟨[k,o,t,b,V,xo,O,xw,xl,yk,I,J,H,L,j,q,Q,sub,M,pl,fl,bl,lo],[nm,A,C,ae],[X,Y,v,x,Z,P,B,R],[mp]⟩ fun zz=>(zz=(0,(⟨[0],[],[],[]⟩:Aj)))
theorem AlL:AmS 121:=by
 intro Γ lp pu Γ1 z ya bo el k o t b xk xo xt xw xl yk N Q L yl j v q sub al pl fl M lo nm A H x X Y Bo El Ar P B R mp C hS I V hB Z h
 subst I;subst V;subst hB;subst Z;obtain ⟨_,_,_,_,_,aw,hn,rfl,u,i,_,_,J,hx,hy,_,_⟩:=hS.Aho om
 refine .of (t:=Z3) rfl ?_
 conv=>arg 3;reduce
 obtain ⟨_,⟨aa,O,ah,rfl,U⟩,G1⟩:=Ae6 u i k o t b xk xo xt xw xl yk N Q L yl j v q sub al pl fl M lo nm A H x (E.Ab z) (E.Ab ya) (S.Ab bo) (S.Ab el) Ar P B R mp C J hx hy rfl rfl
 refine ch G1 ?_
 first|exact Ah ⟨[0],[],[],[]⟩ (rfl) |(exfalso;omega)
def AmR (N:Nat):Prop:=∀{Γ:Ctx} {lp pu:Int} {Γ1:Ctx} {z ya:List E} {U el:List S} (k o:Int) (t b:Int) (V xo:Int) (O xw:Int) (xl yk:Int) (I J:Int) (H L:Int) (j q:Int) (Q sub:Int) (M pl:Int) (fl bl lo:Int) (nm A:List Nat) (C ae:List Nat) (X Y:Rs) (v x:Rs) (Z P:Rs) (B R:Rs) (mp:Mp) (hC:Ck Γ M fl Z B mp) (hS:Fc lp pu Γ (.node k o t b nm (.node V xo O xw A z) (.node yk I J H C ya) U el) Γ1) (hX:X=E.Ab z) (hY:Y=E.Ab ya) (hB:v=S.Ab U) (hE:x=S.Ab el) (h:xl=X.length/\L=Y.length/\j=v.length/\q=x.length/\k=4:=by exact kn),Ok trees N ⟨[k,o,t,b,V,xo,O,xw,xl,yk,I,J,H,L,j,q,Q,sub,M,pl,fl,bl,lo],[nm,A,C,ae],[X,Y,v,x,Z,P,B,R],[mp]⟩ fun zz=>(zz=(0,(⟨[0],[],[],[]⟩:Aj)))
theorem AlK:AmR 122:=by
 intro Γ lp pu Γ1 B ya bo el k o t b xk xo xt xw xl yk Q V N yl q x v sub al pl fl O lo nm C J z X Y Bo El Ar P H R mp I hS L hY hB hE h
 subst L;subst hY;subst hB;subst hE;obtain ⟨_,_,_,_,ay,hn,rfl,i,hi,M,ho,hx,hy,_,_⟩:=hS.AkA om
 refine .of (t:=Z2) rfl ?_
 conv=>arg 3;reduce
 obtain ⟨_,⟨j,U,aj,rfl,Z⟩,G1⟩:=Ae6 1 i k o t b xk xo xt xw xl yk Q V N yl q x v sub al pl fl O lo nm C J z (E.Ab B) (E.Ab ya) (S.Ab bo) (S.Ab el) Ar P H R mp I M hx hy rfl rfl
 refine ch G1 ?_
 refine BJ 0 0 ?_
 obtain ⟨_,rfl,G2⟩:=Px 1 o 1 1 (by unfold FC;omega) rfl
 refine ch G2 ?_
 refine BJ 0 0 ?_
 refine eq j 3 (fun A=>?_) fun A=>?_
 ·first|exact Ah ⟨[31],[],[],[]⟩ (rfl) |(exfalso;omega)
 first|exact Ah ⟨[0],[],[],[]⟩ (rfl) |(exfalso;omega)
def AmQ (N:Nat):Prop:=∀{Γ:Ctx} {lp pu:Int} {Γ1:Ctx} {z ya:List E} {U el:List S} (k o:Int) (t b:Int) (V xo:Int) (O xw:Int) (xl yk:Int) (I J:Int) (H L:Int) (j q:Int) (Q sub:Int) (M pl:Int) (fl bl lo:Int) (nm A:List Nat) (C ae:List Nat) (X Y:Rs) (v x:Rs) (Z P:Rs) (B R:Rs) (mp:Mp) (hC:Ck Γ M fl Z B mp) (hS:Fc lp pu Γ (.node k o t b nm (.node V xo O xw A z) (.node yk I J H C ya) U el) Γ1) (hX:X=E.Ab z) (hY:Y=E.Ab ya) (hB:v=S.Ab U) (hE:x=S.Ab el) (h:xl=X.length/\L=Y.length/\j=v.length/\q=x.length/\k=12:=by exact kn),Ok trees N ⟨[k,o,t,b,V,xo,O,xw,xl,yk,I,J,H,L,j,q,Q,sub,M,pl,fl,bl,lo],[nm,A,C,ae],[X,Y,v,x,Z,P,B,R],[mp]⟩ fun zz=>(zz=(0,(⟨[0],[],[],[]⟩:Aj)))
theorem AlJ:AmQ 123:=by
 intro Γ lp pu Γ1 Q ya bo el k o t b xk N xt xw M yk yo yt yw yl aH aI v sub al pl fl z lo nm A yn j X Y Bo El Ar P Fs R mp q hS hX hY hB hE h
 subst hX;subst hY;subst hB;subst hE;
 rcases hS.Ao5 om with hv|hv
 ·obtain ⟨_,_,_,_,_,ac,hn,rfl,u,w,i,x,r1,r2,ho,J,_⟩:=hv
  refine .of (t:=VK) rfl ?_
  conv=>arg 3;reduce
  refine lh (q.look x) ?_
  refine Bw 3 3 ?_
  obtain ⟨_,rfl,G1⟩:=Xe q w xk N xt xw M v sub pl z lo A j (E.Ab Q) P R asm rfl
  refine ch G1 ?_
  refine Bw 0 0 ?_
  refine AB o 4 ?_
  refine BJ 0 0 ?_
  refine eq o 1 (fun t2=>?_) fun t2=>?_
  ·refine eq w 3 (fun t3=>?_) fun t3=>?_
   ·refine eq u 1 (fun t4=>?_) fun t4=>?_
    ·first|exact Ah ⟨[0],[],[],[]⟩ (rfl) |(exfalso;omega)
    first|exact Ah ⟨[31],[],[],[]⟩ (rfl) |(exfalso;omega)
   first|exact Ah ⟨[31],[],[],[]⟩ (rfl) |(exfalso;omega)
  refine eq o 2 (fun t5=>?_) fun t5=>?_
  ·refine eq w u (fun t6=>?_) fun t6=>?_
   ·refine eq w 3 (fun t7=>?_) fun t7=>?_
    ·first|exact Ah ⟨[0],[],[],[]⟩ (rfl) |(exfalso;omega)
    first|exact Ah ⟨[31],[],[],[]⟩ (rfl) |(exfalso;omega)
   first|exact Ah ⟨[31],[],[],[]⟩ (rfl) |(exfalso;omega)
  refine eq o 3 (fun t8=>?_) fun t8=>?_
  ·refine eq w u (fun t9=>?_) fun t9=>?_
   ·refine eq w 3 (fun U=>?_) fun U=>?_
    ·first|exact Ah ⟨[0],[],[],[]⟩ (rfl) |(exfalso;omega)
    first|exact Ah ⟨[31],[],[],[]⟩ (rfl) |(exfalso;omega)
   first|exact Ah ⟨[31],[],[],[]⟩ (rfl) |(exfalso;omega)
  refine eq o 5 (fun L=>?_) fun L=>?_
  ·refine eq w u (fun I=>?_) fun I=>?_
   ·refine ne w 3 (fun H=>?_) fun H=>?_
    ·first|exact Ah ⟨[0],[],[],[]⟩ (rfl) |(exfalso;omega)
    first|exact Ah ⟨[31],[],[],[]⟩ (rfl) |(exfalso;omega)
   first|exact Ah ⟨[31],[],[],[]⟩ (rfl) |(exfalso;omega)
  refine eq o 6 (fun Z=>?_) fun Z=>?_
  ·refine eq w u (fun C=>?_) fun C=>?_
   ·refine ne w 3 (fun B=>?_) fun B=>?_
    ·first|exact Ah ⟨[0],[],[],[]⟩ (rfl) |(exfalso;omega)
    first|exact Ah ⟨[31],[],[],[]⟩ (rfl) |(exfalso;omega)
   first|exact Ah ⟨[31],[],[],[]⟩ (rfl) |(exfalso;omega)
  refine eq w u (fun V=>?_) fun V=>?_
  ·first|exact Ah ⟨[0],[],[],[]⟩ (rfl) |(exfalso;omega)
  first|exact Ah ⟨[31],[],[],[]⟩ (rfl) |(exfalso;omega)
 ·obtain ⟨rfl,_,_,_,_,ac,hn,rfl,u,i,x,r1,r2,J,hy,_,_⟩:=hv
  refine .of (t:=VK) rfl ?_
  conv=>arg 3;reduce
  refine lh (q.look x) ?_
  refine Bw 3 3 ?_
  obtain ⟨_,rfl,O⟩:=Xe q u xk N xt xw M v sub pl z lo A j (E.Ab Q) P R J rfl
  refine ch O ?_
  refine Bw 0 0 ?_
  refine Bw 4 4 ?_
  obtain ⟨_,rfl,ab⟩:=Py q yk yo yt yw yl 1 v sub pl z lo yn j (E.Ab ya) P R hy rfl
  refine ch ab ?_
  refine BJ 0 0 ?_
  refine AB 4 1 ?_
  refine AB 4 2 ?_
  refine AB 4 3 ?_
  refine AB 4 5 ?_
  refine AB 4 6 ?_
  refine Bw u u ?_
  first|exact Ah ⟨[0],[],[],[]⟩ (rfl) |(exfalso;omega)
def P7 (N n:Nat):Prop:=∀{Γ:Ctx} {A H:Int} {I:Ctx} {l:List S} (ln x:Int) (sub v:Int) (pl fl:Int) (J lo:Int) (B:List Nat) (L z:Rs) (P q R:Rs) (C:Mp) (Q:Ck Γ v fl z q C) (U:EK A H Γ l I) (O:L=S.Ab l) (h:ln=L.length/\ln<=200000/\(A=0∨1<=lo)/\0<=lo/\lo+S.Az l<=1000/\S.Ad l<=200000/\S.Az l<n),Ok trees N ⟨[ln,x,sub,v,pl,fl,J,lo],[B],[L,z,P,q,R],[C]⟩ fun M=>(∃(j:Int),M=(0,(⟨[0,j],[],[],[]⟩:Aj))/\(lo=j))
def Ana (N:Nat):Prop:=∀{Γ:Ctx} {A H:Int} {I:Ctx} {l:List S} (ln x:Int) (sub v:Int) (pl fl:Int) (J lo:Int) (B:List Nat) (L z:Rs) (P q R:Rs) (C:Mp) (Q:Ck Γ v fl z q C) (U:EK A H Γ l I) (O:L=S.Ab l) (h:ln=L.length/\ln<=200000/\(A=0∨1<=lo)/\0<=lo/\lo+S.Az l<=1000/\S.Ad l<=200000:=by exact kn),Ok trees N ⟨[ln,x,sub,v,pl,fl,J,lo],[B],[L,z,P,q,R],[C]⟩ fun M=>(∃(j:Int),M=(0,(⟨[0,j],[],[],[]⟩:Aj))/\(lo=j))
def AmU (B N:Nat):Prop:=∀{m:Nat} (aj:P7 B m) {Γ:Ctx} {O pu:Int} {Γ1:Ctx} {C ya:List E} {v el:List S} (k o:Int) (t b:Int) (xk xo:Int) (Z xw:Int) (xl yk:Int) (M Q:Int) (L U:Int) (j q:Int) (aa sub:Int) (V pl:Int) (fl bl lo:Int) (nm H:List Nat) (J ah:List Nat) (X Y:Rs) (z A:Rs) (Ar P:Rs) (I R:Rs) (mp:Mp) (hC:Ck Γ V fl Ar I mp) (hS:Fc O pu Γ (.node k o t b nm (.node xk xo Z xw H C) (.node yk M Q L J ya) v el) Γ1) (hX:X=E.Ab C) (hY:Y=E.Ab ya) (hB:z=S.Ab v) (hE:A=S.Ab el) (h:xl=X.length/\U=Y.length/\j=z.length/\q=A.length/\(O=0∨1<=lo)/\0<=lo/\lo+max (S.Az v) (S.Az el)<=1000/\S.Ad v<=200000/\S.Ad el<=200000/\S.Az v<m/\S.Az el<m/\j<=200000/\q<=200000/\k=5:=by exact kn),Ok trees N ⟨[k,o,t,b,xk,xo,Z,xw,xl,yk,M,Q,L,U,j,q,aa,sub,V,pl,fl,bl,lo],[nm,H,J,ah],[X,Y,z,A,Ar,P,I,R],[mp]⟩ fun zz=>(∃(x:Int),zz=(0,(⟨[0,x],[],[],[]⟩:Aj))/\(lo=x))
theorem AlN:AmU 113 119:=by
 intro m j Γ lp pu Γ1 L ya bo el k o t b xk xo xt xw xl yk yo yt yw yl A H q sub C pl fl z lo nm M yn v X Y Bo El I P B R J x hS O V hB Z h
 subst O;subst V;subst hB;subst Z;obtain ⟨_,_,_,_,_,hx,_,rfl,Γa,Γb,aj,ak⟩:=hS.kif om
 refine .of (t:=Z5) rfl ?_
 conv=>arg 3;reduce
 obtain ⟨_,rfl,G1⟩:=Py x xk xo xt xw xl 3 q sub pl z lo M v (E.Ab L) P R asm rfl
 refine ch G1 ?_
 refine Bw 0 0 ?_
 obtain ⟨_,⟨Q,rfl,rfl⟩,G2⟩:=j A q sub C pl fl z lo v (S.Ab bo) I P B R J x asm rfl kn
 refine ch G2 ?_
 refine Bw 0 0 ?_
 obtain ⟨_,⟨N,rfl,rfl⟩,U⟩:=j H q sub C pl fl z lo v (S.Ab el) I P B R J x asm rfl kn
 refine ch U ?_
 first|exact Ah ⟨[0,lo],[],[],[]⟩ (⟨_,rfl,kn⟩) |(exfalso;omega)
def AmT (B N:Nat):Prop:=∀{m:Nat} (aj:P7 B m) {Γ:Ctx} {O pu:Int} {Γ1:Ctx} {C ya:List E} {j el:List S} (k o:Int) (t b:Int) (xk xo:Int) (Z xw:Int) (xl yk:Int) (M Q:Int) (L U:Int) (q v:Int) (aa sub:Int) (V pl:Int) (fl bl lo:Int) (nm H:List Nat) (J ah:List Nat) (X Y:Rs) (z A:Rs) (Ar P:Rs) (I R:Rs) (mp:Mp) (hC:Ck Γ V fl Ar I mp) (hS:Fc O pu Γ (.node k o t b nm (.node xk xo Z xw H C) (.node yk M Q L J ya) j el) Γ1) (hX:X=E.Ab C) (hY:Y=E.Ab ya) (hB:z=S.Ab j) (hE:A=S.Ab el) (h:xl=X.length/\U=Y.length/\q=z.length/\v=A.length/\(O=0∨1<=lo)/\0<=lo/\lo+1+S.Az j<=1000/\S.Az j<m/\q<=200000/\S.Ad j<=200000/\S.Ad j<=200000/\k=6:=by exact kn),Ok trees N ⟨[k,o,t,b,xk,xo,Z,xw,xl,yk,M,Q,L,U,q,v,aa,sub,V,pl,fl,bl,lo],[nm,H,J,ah],[X,Y,z,A,Ar,P,I,R],[mp]⟩ fun zz=>(∃(x:Int),zz=(0,(⟨[0,x],[],[],[]⟩:Aj))/\(lo=x))
theorem AlM:AmT 113 120:=by
 intro m j Γ lp pu Γ1 I ya Z el k o t b xk xo V xw xl yk yo yt yw yl x aj q sub U pl fl A lo nm J yn v X Y Bo El Ar P L R mp z hS M O hB Q h
 subst M;subst O;subst hB;subst Q;obtain ⟨_,_,_,_,_,hx,_,b1,b2,rfl,Γa,ai⟩:=hS.Ak6 om
 refine .of (t:=Z4) rfl ?_
 conv=>arg 3;reduce
 obtain ⟨_,rfl,G1⟩:=Py z xk xo V xw xl 3 q sub pl A lo J v (E.Ab I) P R asm rfl
 refine ch G1 ?_
 refine BJ 0 0 ?_
 refine lt b 1 (fun C=>?_) fun C=>?_
 ·first|exact Ah ⟨[1,lo],[],[],[]⟩ (⟨_,rfl,kn⟩) |(exfalso;omega)
 refine gt b 1024 (fun H=>?_) fun H=>?_
 ·first|exact Ah ⟨[1,lo],[],[],[]⟩ (⟨_,rfl,kn⟩) |(exfalso;omega)
 obtain ⟨_,⟨B,rfl,rfl⟩,N⟩:=j x q sub U pl fl A (lo+1) v (S.Ab Z) Ar P L R mp z asm rfl kn
 refine ch N ?_
 first|exact Ah ⟨[0,((lo+1)-1)],[],[],[]⟩ (⟨_,rfl,kn⟩) |(exfalso;omega)
def An1 (O N:Nat) (m n:Nat):Prop:=∀{Γ:Ctx} {H M:Int} {C:Ctx} {l:List S} (ln len:Int) (j B:Int) (sub z:Int) (pl fl:Int) (Q lo:Int) (I:List Nat) (L A:Rs) (P x R:Rs) (J:Mp) (X:Ck Γ z fl A x J) (Y:EK H M Γ (l.drop j.toNat) C) (V:L=S.Ab l) (h:ln=L.length/\ln<=200000/\len=ln/\0<=j/\(H=0∨1<=lo)/\0<=lo/\lo+S.Az (l.drop j.toNat)<=1000/\S.Az (l.drop j.toNat)<=m/\S.Ad (l.drop j.toNat)<=200000/\(len-j).toNat<n),Ok trees N ⟨[ln,len,j,B,sub,z,pl,fl,Q,lo],[I],[L,A,P,x,R],[J]⟩ fun U=>(∃(v:Int),∃(q:Mp),U=(1,(⟨[v],[],[],[q]⟩:Aj))/\(Ck C z fl A x q)/\(lo=v))
def AmX (A N:Nat):Prop:=∀{m:Nat} (O:P7 A m) {Γ:Ctx} {I Q:Int} {H:Ctx} {l:List S} (ln len:Int) (j C:Int) (sub z:Int) (pl fl:Int) (U lo:Int) (J:List Nat) (L B:Rs) (P x R:Rs) (M:Mp) (Y:Ck Γ z fl B x M) (Z:EK I Q Γ (l.drop j.toNat) H) (X:L=S.Ab l) (h:ln=L.length/\ln<=200000/\len=ln/\0<=j/\(I=0∨1<=lo)/\0<=lo/\lo+S.Az (l.drop j.toNat)<=1000/\S.Az (l.drop j.toNat)<=m/\S.Ad (l.drop j.toNat)<=200000:=by exact kn),Ok trees N ⟨[ln,len,j,C,sub,z,pl,fl,U,lo],[J],[L,B,P,x,R],[M]⟩ fun V=>(∃(v:Int),∃(q:Mp),V=(1,(⟨[v],[],[],[q]⟩:Aj))/\(Ck H z fl B x q)/\(lo=v))
theorem AiX {m:Nat} (ak:P7 113 m) (n:Nat):An1 113 116 m n:=by
 induction n with
 |zero=>intro Γ lp pu Γe l ln len j H sub O pl fl N lo C L Q P M R U B J aE h;exact absurd h.2.2.2.2.2.2.2.2.2 (Nat.not_lt_zero _)
 |succ n ih=>
 intro Γ lp pu Γe l ln len j H sub O pl fl N lo C L Q P M R U B J aE h
 subst aE
 refine .of (t:=Z8) rfl ?_
 conv=>arg 3;reduce
 refine lt j len (fun t1=>?_) fun t1=>?_
 ·refine Dv j 0 ?_
  refine CF j ln ?_
  obtain ⟨I,ah,aj,ai,ac,Y,af,Z,V,ad,z,X,ag,ab,aa,ae,A,x,v,bt,aI,q,bz,bF,bL⟩:=EK.get j J om om
  refine el aI ?_
  have bJ:=q.Aen;have a6:=S.len x;have ba:=S.len v;have bc:=S.A7 x;have bk:=S.A7 v
  refine eq I 1 (fun t3=>?_) fun t3=>?_
  ·obtain ⟨_,⟨aJ,rfl,aH⟩,G4⟩:=AlP I ah aj ai Y af Z V ((E.Ab z).length:Int) X ag ab aa ((E.Ab A).length:Int) ((S.Ab x).length:Int) ((S.Ab v).length:Int) H sub O pl fl N lo ac ad ae C (E.Ab z) (E.Ab A) (S.Ab x) (S.Ab v) Q P M R U B q rfl rfl rfl rfl
   refine ch G4 ?_
   refine BJ 0 0 ?_
   obtain ⟨_,⟨bH,aL,rfl,bC,rfl⟩,G5⟩:=ih ln len (j+1) H sub O pl fl N lo C (S.Ab l) Q P M R aJ aH asm rfl kn
   refine cm G5 ?_
   refine ch G5 ?_
   exact Ah ⟨[lo],[],[],[aL]⟩ (⟨_,_,rfl,(by first|assumption|(obtain ⟨_,_,e⟩:=Bf (l:=l) (j:=j) om;rw [e]at J;cases J;exact B)),kn⟩)
  refine eq I 2 (fun t6=>?_) fun t6=>?_
  ·obtain ⟨_,rfl,G7⟩:=AlO I ah aj ai Y af Z V ((E.Ab z).length:Int) X ag ab aa ((E.Ab A).length:Int) ((S.Ab x).length:Int) ((S.Ab v).length:Int) H sub O pl fl N lo ac ad ae C (E.Ab z) (E.Ab A) (S.Ab x) (S.Ab v) Q P M R U B q rfl rfl rfl rfl
   refine ch G7 ?_
   refine BJ 0 0 ?_
   obtain ⟨_,⟨bI,aK,rfl,bA,rfl⟩,G8⟩:=ih ln len (j+1) H sub O pl fl N lo C (S.Ab l) Q P M R U (B.keep q om) asm rfl kn
   refine cm G8 ?_
   refine ch G8 ?_
   exact Ah ⟨[lo],[],[],[aK]⟩ (⟨_,_,rfl,(by first|assumption|(obtain ⟨_,_,e⟩:=Bf (l:=l) (j:=j) om;rw [e]at J;cases J;exact B)),kn⟩)
  refine eq I 5 (fun t9=>?_) fun t9=>?_
  ·obtain ⟨_,⟨br,rfl,rfl⟩,aX⟩:=AlN @ak I ah aj ai Y af Z V ((E.Ab z).length:Int) X ag ab aa ((E.Ab A).length:Int) ((S.Ab x).length:Int) ((S.Ab v).length:Int) H sub O pl fl N lo ac ad ae C (E.Ab z) (E.Ab A) (S.Ab x) (S.Ab v) Q P M R U B q rfl rfl rfl rfl
   refine ch aX ?_
   refine BJ 0 0 ?_
   obtain ⟨_,⟨bp,ap,rfl,bh,rfl⟩,aC⟩:=ih ln len (j+1) H sub O pl fl N lo C (S.Ab l) Q P M R U (B.keep q om) asm rfl kn
   refine cm aC ?_
   refine ch aC ?_
   exact Ah ⟨[lo],[],[],[ap]⟩ (⟨_,_,rfl,(by first|assumption|(obtain ⟨_,_,e⟩:=Bf (l:=l) (j:=j) om;rw [e]at J;cases J;exact B)),kn⟩)
  refine eq I 6 (fun aR=>?_) fun aR=>?_
  ·obtain ⟨_,⟨a4,rfl,rfl⟩,a0⟩:=AlM @ak I ah aj ai Y af Z V ((E.Ab z).length:Int) X ag ab aa ((E.Ab A).length:Int) ((S.Ab x).length:Int) ((S.Ab v).length:Int) H sub O pl fl N lo ac ad ae C (E.Ab z) (E.Ab A) (S.Ab x) (S.Ab v) Q P M R U B q rfl rfl rfl rfl
   refine ch a0 ?_
   refine BJ 0 0 ?_
   obtain ⟨_,⟨bb,aq,rfl,bm,rfl⟩,aG⟩:=ih ln len (j+1) H sub O pl fl N lo C (S.Ab l) Q P M R U (B.keep q om) asm rfl kn
   refine cm aG ?_
   refine ch aG ?_
   exact Ah ⟨[lo],[],[],[aq]⟩ (⟨_,_,rfl,(by first|assumption|(obtain ⟨_,_,e⟩:=Bf (l:=l) (j:=j) om;rw [e]at J;cases J;exact B)),kn⟩)
  refine eq I 7 (fun aN=>?_) fun aN=>?_
  ·refine eq lo 0 (fun aM=>?_) fun aM=>?_
   ·exact dead
   obtain ⟨_,⟨be,ax,rfl,a8,rfl⟩,aB⟩:=ih ln len (j+1) H sub O pl fl N lo C (S.Ab l) Q P M R U (B.keep q om) asm rfl kn
   refine cm aB ?_
   refine ch aB ?_
   exact Ah ⟨[lo],[],[],[ax]⟩ (⟨_,_,rfl,(by first|assumption|(obtain ⟨_,_,e⟩:=Bf (l:=l) (j:=j) om;rw [e]at J;cases J;exact B)),kn⟩)
  refine eq I 8 (fun a2=>?_) fun a2=>?_
  ·refine eq lo 0 (fun aO=>?_) fun aO=>?_
   ·exact dead
   obtain ⟨_,⟨bg,av,rfl,a3,rfl⟩,aA⟩:=ih ln len (j+1) H sub O pl fl N lo C (S.Ab l) Q P M R U (B.keep q om) asm rfl kn
   refine cm aA ?_
   refine ch aA ?_
   exact Ah ⟨[lo],[],[],[av]⟩ (⟨_,_,rfl,(by first|assumption|(obtain ⟨_,_,e⟩:=Bf (l:=l) (j:=j) om;rw [e]at J;cases J;exact B)),kn⟩)
  refine eq I 3 (fun aZ=>?_) fun aZ=>?_
  ·obtain ⟨_,rfl,a1⟩:=AlL I ah aj ai Y af Z V ((E.Ab z).length:Int) X ag ab aa ((E.Ab A).length:Int) ((S.Ab x).length:Int) ((S.Ab v).length:Int) H sub O pl fl N lo ac ad ae C (E.Ab z) (E.Ab A) (S.Ab x) (S.Ab v) Q P M R U B q rfl rfl rfl rfl
   refine ch a1 ?_
   refine BJ 0 0 ?_
   obtain ⟨_,⟨a7,aw,rfl,a9,rfl⟩,ay⟩:=ih ln len (j+1) H sub O pl fl N lo C (S.Ab l) Q P M R U (B.keep q om) asm rfl kn
   refine cm ay ?_
   refine ch ay ?_
   exact Ah ⟨[lo],[],[],[aw]⟩ (⟨_,_,rfl,(by first|assumption|(obtain ⟨_,_,e⟩:=Bf (l:=l) (j:=j) om;rw [e]at J;cases J;exact B)),kn⟩)
  refine eq I 4 (fun aQ=>?_) fun aQ=>?_
  ·obtain ⟨_,rfl,aU⟩:=AlK I ah aj ai Y af Z V ((E.Ab z).length:Int) X ag ab aa ((E.Ab A).length:Int) ((S.Ab x).length:Int) ((S.Ab v).length:Int) H sub O pl fl N lo ac ad ae C (E.Ab z) (E.Ab A) (S.Ab x) (S.Ab v) Q P M R U B q rfl rfl rfl rfl
   refine ch aU ?_
   refine BJ 0 0 ?_
   obtain ⟨_,⟨a5,an,rfl,bo,rfl⟩,aF⟩:=ih ln len (j+1) H sub O pl fl N lo C (S.Ab l) Q P M R U (B.keep q om) asm rfl kn
   refine cm aF ?_
   refine ch aF ?_
   exact Ah ⟨[lo],[],[],[an]⟩ (⟨_,_,rfl,(by first|assumption|(obtain ⟨_,_,e⟩:=Bf (l:=l) (j:=j) om;rw [e]at J;cases J;exact B)),kn⟩)
  refine eq I 12 (fun aW=>?_) fun aW=>?_
  ·obtain ⟨_,rfl,aY⟩:=AlJ I ah aj ai Y af Z V ((E.Ab z).length:Int) X ag ab aa ((E.Ab A).length:Int) ((S.Ab x).length:Int) ((S.Ab v).length:Int) H sub O pl fl N lo ac ad ae C (E.Ab z) (E.Ab A) (S.Ab x) (S.Ab v) Q P M R U B q rfl rfl rfl rfl
   refine ch aY ?_
   refine BJ 0 0 ?_
   obtain ⟨_,⟨bi,au,rfl,bf,rfl⟩,az⟩:=ih ln len (j+1) H sub O pl fl N lo C (S.Ab l) Q P M R U (B.keep q om) asm rfl kn
   refine cm az ?_
   refine ch az ?_
   exact Ah ⟨[lo],[],[],[au]⟩ (⟨_,_,rfl,(by first|assumption|(obtain ⟨_,_,e⟩:=Bf (l:=l) (j:=j) om;rw [e]at J;cases J;exact B)),kn⟩)
  obtain ⟨_,⟨bj,ao,rfl,bn,rfl⟩,aD⟩:=ih ln len (j+1) H sub O pl fl N lo C (S.Ab l) Q P M R U (B.keep q om) asm rfl kn
  refine cm aD ?_
  refine ch aD ?_
  exact Ah ⟨[lo],[],[],[ao]⟩ (⟨_,_,rfl,(by first|assumption|(obtain ⟨_,_,e⟩:=Bf (l:=l) (j:=j) om;rw [e]at J;cases J;exact B)),kn⟩)
 exact Ah ⟨[lo],[],[],[U]⟩ (⟨_,_,rfl,(by first|assumption|(obtain ⟨_,_,e⟩:=Bf (l:=l) (j:=j) om;rw [e]at J;cases J;exact B)),kn⟩)
theorem AlQ:AmX 113 116:=fun {m} hC113 {Γ} {lp} {pu} {Γe} {l} ln len j grp sub al pl fl bl lo knm L Ar P Fs R mp hC hO hLs h=>AiX @hC113 ((len-j).toNat+1) ln len j grp sub al pl fl bl lo knm L Ar P Fs R mp hC hO hLs ⟨h.1,h.2.1,h.2.2.1,h.2.2.2.1,h.2.2.2.2.1,h.2.2.2.2.2.1,h.2.2.2.2.2.2.1,h.2.2.2.2.2.2.2.1,h.2.2.2.2.2.2.2.2,Nat.lt_succ_self _⟩
def AmY (z N:Nat):Prop:=∀{m:Nat} (M:P7 z m) {Γ:Ctx} {H O:Int} {C:Ctx} {l:List S} (ln B:Int) (sub x:Int) (pl fl:Int) (Q lo:Int) (I:List Nat) (L A:Rs) (P v R:Rs) (J:Mp) (X:Ck Γ x fl A v J) (Y:EK H O Γ l C) (V:L=S.Ab l) (h:ln=L.length/\ln<=200000/\(H=0∨1<=lo)/\0<=lo/\lo+S.Az l<=1000/\S.Ad l<=200000/\S.Az l<=m:=by exact kn),Ok trees N ⟨[ln,B,sub,x,pl,fl,Q,lo],[I],[L,A,P,v,R],[J]⟩ fun U=>(∃(q:Int),∃(j:Mp),U=(0,(⟨[0,q],[],[],[j]⟩:Aj))/\(Ck C x fl A v j)/\(lo=q))
theorem AlR:AmY 113 115:=by
 intro m j Γ U X Y l ln x sub N pl fl I lo A L O P B R Q C M v h
 subst v;have Z:S.Az (l.drop (0:Int).toNat)=S.Az l:=rfl;have V:S.Ad (l.drop (0:Int).toNat)=S.Ad l:=rfl
 refine .of (t:=Z9) rfl ?_
 conv=>arg 3;reduce
 obtain ⟨_,⟨H,q,rfl,J,rfl⟩,z⟩:=AlQ @j ln ln 0 x sub N pl fl I lo A (S.Ab l) O P B R Q C M rfl
 refine cm z ?_
 refine ch z ?_
 exact Ah ⟨[0,lo],[],[],[q]⟩ (⟨_,_,rfl,asm,kn⟩)
theorem AiZ (n:Nat):P7 113 n:=by
 induction n with
 |zero=>intro Γ M Q U l ln q sub C pl fl A lo v L H P x R I z B j h;exact absurd h.2.2.2.2.2.2 (Nat.not_lt_zero _)
 |succ n ih=>
 intro Γ M Q U l ln q sub C pl fl A lo v L H P x R I z B j h
 refine .of (t:=ZB) rfl ?_
 conv=>arg 3;reduce
 obtain ⟨_,⟨J,O,rfl,N,rfl⟩,V⟩:=AlR @ih ln q sub C pl fl A lo v L H P x R I z B j
 refine ch V ?_
 exact Ah ⟨[0,lo],[],[],[]⟩ (⟨_,rfl,kn⟩)
theorem AlT:Ana 113:=fun {Γ} {lp} {pu} {Γe} {l} ln grp sub al pl fl bl lo knm L Ar P Fs R mp hC hO hLs h=>AiZ (S.Az l+1) ln grp sub al pl fl bl lo knm L Ar P Fs R mp hC hO hLs ⟨h.1,h.2.1,h.2.2.1,h.2.2.2.1,h.2.2.2.2.1,h.2.2.2.2.2,Nat.lt_succ_self _⟩
end
end Go.Proofs.YtaolbokoijfhnaaGreatDoor.Am
