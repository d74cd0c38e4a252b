/- Part 20 of MeaningCalls. -/
import Derived.Test.YtaolbokoijfhnaaGreatDoorJ16
import Derived.Test.YtaolbokoijfhnaaGreatDoorJ18
set_option linter.all false
namespace Go.Proofs.YtaolbokoijfhnaaGreatDoor.Am
section
set_option maxHeartbeats 4000000
set_option maxRecDepth 100000
open Go.AM Go.AM.K
abbrev Anw:=@AeI
abbrev Am9:=@Ae9
theorem AiP {Γ:Ctx} {al fl:Int} {Ar O:Rs} {mp:Mp} (hC:Ck Γ al fl Ar O mp) (n:Nat):Anw 148 Γ al fl Ar O mp n:=by
 induction n with
 |zero=>intro J ln len j B sub pl V lo C v q M Q N Y rl z x H T FP P R A FB RA X Z h;exact absurd h.2.2.2.2.2 (Nat.not_lt_zero _)
 |succ n ih=>
 intro J ln len j B sub pl V lo C v q M Q N Y rl z x H T FP P R A FB RA X Z h
 subst X;obtain ⟨gm,gn,rfl⟩:=Z
 refine .of (t:=Zh) rfl ?_
 conv=>arg 3;reduce
 refine lt j len (fun t1=>?_) fun t1=>?_
 ·refine Dv j 0 ?_
  refine CF j ln ?_
  obtain ⟨ak,L⟩:=WM j om om
  refine el L ?_
  refine CF j J ?_
  have I:=SD j om om
  refine el I ?_
  refine BJ 1 1 ?_
  obtain ⟨_,rfl,U⟩:=ih J ln len (j+1) B sub pl V lo C v q M Q N Y rl z x H ([1,1].map By) (WN gm gn) P R A FB RA rfl (⟨_,_,rfl⟩) kn
  refine cm U ?_
  refine ch U ?_
  exact Ah v0 (rfl)
 exact Ah v0 (rfl)
theorem Al3:Am9 148:=fun {Γ} {al} {fl} {Ar} {Fs} {mp} hC tl ln len j grp sub pl bl lo fpl fty fbl rk ro ry rv rl knm fnm rnm T FP P R FP2 FB RA hT hF h=>AiP hC ((2-j).toNat+1) tl ln len j grp sub pl bl lo fpl fty fbl rk ro ry rv rl knm fnm rnm T FP P R FP2 FB RA hT hF ⟨h.1,h.2.1,h.2.2.1,h.2.2.2.1,h.2.2.2.2,Nat.lt_succ_self _⟩
abbrev AmB:=@AeB
theorem Al5:AmB 146:=by
 intro Γ al fl Ar X mp C V U j J H M L O Y x sub pl I lo v B A q Q N T P R Z hF h
 obtain ⟨rfl,rfl,rfl⟩:=h
 refine .of (t:=Zj) rfl ?_
 conv=>arg 3;reduce
 refine BJ 2 2 ?_
 obtain ⟨_,rfl,z⟩:=Al3 C 2 2 2 0 x sub pl I lo 2 1 j J H M L O A v B T q P R q Q N asm asm
 refine cm z ?_
 refine ch z ?_
 exact Ah ⟨[1,0],[],[],[]⟩ (rfl)
abbrev AeH:=@P6
abbrev AmF:=@AeF
abbrev Anx:=@AeJ
abbrev AmA:=@AeA
theorem AiQ {Γ:Ctx} {O fl:Int} {U J:Rs} {V:Mp} (hC:Ck Γ O fl U J V) {m:Nat} (B:AeH 141 Γ O fl U J V m) (n:Nat):Anx 141 147 Γ O fl U J V m n:=by
 induction n with
 |zero=>intro a ts X ln len j z sub pl M lo A L P R Q v H Z h;exact absurd h.2.2.2.2.2.2.2.2.2 (Nat.not_lt_zero _)
 |succ n ih=>
 intro a ts X ln len j z sub pl M lo A L P R Q v H Z h
 subst H
 refine .of (t:=Zi) rfl ?_
 conv=>arg 3;reduce
 refine lt j len (fun t1=>?_) fun t1=>?_
 ·refine Dv j 0 ?_
  refine CF j ln ?_
  obtain ⟨ac,Y,ad,ab,aa,I,C,N,ai,ao,ah⟩:=v.get j om om
  refine el N ?_
  obtain ⟨_,rfl,G3⟩:=B C ac Y ad ab ((E.Ab I).length:Int) z sub pl M lo aa A (E.Ab I) P R asm rfl kn
  refine ch G3 ?_
  refine BJ 0 0 ?_
  refine dL (Q++[[PV.int .i64 C]]) (fun x e4=>?_) (Bq (pw X Q) pe)
  have f4:=cL e4;try simp only [lA,lC,lN,lT']at f4
  refine E6 (x.length:Int) 1048576 ?_
  obtain ⟨_,(⟨rfl,ag⟩|⟨af,ae,rfl,rfl,rfl⟩),q⟩:=ih ts (x.length:Int) ln len (j+1) z sub pl M lo A (E.Ab a) P R x v rfl (by subst_vars;exact HQ asm om) kn
  ·refine cm q ?_
   refine cm q ?_
   refine ch q ?_
   exact Ah ⟨[(x.length:Int)],[],[x],[]⟩ (.inr ((⟨_,_,rfl,(by first|rfl|assumption|(subst_vars;assumption)),(by first|rfl|(have e:=‹_=ts.map By›;rw [e];exact Ts.CM))⟩)))
  refine cm q ?_
  refine cm q ?_
  refine cm q ?_
  refine ch q ?_
  exact Ah ⟨[(ts.length:Int)],[],[(ts.map By)],[]⟩ (.inr ((⟨_,_,rfl,(by first|rfl|assumption|(subst_vars;assumption)),(by first|rfl|(have e:=‹_=ts.map By›;rw [e];exact Ts.CM))⟩)))
 exact Ah v0 (.inl (⟨rfl,(Z.trans (v.end om))⟩))
theorem Al4:AmA 141 147:=fun {m} {Γ} {al} {fl} {Ar} {Fs} {mp} hC hC141 {a} ts ql ln len j grp sub pl bl lo knm L P R Q hTs hLa hQ h=>AiQ hC @hC141 ((len-j).toNat+1) ts ql ln len j grp sub pl bl lo knm L P R Q hTs hLa hQ ⟨h.1,h.2.1,h.2.2.1,h.2.2.2.1,h.2.2.2.2.1,h.2.2.2.2.2.1,h.2.2.2.2.2.2.1,h.2.2.2.2.2.2.2.1,h.2.2.2.2.2.2.2.2,Nat.lt_succ_self _⟩
abbrev AmC:=@AeC
theorem Al6:AmC 141 144:=by
 intro m Γ al fl Ar Fs mp hC v a ts ln len j A sub pl O lo C L P R x Q h
 subst Q;obtain ⟨h1,h2,rfl,rfl,h5⟩:=h
 refine .of (t:=Zk) rfl ?_
 conv=>arg 3;reduce
 refine lt 0 len (fun t1=>?_) fun t1=>?_
 ·refine Dv 0 0 ?_
  refine CF 0 len ?_
  obtain ⟨V,M,X,U,N,B,z,H,ad,ah,ac⟩:=x.get 0 om om
  refine el H ?_
  obtain ⟨_,rfl,G3⟩:=v z V M X U ((E.Ab B).length:Int) A sub pl O lo N C (E.Ab B) P R asm rfl kn
  refine ch G3 ?_
  refine BJ 0 0 ?_
  refine dL [[.int .i64 z]] (fun J e4=>?_)
  have f4:=cL e4;try simp only [lA,lC,lN,lT']at f4
  refine ll 1 J ?_
  obtain ⟨_,(⟨rfl,aa⟩|⟨Z,Y,rfl,rfl,rfl⟩),q⟩:=Al4 hC @v ts 1 len len (0+1) A sub pl O lo C (E.Ab a) P R J x rfl (by subst_vars;exact (HQ (j:=0) asm om))
  ·refine cm q ?_
   refine cm q ?_
   refine ch q ?_
   exact Ah ⟨[1],[],[J],[]⟩ (.inr ((⟨_,_,rfl,(by first|rfl|(subst_vars;first|rfl|assumption)),(by first|rfl|(have e:=‹_=ts.map By›;have I:=Ts.CM (ts:=ts);rw [<-e]at I;omega) |(subst_vars;first|rfl|simp))⟩)))
  refine cm q ?_
  refine cm q ?_
  refine cm q ?_
  refine ch q ?_
  exact Ah ⟨[(ts.length:Int)],[],[(ts.map By)],[]⟩ (.inr ((⟨_,_,rfl,(by first|rfl|(subst_vars;first|rfl|assumption)),(by first|rfl|(have e:=‹_=ts.map By›;have I:=Ts.CM (ts:=ts);rw [<-e]at I;omega) |(subst_vars;first|rfl|simp))⟩)))
 exact Ah v0 (.inl (⟨rfl,(x.none om)⟩))
abbrev AmD:=@AeD
theorem Ls:AmD 141 143:=by
 intro m Γ Q fl U O V J j a ts ln z sub pl M lo B L P R A x h
 subst x;have N:=Ts.CM (ts:=ts)
 refine .of (t:=Zl) rfl ?_
 conv=>arg 3;reduce
 obtain ⟨_,(⟨rfl,H⟩|⟨C,I,rfl,rfl,rfl⟩),q⟩:=Al6 J @j ts ln ln 0 z sub pl M lo B (E.Ab a) P R A rfl
 ·refine ch q ?_
  refine de [] ?_
  refine ll 0 [] ?_
  exact Ah ⟨[0,0],[],[[]],[]⟩ (⟨_,_,rfl,(by first|rfl|(subst_vars;first|rfl|assumption)),(by first|rfl|(have e:=‹_=ts.map By›;have v:=Ts.CM (ts:=ts);rw [<-e]at v;omega) |(subst_vars;first|rfl|simp))⟩)
 refine cm q ?_
 refine cm q ?_
 refine ch q ?_
 refine ll (ts.length:Int) (ts.map By) ?_
 refine fr ?_
 exact Ah ⟨[(ts.length:Int),0],[],[(ts.map By)],[]⟩ (⟨_,_,rfl,(by first|rfl|(subst_vars;first|rfl|assumption)),(by first|rfl|(have e:=‹_=ts.map By›;have v:=Ts.CM (ts:=ts);rw [<-e]at v;omega) |(subst_vars;first|rfl|simp))⟩)
theorem AiR {Γ:Ctx} {al fl:Int} {Ar Fs:Rs} {mp:Mp} (L:Ck Γ al fl Ar Fs mp) (n:Nat):AeH 141 Γ al fl Ar Fs mp n:=by
 induction n with
 |zero=>intro a t k o ty v ln J sub pl X lo s I A P R hT hA h;exact absurd h.2 (Nat.not_lt_zero _)
 |succ n ih=>
 intro a t k o ty v ln J sub pl X lo s I A P R hT hA h
 subst hA;have e2:=Fu (k:=k) (o:=o) (ty:=ty) (v:=v) (s:=s) (a:=a);have M:ln=(a.length:Int):=by have:=h.1;rw [E.A7]at this;exact this
 rcases hT.inv with hv|hv|hv|hv|hv|hv|hv|hv
 ·obtain ⟨rfl,rfl,rfl,rfl,rfl,r1,r2,r3,r4,r5,r6⟩:=hv;simp only [lC,lN]at M;have Z:E.Ad []=0:=rfl
  refine .of (t:=Ir) rfl ?_
  conv=>arg 3;reduce
  obtain ⟨_,⟨bf,a0,rfl,rfl,rfl⟩,G1⟩:=Ls L @ih [] ln J sub pl X lo I (E.Ab []) P R (by exact .nil) rfl
  refine ch G1 ?_
  refine BJ 0 0 ?_
  refine Bw 1 1 ?_
  first|exact Ah ⟨[ty,0],[],[],[]⟩ (rfl) |(exfalso;omega)
 ·obtain ⟨rfl,rfl,rfl,rfl,rfl,rfl,r1,r2⟩:=hv;simp only [lC,lN]at M;have Z:E.Ad []=0:=rfl
  refine .of (t:=Ir) rfl ?_
  conv=>arg 3;reduce
  obtain ⟨_,⟨aP,bc,rfl,rfl,rfl⟩,G2⟩:=Ls L @ih [] ln J sub pl X lo I (E.Ab []) P R (by exact .nil) rfl
  refine ch G2 ?_
  refine BJ 0 0 ?_
  refine AB 3 1 ?_
  refine Bw 3 3 ?_
  first|exact Ah ⟨[1,0],[],[],[]⟩ (rfl) |(exfalso;omega)
 ·obtain ⟨rfl,rfl,rfl,rfl,rfl,hs,kk,ii,hk,r1,r2,hg⟩:=hv;simp only [lC,lN]at M;have Z:E.Ad []=0:=rfl
  refine .of (t:=Ir) rfl ?_
  conv=>arg 3;reduce
  obtain ⟨_,⟨a1,a3,rfl,rfl,rfl⟩,G3⟩:=Ls L @ih [] ln J sub pl X lo I (E.Ab []) P R (by exact .nil) rfl
  refine ch G3 ?_
  refine BJ 0 0 ?_
  refine AB 2 1 ?_
  refine AB 2 3 ?_
  refine AB 2 4 ?_
  refine AB 2 5 ?_
  refine AB 2 6 ?_
  refine Bw 2 2 ?_
  refine lh (L.look hg) ?_
  refine eq kk 2 (fun t4=>?_) fun t4=>?_
  ·first|exact Ah ⟨[t,0],[],[],[]⟩ (rfl) |(exfalso;omega)
  refine eq kk 3 (fun t5=>?_) fun t5=>?_
  ·first|exact Ah ⟨[t,0],[],[],[]⟩ (rfl) |(exfalso;omega)
  first|exact Ah ⟨[0,30],[],[],[]⟩ (rfl) |(exfalso;omega)
 ·obtain ⟨rfl,rfl,rfl,rfl,B,H,j,v1,q,C,w,rfl,hu,Y⟩:=hv;simp only [lC,lN]at M;have Z:=n1 (x:=.node B H j v1 q C);have e4:=g1 (x:=.node B H j v1 q C);have hr:=hu.X2
  refine .of (t:=Ir) rfl ?_
  conv=>arg 3;reduce
  obtain ⟨_,⟨aX,a7,rfl,rfl,rfl⟩,G6⟩:=Ls L @ih [w] ln J sub pl X lo I (E.Ab [.node B H j v1 q C]) P R (by exact .cons Y .nil) rfl
  refine ch G6 ?_
  refine BJ 0 0 ?_
  refine AB 4 1 ?_
  refine AB 4 3 ?_
  refine Bw 4 4 ?_
  refine CF 0 ([w].length:Int) ?_
  refine el (j':=0) rfl ?_
  obtain ⟨_,rfl,G7⟩:=Xd t o w hu
  refine ch G7 ?_
  first|exact Ah ⟨[t,0],[],[],[]⟩ (rfl) |(exfalso;omega)
 ·obtain ⟨rfl,rfl,rfl,rfl,B,H,j,v1,q,C,O,V,Q,N,U,b2,w,rfl,hu,Y,h2⟩:=hv;simp only [lC,lN]at M;have Z:=n2 (x:=.node B H j v1 q C) (y:=.node O V Q N U b2);have e4:=g2 (x:=.node B H j v1 q C) (y:=.node O V Q N U b2);have hr:=hu.X2
  refine .of (t:=Ir) rfl ?_
  conv=>arg 3;reduce
  obtain ⟨_,⟨a8,a5,rfl,rfl,rfl⟩,G8⟩:=Ls L @ih [w,w] ln J sub pl X lo I (E.Ab [.node B H j v1 q C,.node O V Q N U b2]) P R (by exact .cons Y (.cons h2 .nil)) rfl
  refine ch G8 ?_
  refine BJ 0 0 ?_
  refine AB 5 1 ?_
  refine AB 5 3 ?_
  refine AB 5 4 ?_
  refine Bw 5 5 ?_
  refine CF 0 ([w,w].length:Int) ?_
  refine el (j':=0) rfl ?_
  refine CF 1 ([w,w].length:Int) ?_
  refine el (j':=1) rfl ?_
  obtain ⟨_,rfl,G9⟩:=Px t o w w hu rfl
  refine ch G9 ?_
  first|exact Ah ⟨[t,0],[],[],[]⟩ (rfl) |(exfalso;omega)
 ·obtain ⟨rfl,rfl,rfl,rfl,rfl,B,H,j,v1,q,C,O,V,Q,N,U,b2,k3,o3,t3,v3,s3,b3,rfl,Y,h2,h3⟩:=hv;simp only [lC,lN]at M;have Z:=n3 (x:=.node B H j v1 q C) (y:=.node O V Q N U b2) (z:=.node k3 o3 t3 v3 s3 b3);have e4:=g3 (x:=.node B H j v1 q C) (y:=.node O V Q N U b2) (z:=.node k3 o3 t3 v3 s3 b3)
  refine .of (t:=Ir) rfl ?_
  conv=>arg 3;reduce
  obtain ⟨_,⟨aN,aJ,rfl,rfl,rfl⟩,aA⟩:=Ls L @ih [3,t,t] ln J sub pl X lo I (E.Ab [.node B H j v1 q C,.node O V Q N U b2,.node k3 o3 t3 v3 s3 b3]) P R (by exact .cons Y (.cons h2 (.cons h3 .nil))) rfl
  refine ch aA ?_
  refine BJ 0 0 ?_
  refine AB 6 1 ?_
  refine AB 6 3 ?_
  refine AB 6 4 ?_
  refine AB 6 5 ?_
  refine Bw 6 6 ?_
  refine CF 0 ([3,t,t].length:Int) ?_
  refine el (j':=0) rfl ?_
  refine BJ 3 3 ?_
  refine CF 1 ([3,t,t].length:Int) ?_
  refine el (j':=1) rfl ?_
  refine CF 2 ([3,t,t].length:Int) ?_
  refine el (j':=2) rfl ?_
  refine BJ t t ?_
  first|exact Ah ⟨[t,0],[],[],[]⟩ (rfl) |(exfalso;omega)
 ·obtain ⟨rfl,rfl,rfl,rfl,hs,B,H,j,v1,q,C,ii,rfl,r1,r2,hg,Y⟩:=hv;simp only [lC,lN]at M;have Z:=n1 (x:=.node B H j v1 q C);have e4:=g1 (x:=.node B H j v1 q C)
  refine .of (t:=Ir) rfl ?_
  conv=>arg 3;reduce
  obtain ⟨_,⟨aK,aL,rfl,rfl,rfl⟩,ay⟩:=Ls L @ih [1] ln J sub pl X lo I (E.Ab [.node B H j v1 q C]) P R (by exact .cons Y .nil) rfl
  refine ch ay ?_
  refine BJ 0 0 ?_
  refine AB 7 1 ?_
  refine AB 7 3 ?_
  refine AB 7 4 ?_
  refine AB 7 5 ?_
  refine AB 7 6 ?_
  refine AB 7 2 ?_
  refine Bw 7 7 ?_
  refine lh (L.look hg) ?_
  refine Bw 0 0 ?_
  refine CF 0 ([1].length:Int) ?_
  refine el (j':=0) rfl ?_
  refine BJ 1 1 ?_
  first|exact Ah ⟨[t,0],[],[],[]⟩ (rfl) |(exfalso;omega)
 ·obtain ⟨rfl,rfl,rfl,rfl,rfl,B,H,j,v1,q,C,O,V,Q,N,U,b2,ii,rfl,rfl,hg,Y,h2⟩:=hv;simp only [lC,lN]at M;have Z:=n2 (x:=.node B H j v1 q C) (y:=.node O V Q N U b2);have e4:=g2 (x:=.node B H j v1 q C) (y:=.node O V Q N U b2);obtain ⟨bg,bh,gm,gn,F_,kf,av,yf,wf,sf,Af,ak⟩:=L.fn _ hg;have bi:((WN gm gn).length:Int)=2:=rfl
  refine .of (t:=Ir) rfl ?_
  conv=>arg 3;reduce
  obtain ⟨_,⟨aI,aM,rfl,rfl,rfl⟩,aE⟩:=Ls L @ih [1,1] ln J sub pl X lo I (E.Ab [.node B H j v1 q C,.node O V Q N U b2]) P R (by exact .cons Y (.cons h2 .nil)) rfl
  refine ch aE ?_
  refine BJ 0 0 ?_
  refine AB 8 1 ?_
  refine AB 8 3 ?_
  refine AB 8 4 ?_
  refine AB 8 5 ?_
  refine AB 8 6 ?_
  refine AB 8 2 ?_
  refine AB 8 7 ?_
  refine Bw 8 8 ?_
  refine lh (L.look hg) ?_
  refine Bw 1 1 ?_
  refine Dv ii 0 ?_
  refine CF ii fl ?_
  refine el ak ?_
  obtain ⟨_,rfl,aC⟩:=Al5 L ((WN gm gn).length:Int) 1 (F_.length:Int) kf av yf wf (Af.length:Int) ([1,1].length:Int) J sub pl X lo [104] sf I (WN gm gn) F_ Af ([1,1].map By) P R rfl (⟨_,_,rfl⟩)
  refine ch aC ?_
  first|exact Ah ⟨[1,0],[],[],[]⟩ (rfl) |(exfalso;omega)
theorem Ae4:AmF 141:=fun {Γ} {al} {fl} {Ar} {Fs} {mp} hC {a} t k o ty v ln grp sub pl bl lo s knm A P R hT hA h=>AiR hC ((E.node k o ty v s a).high+1) t k o ty v ln grp sub pl bl lo s knm A P R hT hA ⟨h,Nat.lt_succ_self _⟩
abbrev AmE:=@AeE
theorem Xc:AmE 142:=by
 intro Γ J fl L I M x a k o ty v ln t j sub pl z lo s q A P R B C h
 refine .of (t:=Zm) rfl ?_
 conv=>arg 3;reduce
 obtain ⟨_,rfl,H⟩:=Ae4 x t k o ty v ln j sub pl z lo s q A P R B C
 refine ch H ?_
 refine Bw 0 0 ?_
 refine BJ t t ?_
 exact Ah ⟨[0],[],[],[]⟩ (rfl)
def AmJ (N:Nat):Prop:=∀{Γ:Ctx} {lp pu:Int} {Γ1:Ctx} {H ya:List E} {Z el:List S} (k o:Int) (t b:Int) (xk xo:Int) (U xw:Int) (xl yk:Int) (M O:Int) (L Q:Int) (j v:Int) (V sub:Int) (B pl:Int) (fl bl lo:Int) (nm I:List Nat) (J af:List Nat) (X Y:Rs) (z A:Rs) (C P:Rs) (x R:Rs) (mp:Mp) (hC:Ck Γ B fl C x mp) (hS:Fc lp pu Γ (.node k o t b nm (.node xk xo U xw I H) (.node yk M O L J ya) Z el) Γ1) (hX:X=E.Ab H) (hY:Y=E.Ab ya) (hB:z=S.Ab Z) (hE:A=S.Ab el) (h:xl=X.length/\Q=Y.length/\j=z.length/\v=A.length/\k=1:=by exact kn),Ok trees N ⟨[k,o,t,b,xk,xo,U,xw,xl,yk,M,O,L,Q,j,v,V,sub,B,pl,fl,bl,lo],[nm,I,J,af],[X,Y,z,A,C,P,x,R],[mp]⟩ fun zz=>(∃(q:Mp),zz=(0,(⟨[0],[],[],[q]⟩:Aj))/\(Ck Γ1 B fl C x q))
theorem AlA:AmJ 137:=by
 intro Γ lp pu Γ1 z ya bo el k o t b L U J M N yk yo yt yw yl Z aa v sub al pl fl C lo nm A yn x X Y Bo El Ar P Fs R V j O B H hB I h
 subst B;subst H;subst hB;subst I;obtain ⟨_,_,_,_,_,hn,q,r1,r2,hx,_,rfl⟩:=O.Ak7 om
 refine .of (t:=Zq) rfl ?_
 conv=>arg 3;reduce
 obtain ⟨_,rfl,Q⟩:=Ae4 j t L U J M N v sub pl C lo A x (E.Ab z) P R asm rfl
 refine ch Q ?_
 refine BJ 0 0 ?_
 refine lm (j.Ak4 q) ?_
 refine up [.int .i64 3,.int .i64 t,.int .i64 0] ?_
 refine BJ t t ?_
 first|exact Ah ⟨[0],[],[],[(Bv V nm [.int .i64 3,.int .i64 t,.int .i64 0])]⟩ (⟨_,rfl,(j.Iq q)⟩) |(exfalso;omega)
def AmI (N:Nat):Prop:=∀{Γ:Ctx} {lp pu:Int} {Γ1:Ctx} {z ya:List E} {U el:List S} (k o:Int) (t b:Int) (V xo:Int) (O xw:Int) (xl yk:Int) (I J:Int) (H L:Int) (j q:Int) (Q sub:Int) (M pl:Int) (fl bl lo:Int) (nm A:List Nat) (C ae:List Nat) (X Y:Rs) (v x:Rs) (Z P:Rs) (B R:Rs) (mp:Mp) (hC:Ck Γ M fl Z B mp) (hS:Fc lp pu Γ (.node k o t b nm (.node V xo O xw A z) (.node yk I J H C ya) U el) Γ1) (hX:X=E.Ab z) (hY:Y=E.Ab ya) (hB:v=S.Ab U) (hE:x=S.Ab el) (h:xl=X.length/\L=Y.length/\j=v.length/\q=x.length/\k=2:=by exact kn),Ok trees N ⟨[k,o,t,b,V,xo,O,xw,xl,yk,I,J,H,L,j,q,Q,sub,M,pl,fl,bl,lo],[nm,A,C,ae],[X,Y,v,x,Z,P,B,R],[mp]⟩ fun zz=>(zz=(0,(⟨[0],[],[],[]⟩:Aj)))
theorem Al9:AmI 138:=by
 intro Γ lp pu Γ1 x ya bo el k o t b L U J M N yk yo yt yw yl V Z q sub al pl fl C lo nm z yn v X Y Bo El Ar P Fs R mp j O A H hB I h
 subst A;subst H;subst hB;subst I;obtain ⟨_,_,_,_,_,_,hn,rfl,u,i,B,hx,_⟩:=O.Ak8 om
 refine .of (t:=Zp) rfl ?_
 conv=>arg 3;reduce
 refine lh (j.look B) ?_
 refine Bw 3 3 ?_
 obtain ⟨_,rfl,Q⟩:=Xc j L U J M N u q sub pl C lo z v (E.Ab x) P R asm rfl
 refine ch Q ?_
 first|exact Ah ⟨[0],[],[],[]⟩ (rfl) |(exfalso;omega)
def JX (N n:Nat):Prop:=∀{Γ:Ctx} {B x:Int} {I:Ctx} {l:List S} (ln z:Int) (sub v:Int) (pl fl:Int) (J lo:Int) (C:List Nat) (L A:Rs) (P q R:Rs) (H:Mp) (Q:Ck Γ v fl A q H) (U:EK B x Γ l I) (O:L=S.Ab l) (h:ln=L.length/\ln<=200000/\(B=0∨1<=lo)/\0<=lo/\lo+S.Az l<=1000/\S.Ad l<=200000/\x=1/\S.Az l<n),Ok trees N ⟨[ln,z,sub,v,pl,fl,J,lo],[C],[L,A,P,q,R],[H]⟩ fun M=>(∃(j:Int),M=(0,(⟨[0,j],[],[],[]⟩:Aj))/\(lo=j))
def Ae8 (N:Nat):Prop:=∀{Γ:Ctx} {B x:Int} {I:Ctx} {l:List S} (ln z:Int) (sub v:Int) (pl fl:Int) (J lo:Int) (C:List Nat) (L A:Rs) (P q R:Rs) (H:Mp) (Q:Ck Γ v fl A q H) (U:EK B x Γ l I) (O:L=S.Ab l) (h:ln=L.length/\ln<=200000/\(B=0∨1<=lo)/\0<=lo/\lo+S.Az l<=1000/\S.Ad l<=200000/\x=1:=by exact kn),Ok trees N ⟨[ln,z,sub,v,pl,fl,J,lo],[C],[L,A,P,q,R],[H]⟩ fun M=>(∃(j:Int),M=(0,(⟨[0,j],[],[],[]⟩:Aj))/\(lo=j))
theorem JX.of {N n:Nat} (H:Ae8 N):JX N n:=fun {Γ} {lp} {pu} {Γe} {l} ln grp sub al pl fl bl lo knm L Ar P Fs R mp hC hO hLs h=>H ln grp sub al pl fl bl lo knm L Ar P Fs R mp hC hO hLs (by have:=h;omega)
def AmH (B N:Nat):Prop:=∀{m:Nat} (ak:JX B m) {Γ:Ctx} {O Z:Int} {Γ1:Ctx} {C ya:List E} {v el:List S} (k o:Int) (t b:Int) (xk xo:Int) (xt xw:Int) (xl yk:Int) (M Q:Int) (L U:Int) (j q:Int) (ab sub:Int) (V pl:Int) (fl bl lo:Int) (nm H:List Nat) (J ai:List Nat) (X Y:Rs) (z A:Rs) (Ar P:Rs) (I R:Rs) (mp:Mp) (hC:Ck Γ V fl Ar I mp) (hS:Fc O Z Γ (.node k o t b nm (.node xk xo xt xw H C) (.node yk M Q L J ya) v el) Γ1) (hX:X=E.Ab C) (hY:Y=E.Ab ya) (hB:z=S.Ab v) (hE:A=S.Ab el) (h:xl=X.length/\U=Y.length/\j=z.length/\q=A.length/\(O=0∨1<=lo)/\0<=lo/\lo+max (S.Az v) (S.Az el)<=1000/\S.Ad v<=200000/\S.Ad el<=200000/\S.Az v<m/\S.Az el<m/\j<=200000/\q<=200000/\k=5/\Z=1:=by exact kn),Ok trees N ⟨[k,o,t,b,xk,xo,xt,xw,xl,yk,M,Q,L,U,j,q,ab,sub,V,pl,fl,bl,lo],[nm,H,J,ai],[X,Y,z,A,Ar,P,I,R],[mp]⟩ fun zz=>(∃(x:Int),zz=(0,(⟨[0,x],[],[],[]⟩:Aj))/\(lo=x))
theorem Al8:AmH 149 139:=by
 intro m j Γ lp pu Γ1 L ya bo el k o t b xk xo xt xw xl yk yo yt yw yl A H q sub C pl fl z lo nm M yn v X Y Bo El I P B R J x hS O V hB Z h
 subst O;subst V;subst hB;subst Z;obtain ⟨_,_,_,_,_,hx,_,rfl,Γa,Γb,aj,ak⟩:=hS.kif om
 refine .of (t:=Zo) rfl ?_
 conv=>arg 3;reduce
 obtain ⟨_,rfl,G1⟩:=Xc x xk xo xt xw xl 3 q sub pl z lo M v (E.Ab L) P R asm rfl
 refine ch G1 ?_
 refine Bw 0 0 ?_
 obtain ⟨_,⟨Q,rfl,rfl⟩,G2⟩:=j A q sub C pl fl z lo v (S.Ab bo) I P B R J x asm rfl kn
 refine ch G2 ?_
 refine Bw 0 0 ?_
 obtain ⟨_,⟨N,rfl,rfl⟩,U⟩:=j H q sub C pl fl z lo v (S.Ab el) I P B R J x asm rfl kn
 refine ch U ?_
 first|exact Ah ⟨[0,lo],[],[],[]⟩ (⟨_,rfl,kn⟩) |(exfalso;omega)
def AmG (B N:Nat):Prop:=∀{m:Nat} (ak:JX B m) {Γ:Ctx} {O Z:Int} {Γ1:Ctx} {C ya:List E} {j el:List S} (k o:Int) (t b:Int) (xk xo:Int) (xt xw:Int) (xl yk:Int) (M Q:Int) (L U:Int) (q v:Int) (ab sub:Int) (V pl:Int) (fl bl lo:Int) (nm H:List Nat) (J ai:List Nat) (X Y:Rs) (z A:Rs) (Ar P:Rs) (I R:Rs) (mp:Mp) (hC:Ck Γ V fl Ar I mp) (hS:Fc O Z Γ (.node k o t b nm (.node xk xo xt xw H C) (.node yk M Q L J ya) j el) Γ1) (hX:X=E.Ab C) (hY:Y=E.Ab ya) (hB:z=S.Ab j) (hE:A=S.Ab el) (h:xl=X.length/\U=Y.length/\q=z.length/\v=A.length/\(O=0∨1<=lo)/\0<=lo/\lo+1+S.Az j<=1000/\S.Az j<m/\q<=200000/\S.Ad j<=200000/\S.Ad j<=200000/\k=6/\Z=1:=by exact kn),Ok trees N ⟨[k,o,t,b,xk,xo,xt,xw,xl,yk,M,Q,L,U,q,v,ab,sub,V,pl,fl,bl,lo],[nm,H,J,ai],[X,Y,z,A,Ar,P,I,R],[mp]⟩ fun zz=>(∃(x:Int),zz=(0,(⟨[0,x],[],[],[]⟩:Aj))/\(lo=x))
theorem Al7:AmG 149 140:=by
 intro m j Γ lp pu Γ1 I ya Z el k o t b xk xo V xw xl yk yo yt yw yl x aj q sub U pl fl A lo nm J yn v X Y Bo El Ar P L R mp z hS M O hB Q h
 subst M;subst O;subst hB;subst Q;obtain ⟨_,_,_,_,_,hx,_,b1,b2,rfl,Γa,ai⟩:=hS.Ak6 om
 refine .of (t:=Zn) rfl ?_
 conv=>arg 3;reduce
 obtain ⟨_,rfl,G1⟩:=Xc z xk xo V xw xl 3 q sub pl A lo J v (E.Ab I) P R asm rfl
 refine ch G1 ?_
 refine BJ 0 0 ?_
 refine lt b 1 (fun C=>?_) fun C=>?_
 ·first|exact Ah ⟨[1,lo],[],[],[]⟩ (⟨_,rfl,kn⟩) |(exfalso;omega)
 refine gt b 1024 (fun H=>?_) fun H=>?_
 ·first|exact Ah ⟨[1,lo],[],[],[]⟩ (⟨_,rfl,kn⟩) |(exfalso;omega)
 obtain ⟨_,⟨B,rfl,rfl⟩,N⟩:=j x q sub U pl fl A (lo+1) v (S.Ab Z) Ar P L R mp z asm rfl kn
 refine ch N ?_
 first|exact Ah ⟨[0,((lo+1)-1)],[],[],[]⟩ (⟨_,rfl,kn⟩) |(exfalso;omega)
def Anz (U N:Nat) (m n:Nat):Prop:=∀{Γ:Ctx} {I B:Int} {H:Ctx} {l:List S} (ln len:Int) (j C:Int) (sub z:Int) (pl fl:Int) (O lo:Int) (J:List Nat) (L A:Rs) (P x R:Rs) (M:Mp) (X:Ck Γ z fl A x M) (Y:EK I B Γ (l.drop j.toNat) H) (V:L=S.Ab l) (h:ln=L.length/\ln<=200000/\len=ln/\0<=j/\(I=0∨1<=lo)/\0<=lo/\lo+S.Az (l.drop j.toNat)<=1000/\S.Az (l.drop j.toNat)<=m/\S.Ad (l.drop j.toNat)<=200000/\B=1/\(len-j).toNat<n),Ok trees N ⟨[ln,len,j,C,sub,z,pl,fl,O,lo],[J],[L,A,P,x,R],[M]⟩ fun Q=>(∃(v:Int),∃(q:Mp),Q=(1,(⟨[v],[],[],[q]⟩:Aj))/\(Ck H z fl A x q)/\(lo=v))
def AmK (B N:Nat):Prop:=∀{m:Nat} (Q:JX B m) {Γ:Ctx} {J C:Int} {I:Ctx} {l:List S} (ln len:Int) (j H:Int) (sub z:Int) (pl fl:Int) (U lo:Int) (M:List Nat) (L A:Rs) (P x R:Rs) (O:Mp) (Y:Ck Γ z fl A x O) (Z:EK J C Γ (l.drop j.toNat) I) (X:L=S.Ab l) (h:ln=L.length/\ln<=200000/\len=ln/\0<=j/\(J=0∨1<=lo)/\0<=lo/\lo+S.Az (l.drop j.toNat)<=1000/\S.Az (l.drop j.toNat)<=m/\S.Ad (l.drop j.toNat)<=200000/\C=1:=by exact kn),Ok trees N ⟨[ln,len,j,H,sub,z,pl,fl,U,lo],[M],[L,A,P,x,R],[O]⟩ fun V=>(∃(v:Int),∃(q:Mp),V=(1,(⟨[v],[],[],[q]⟩:Aj))/\(Ck I z fl A x q)/\(lo=v))
theorem AiT {m:Nat} (ai:JX 149 m) (n:Nat):Anz 149 135 m n:=by
 induction n with
 |zero=>intro Γ lp pu Γe l ln len j C sub O pl fl N lo B L Q P M R U A H az h;exact absurd h.2.2.2.2.2.2.2.2.2.2 (Nat.not_lt_zero _)
 |succ n ih=>
 intro Γ lp pu Γe l ln len j C sub O pl fl N lo B L Q P M R U A H az h
 subst az
 refine .of (t:=Zs) rfl ?_
 conv=>arg 3;reduce
 refine lt j len (fun t1=>?_) fun t1=>?_
 ·refine Dv j 0 ?_
  refine CF j ln ?_
  obtain ⟨v,ah,ak,aj,ac,Y,af,Z,V,ad,I,X,ag,ab,aa,ae,J,z,x,bf,aC,q,bj,br,bA⟩:=EK.get j H om om
  refine el aC ?_
  have bx:=q.Aen;have aZ:=S.len z;have a6:=S.len x;have a5:=S.A7 z;have ba:=S.A7 x;have a3:=q.pure
  refine eq v 1 (fun t3=>?_) fun t3=>?_
  ·obtain ⟨_,⟨aD,rfl,aB⟩,G4⟩:=AlA v ah ak aj Y af Z V ((E.Ab I).length:Int) X ag ab aa ((E.Ab J).length:Int) ((S.Ab z).length:Int) ((S.Ab x).length:Int) C sub O pl fl N lo ac ad ae B (E.Ab I) (E.Ab J) (S.Ab z) (S.Ab x) Q P M R U A q rfl rfl rfl rfl
   refine ch G4 ?_
   refine BJ 0 0 ?_
   obtain ⟨_,⟨bv,aF,rfl,bn,rfl⟩,G5⟩:=ih ln len (j+1) C sub O pl fl N lo B (S.Ab l) Q P M R aD aB asm rfl kn
   refine cm G5 ?_
   refine ch G5 ?_
   exact Ah ⟨[lo],[],[],[aF]⟩ (⟨_,_,rfl,(by first|assumption|(obtain ⟨_,_,e⟩:=Bf (l:=l) (j:=j) om;rw [e]at H;cases H;exact A)),kn⟩)
  refine eq v 2 (fun t6=>?_) fun t6=>?_
  ·obtain ⟨_,rfl,G7⟩:=Al9 v ah ak aj Y af Z V ((E.Ab I).length:Int) X ag ab aa ((E.Ab J).length:Int) ((S.Ab z).length:Int) ((S.Ab x).length:Int) C sub O pl fl N lo ac ad ae B (E.Ab I) (E.Ab J) (S.Ab z) (S.Ab x) Q P M R U A q rfl rfl rfl rfl
   refine ch G7 ?_
   refine BJ 0 0 ?_
   obtain ⟨_,⟨bw,aE,rfl,bk,rfl⟩,G8⟩:=ih ln len (j+1) C sub O pl fl N lo B (S.Ab l) Q P M R U (A.keep q om) asm rfl kn
   refine cm G8 ?_
   refine ch G8 ?_
   exact Ah ⟨[lo],[],[],[aE]⟩ (⟨_,_,rfl,(by first|assumption|(obtain ⟨_,_,e⟩:=Bf (l:=l) (j:=j) om;rw [e]at H;cases H;exact A)),kn⟩)
  refine eq v 5 (fun t9=>?_) fun t9=>?_
  ·obtain ⟨_,⟨be,rfl,rfl⟩,aQ⟩:=Al8 @ai v ah ak aj Y af Z V ((E.Ab I).length:Int) X ag ab aa ((E.Ab J).length:Int) ((S.Ab z).length:Int) ((S.Ab x).length:Int) C sub O pl fl N lo ac ad ae B (E.Ab I) (E.Ab J) (S.Ab z) (S.Ab x) Q P M R U A q rfl rfl rfl rfl
   refine ch aQ ?_
   refine BJ 0 0 ?_
   obtain ⟨_,⟨bc,an,rfl,a9,rfl⟩,ax⟩:=ih ln len (j+1) C sub O pl fl N lo B (S.Ab l) Q P M R U (A.keep q om) asm rfl kn
   refine cm ax ?_
   refine ch ax ?_
   exact Ah ⟨[lo],[],[],[an]⟩ (⟨_,_,rfl,(by first|assumption|(obtain ⟨_,_,e⟩:=Bf (l:=l) (j:=j) om;rw [e]at H;cases H;exact A)),kn⟩)
  refine eq v 6 (fun aO=>?_) fun aO=>?_
  ·obtain ⟨_,⟨aY,rfl,rfl⟩,aU⟩:=Al7 @ai v ah ak aj Y af Z V ((E.Ab I).length:Int) X ag ab aa ((E.Ab J).length:Int) ((S.Ab z).length:Int) ((S.Ab x).length:Int) C sub O pl fl N lo ac ad ae B (E.Ab I) (E.Ab J) (S.Ab z) (S.Ab x) Q P M R U A q rfl rfl rfl rfl
   refine ch aU ?_
   refine BJ 0 0 ?_
   obtain ⟨_,⟨a4,ao,rfl,bb,rfl⟩,aA⟩:=ih ln len (j+1) C sub O pl fl N lo B (S.Ab l) Q P M R U (A.keep q om) asm rfl kn
   refine cm aA ?_
   refine ch aA ?_
   exact Ah ⟨[lo],[],[],[ao]⟩ (⟨_,_,rfl,(by first|assumption|(obtain ⟨_,_,e⟩:=Bf (l:=l) (j:=j) om;rw [e]at H;cases H;exact A)),kn⟩)
  refine eq v 7 (fun aJ=>?_) fun aJ=>?_
  ·refine eq lo 0 (fun aH=>?_) fun aH=>?_
   ·exact dead
   obtain ⟨_,⟨a7,aq,rfl,a2,rfl⟩,aw⟩:=ih ln len (j+1) C sub O pl fl N lo B (S.Ab l) Q P M R U (A.keep q om) asm rfl kn
   refine cm aw ?_
   refine ch aw ?_
   exact Ah ⟨[lo],[],[],[aq]⟩ (⟨_,_,rfl,(by first|assumption|(obtain ⟨_,_,e⟩:=Bf (l:=l) (j:=j) om;rw [e]at H;cases H;exact A)),kn⟩)
  refine eq v 8 (fun aV=>?_) fun aV=>?_
  ·refine eq lo 0 (fun aK=>?_) fun aK=>?_
   ·exact dead
   obtain ⟨_,⟨a8,ap,rfl,aX,rfl⟩,av⟩:=ih ln len (j+1) C sub O pl fl N lo B (S.Ab l) Q P M R U (A.keep q om) asm rfl kn
   refine cm av ?_
   refine ch av ?_
   exact Ah ⟨[lo],[],[],[ap]⟩ (⟨_,_,rfl,(by first|assumption|(obtain ⟨_,_,e⟩:=Bf (l:=l) (j:=j) om;rw [e]at H;cases H;exact A)),kn⟩)
  refine eq v 3 (fun aR=>?_) fun aR=>?_
  ·exact dead
  refine eq v 4 (fun aL=>?_) fun aL=>?_
  ·exact dead
  refine eq v 12 (fun aW=>?_) fun aW=>?_
  ·exact dead
  refine eq v 9 (fun aN=>?_) fun aN=>?_
  ·exact dead
  refine eq v 10 (fun aG=>?_) fun aG=>?_
  ·exact dead
  refine eq v 11 (fun aI=>?_) fun aI=>?_
  ·exact dead
  obtain ⟨_,⟨a1,au,rfl,a0,rfl⟩,ay⟩:=ih ln len (j+1) C sub O pl fl N lo B (S.Ab l) Q P M R U (A.keep q om) asm rfl kn
  refine cm ay ?_
  refine ch ay ?_
  exact Ah ⟨[lo],[],[],[au]⟩ (⟨_,_,rfl,(by first|assumption|(obtain ⟨_,_,e⟩:=Bf (l:=l) (j:=j) om;rw [e]at H;cases H;exact A)),kn⟩)
 exact Ah ⟨[lo],[],[],[U]⟩ (⟨_,_,rfl,(by first|assumption|(obtain ⟨_,_,e⟩:=Bf (l:=l) (j:=j) om;rw [e]at H;cases H;exact A)),kn⟩)
theorem AlC:AmK 149 135:=fun {m} hC149 {Γ} {lp} {pu} {Γe} {l} ln len j grp sub al pl fl bl lo knm L Ar P Fs R mp hC hO hLs h=>AiT @hC149 ((len-j).toNat+1) ln len j grp sub al pl fl bl lo knm L Ar P Fs R mp hC hO hLs ⟨h.1,h.2.1,h.2.2.1,h.2.2.2.1,h.2.2.2.2.1,h.2.2.2.2.2.1,h.2.2.2.2.2.2.1,h.2.2.2.2.2.2.2.1,h.2.2.2.2.2.2.2.2.1,h.2.2.2.2.2.2.2.2.2,Nat.lt_succ_self _⟩
def AmN (A N:Nat):Prop:=∀{m:Nat} (O:JX A m) {Γ:Ctx} {I B:Int} {H:Ctx} {l:List S} (ln C:Int) (sub x:Int) (pl fl:Int) (Q lo:Int) (J:List Nat) (L z:Rs) (P v R:Rs) (M:Mp) (X:Ck Γ x fl z v M) (Y:EK I B Γ l H) (V:L=S.Ab l) (h:ln=L.length/\ln<=200000/\(I=0∨1<=lo)/\0<=lo/\lo+S.Az l<=1000/\S.Ad l<=200000/\S.Az l<=m/\B=1:=by exact kn),Ok trees N ⟨[ln,C,sub,x,pl,fl,Q,lo],[J],[L,z,P,v,R],[M]⟩ fun U=>(∃(q:Int),∃(j:Mp),U=(0,(⟨[0,q],[],[],[j]⟩:Aj))/\(Ck H x fl z v j)/\(lo=q))
theorem Ae5:AmN 149 130:=by
 intro m j Γ U X Y l ln x sub N pl fl I lo A L O P B R Q C M v h
 subst v;have Z:S.Az (l.drop (0:Int).toNat)=S.Az l:=rfl;have V:S.Ad (l.drop (0:Int).toNat)=S.Ad l:=rfl
 refine .of (t:=Zw) rfl ?_
 conv=>arg 3;reduce
 obtain ⟨_,⟨H,q,rfl,J,rfl⟩,z⟩:=AlC @j ln ln 0 x sub N pl fl I lo A (S.Ab l) O P B R Q C M rfl
 refine cm z ?_
 refine ch z ?_
 exact Ah ⟨[0,lo],[],[],[q]⟩ (⟨_,_,rfl,asm,kn⟩)
theorem AiO (n:Nat):JX 149 n:=by
 induction n with
 |zero=>intro Γ M Q U l ln q sub C pl fl A lo v L H P x R I z B j h;exact absurd h.2.2.2.2.2.2.2 (Nat.not_lt_zero _)
 |succ n ih=>
 intro Γ M Q U l ln q sub C pl fl A lo v L H P x R I z B j h
 refine .of (t:=Zg) rfl ?_
 conv=>arg 3;reduce
 obtain ⟨_,⟨J,O,rfl,N,rfl⟩,V⟩:=Ae5 @ih ln q sub C pl fl A lo v L H P x R I z B j
 refine ch V ?_
 exact Ah ⟨[0,lo],[],[],[]⟩ (⟨_,rfl,kn⟩)
theorem Al2:Ae8 149:=fun {Γ} {lp} {pu} {Γe} {l} ln grp sub al pl fl bl lo knm L Ar P Fs R mp hC hO hLs h=>AiO (S.Az l+1) ln grp sub al pl fl bl lo knm L Ar P Fs R mp hC hO hLs ⟨h.1,h.2.1,h.2.2.1,h.2.2.2.1,h.2.2.2.2.1,h.2.2.2.2.2.1,h.2.2.2.2.2.2,Nat.lt_succ_self _⟩
def An7 (N n:Nat):Prop:=∀(l:List Ae) (ok ln:Int) (len j:Int) (g1 I:Int) (Z p1:Int) (C O:Int) (g2 Q:Int) (a2 x:Int) (J X lo:Int) (M w2:List Nat) (L A:Rs) (R V:Rs) (H Y:Rs) (U z B:Rs) (v:Mp) (hL:L=Ay l) (hm:v=am (l.take j.toNat)) (hd:Y5 [] l) (h:ln=L.length/\len=ln/\0<=j/\j<=ln/\ln<=8/\(ln-j).toNat<n),Ok trees N ⟨[ok,ln,len,j,g1,I,Z,p1,C,O,g2,Q,a2,x,J,X,lo],[M,w2],[L,A,R,V,H,Y,U,z,B],[v]⟩ fun P=>(∃(q:Mp),P=(0,(⟨[],[],[],[q]⟩:Aj))/\(q=am l))
def Anh (N:Nat):Prop:=∀(l:List Ae) (ok ln:Int) (len j:Int) (g1 J:Int) (Y p1:Int) (V H:Int) (g2 X:Int) (a2 C:Int) (O P lo:Int) (z w2:List Nat) (L Q:Rs) (x B:Rs) (I Z:Rs) (A M R:Rs) (v:Mp) (hL:L=Ay l) (hm:v=am (l.take j.toNat)) (hd:Y5 [] l) (h:ln=L.length/\len=ln/\0<=j/\j<=ln/\ln<=8:=by exact kn),Ok trees N ⟨[ok,ln,len,j,g1,J,Y,p1,V,H,g2,X,a2,C,O,P,lo],[z,w2],[L,Q,x,B,I,Z,A,M,R],[v]⟩ fun U=>(∃(q:Mp),U=(0,(⟨[],[],[],[q]⟩:Aj))/\(q=am l))
theorem Aje (n:Nat):An7 106 n:=by
 induction n with
 |zero=>intro l ok ln len j g1 X a1 p1 N C g2 O a2 B Y Z lo A w2 L I Q U V A2 R H J mp P hm hd h;exact absurd h.2.2.2.2.2 (Nat.not_lt_zero _)
 |succ n ih=>
 intro l ok ln len j g1 X a1 p1 N C g2 O a2 B Y Z lo A w2 L I Q U V A2 R H J mp P hm hd h
 subst P;subst hm
 refine .of (t:=ZH) rfl ?_
 conv=>arg 3;reduce
 refine lt j len (fun t1=>?_) fun t1=>?_
 ·refine Dv j 0 ?_
  refine CF j ln ?_
  obtain ⟨z,ag,v,aj,x,q⟩:=Ia (l:=l) j om om
  refine el x ?_
  refine lm (RL (M:=[]) hd q) ?_
  refine up [.int .i64 0,.int .i64 v,.int .i64 j] ?_
  obtain ⟨_,⟨ah,rfl,rfl⟩,G3⟩:=ih l ok ln len (j+1) g1 X a1 p1 N C g2 O a2 B Y Z lo A w2 (Ay l) I Q U V A2 R H J (Bv (am (l.take j.toNat)) z [.int .i64 0,.int .i64 v,.int .i64 j]) rfl (Ac0 (M:=[]) hd q om) hd kn
  refine ch G3 ?_
  exact Ah ⟨[],[],[],[(am l)]⟩ (⟨_,rfl,(by first|rfl|exact RM (M:=[]) om)⟩)
 exact Ah ⟨[],[],[],[(am (l.take j.toNat))]⟩ (⟨_,rfl,(by first|rfl|exact RM (M:=[]) om)⟩)
theorem AlZ:Anh 106:=fun l ok ln len j g1 P X p1 C x g2 H a2 v Q R lo q Y L A J N O V M z B Z I U hd h=>Aje ((ln-j).toNat+1) l ok ln len j g1 P X p1 C x g2 H a2 v Q R lo q Y L A J N O V M z B Z I U hd ⟨h.1,h.2.1,h.2.2.1,h.2.2.2.1,h.2.2.2.2,Nat.lt_succ_self _⟩
def An6 (N n:Nat):Prop:=∀(l:List Pe) (M:NK) (ok ln:Int) (len j:Int) (g1 V:Int) (a1 p1:Int) (J A:Int) (g2 O:Int) (a2 z:Int) (X Y lo:Int) (x w2:List Nat) (L H:Rs) (P R:Rs) (U Z:Rs) (Q B I:Rs) (v:Mp) (hL:L=Ax l) (hm:v=M++pm (l.take j.toNat)) (hd:FrP M l) (h:ln=L.length/\len=ln/\0<=j/\j<=ln/\ln<=8/\(ln-j).toNat<n),Ok trees N ⟨[ok,ln,len,j,g1,V,a1,p1,J,A,g2,O,a2,z,X,Y,lo],[x,w2],[L,H,P,R,U,Z,Q,B,I],[v]⟩ fun C=>(∃(q:Mp),C=(0,(⟨[],[],[],[q]⟩:Aj))/\(q=M++pm l))
def Ang (N:Nat):Prop:=∀(l:List Pe) (M:NK) (ok ln:Int) (len j:Int) (g1 I:Int) (a1 p1:Int) (C P:Int) (g2 R:Int) (a2 x:Int) (J Y lo:Int) (O w2:List Nat) (L A:Rs) (U X:Rs) (H Z:Rs) (V z B:Rs) (v:Mp) (hL:L=Ax l) (hm:v=M++pm (l.take j.toNat)) (hd:FrP M l) (h:ln=L.length/\len=ln/\0<=j/\j<=ln/\ln<=8:=by exact kn),Ok trees N ⟨[ok,ln,len,j,g1,I,a1,p1,C,P,g2,R,a2,x,J,Y,lo],[O,w2],[L,A,U,X,H,Z,V,z,B],[v]⟩ fun Q=>(∃(q:Mp),Q=(0,(⟨[],[],[],[q]⟩:Aj))/\(q=M++pm l))
theorem Ajd (n:Nat):An6 107 n:=by
 induction n with
 |zero=>intro l M ok ln len j g1 X a1 p1 N C g2 O a2 B Y Z lo A w2 L I Q U V A2 R H J mp P hm hd h;exact absurd h.2.2.2.2.2 (Nat.not_lt_zero _)
 |succ n ih=>
 intro l M ok ln len j g1 X a1 p1 N C g2 O a2 B Y Z lo A w2 L I Q U V A2 R H J mp P hm hd h
 subst P;subst hm
 refine .of (t:=ZG) rfl ?_
 conv=>arg 3;reduce
 refine lt j len (fun t1=>?_) fun t1=>?_
 ·refine Dv j 0 ?_
  refine CF j ln ?_
  obtain ⟨z,v,x,q⟩:=HY (l:=l) j om om
  refine el x ?_
  refine lm (Q4 hd q) ?_
  refine up [.int .i64 2,.int .i64 v,.int .i64 0] ?_
  obtain ⟨_,⟨ag,rfl,rfl⟩,G3⟩:=ih l M ok ln len (j+1) g1 X a1 p1 N C g2 O a2 B Y Z lo A w2 (Ax l) I Q U V A2 R H J (Bv (M++pm (l.take j.toNat)) z [.int .i64 2,.int .i64 v,.int .i64 0]) rfl (Abf hd q om) hd kn
  refine ch G3 ?_
  exact Ah ⟨[],[],[],[(M++pm l)]⟩ (⟨_,rfl,(by first|rfl|exact Q5 om)⟩)
 exact Ah ⟨[],[],[],[(M++pm (l.take j.toNat))]⟩ (⟨_,rfl,(by first|rfl|exact Q5 om)⟩)
theorem AlY:Ang 107:=fun l M ok ln len j g1 Q Y p1 C x g2 H a2 v R U lo q Z L A J O P X N z B mp I V hd h=>Ajd ((ln-j).toNat+1) l M ok ln len j g1 Q Y p1 C x g2 H a2 v R U lo q Z L A J O P X N z B mp I V hd ⟨h.1,h.2.1,h.2.2.1,h.2.2.2.1,h.2.2.2.2,Nat.lt_succ_self _⟩
def An5 (N n:Nat):Prop:=∀(l:List Fe) (M:NK) (ok ln:Int) (len j:Int) (g2 J:Int) (a2 z:Int) (B C lo:Int) (P:List Nat) (L O:Rs) (x A H:Rs) (v:Mp) (R:L=A5 l) (Q:v=M++fm (l.take j.toNat)) (hd:FrF M l) (h:ln=L.length/\len=ln/\0<=j/\j<=ln/\ln<=8/\(ln-j).toNat<n),Ok trees N ⟨[ok,ln,len,j,g2,J,a2,z,B,C,lo],[P],[L,O,x,A,H],[v]⟩ fun I=>(∃(q:Mp),I=(0,(⟨[],[],[],[q]⟩:Aj))/\(q=M++fm l))
def Anf (N:Nat):Prop:=∀(l:List Fe) (M:NK) (ok ln:Int) (len j:Int) (g2 J:Int) (a2 z:Int) (B C lo:Int) (P:List Nat) (L O:Rs) (x A H:Rs) (v:Mp) (R:L=A5 l) (Q:v=M++fm (l.take j.toNat)) (hd:FrF M l) (h:ln=L.length/\len=ln/\0<=j/\j<=ln/\ln<=8:=by exact kn),Ok trees N ⟨[ok,ln,len,j,g2,J,a2,z,B,C,lo],[P],[L,O,x,A,H],[v]⟩ fun I=>(∃(q:Mp),I=(0,(⟨[],[],[],[q]⟩:Aj))/\(q=M++fm l))
theorem Ajc (n:Nat):An5 108 n:=by
 induction n with
 |zero=>intro l M ok ln len j g2 H a2 A N O lo R L Q J B C mp I P hd h;exact absurd h.2.2.2.2.2 (Nat.not_lt_zero _)
 |succ n ih=>
 intro l M ok ln len j g2 H a2 A N O lo R L Q J B C mp I P hd h
 subst I;subst P
 refine .of (t:=ZF) rfl ?_
 conv=>arg 3;reduce
 refine lt j len (fun X=>?_) fun X=>?_
 ·refine Dv j 0 ?_
  refine CF j ln ?_
  obtain ⟨z,V,v,Y,ad,ab,ag,ac,af,ae,x,q⟩:=HZ (l:=l) j om om
  refine el x ?_
  refine lm (Rn hd q) ?_
  refine up [.int .i64 1,.int .i64 v,.int .i64 j] ?_
  obtain ⟨_,⟨Z,rfl,rfl⟩,U⟩:=ih l M ok ln len (j+1) g2 H a2 A N O lo R (A5 l) Q J B C (Bv (M++fm (l.take j.toNat)) z [.int .i64 1,.int .i64 v,.int .i64 j]) rfl (AbS hd q om) hd kn
  refine ch U ?_
  exact Ah ⟨[],[],[],[(M++fm l)]⟩ (⟨_,rfl,(by first|rfl|exact Ro om)⟩)
 exact Ah ⟨[],[],[],[(M++fm (l.take j.toNat))]⟩ (⟨_,rfl,(by first|rfl|exact Ro om)⟩)
theorem AlX:Anf 108:=fun l M ok ln len j g2 z a2 q C H lo N L J B v x O A I hd h=>Ajc ((ln-j).toNat+1) l M ok ln len j g2 z a2 q C H lo N L J B v x O A I hd ⟨h.1,h.2.1,h.2.2.1,h.2.2.2.1,h.2.2.2.2,Nat.lt_succ_self _⟩
def Ani (N:Nat):Prop:=∀(j:List Ae) (pv:List Pe) (fs:List Fe) (g sub:Int) (v pl:Int) (fl B:Int) (A:List Nat) (x P:Rs) (q R:Rs) (M:x=Ay j) (O:P=Ax pv) (I:q=A5 fs) (L:Y5 [] j) (H:FrP (am j) pv) (J:FrF (am j++pm pv) fs) (h:v=x.length/\pl=P.length/\fl=q.length/\v<=8/\pl<=8/\fl<=8:=by exact kn),Ok trees N ⟨[g,sub,v,pl,fl,B],[A],[x,P,q,R],[]⟩ fun C=>(∃(z:Mp),C=(0,(⟨[g,sub,v,pl,fl,B],[A],[x,P,q,R],[z]⟩:Aj))/\(z=am j++pm pv++fm fs))
theorem Ama:Ani 105:=by
 intro j pv fs g sub v pl fl x q V P U R B N C H z A h
 subst B;subst N;subst C
 refine .of (t:=ZI) rfl ?_
 conv=>arg 3;reduce
 refine md [] ?_
 obtain ⟨_,⟨J,rfl,rfl⟩,O⟩:=AlZ j 1 v v 0 g sub v pl fl x g sub v pl fl x 0 q q (Ay j) (Ay j) (Ax pv) (A5 fs) R (Ay j) (Ax pv) (A5 fs) R [] rfl rfl H
 refine ch O ?_
 obtain ⟨_,⟨Q,rfl,rfl⟩,L⟩:=AlY pv (am j) 1 pl pl 0 g sub v pl fl x g sub v pl fl x 0 q q (Ax pv) (Ay j) (Ax pv) (A5 fs) R (Ay j) (Ax pv) (A5 fs) R (am j) rfl (Wv _ _) z
 refine ch L ?_
 obtain ⟨_,⟨M,rfl,rfl⟩,I⟩:=AlX fs (am j++pm pv) 1 fl fl 0 g sub v pl fl x 0 q (A5 fs) (Ay j) (Ax pv) (A5 fs) R ((am j)++pm pv) rfl (WO _ _) A
 refine ch I ?_
 exact Ah ⟨[g,sub,v,pl,fl,x],[q],[(Ay j),(Ax pv),(A5 fs),R],[((am j++pm pv)++fm fs)]⟩ (⟨_,rfl,rfl⟩)
def An3 (N n:Nat):Prop:=∀(l:List Ae) (n1 ln:Int) (len j:Int) (g1 I:Int) (Z p1:Int) (C O:Int) (g2 Q:Int) (a2 x:Int) (J X lo:Int) (M w2:List Nat) (L A:Rs) (R V:Rs) (H Y:Rs) (U z B:Rs) (v:Mp) (hL:L=Ay l) (hm:v=am (l.take j.toNat)) (hd:Y5 [] l) (h:ln=L.length/\len=ln/\0<=j/\j<=ln/\ln<=8/\(ln-j).toNat<n),Ok trees N ⟨[n1,ln,len,j,g1,I,Z,p1,C,O,g2,Q,a2,x,J,X,lo],[M,w2],[L,A,R,V,H,Y,U,z,B],[v]⟩ fun P=>(∃(q:Mp),P=(0,(⟨[],[],[],[q]⟩:Aj))/\(q=am l))
def Anb (N:Nat):Prop:=∀(l:List Ae) (n1 ln:Int) (len j:Int) (g1 J:Int) (Y p1:Int) (V H:Int) (g2 X:Int) (a2 C:Int) (O P lo:Int) (z w2:List Nat) (L Q:Rs) (x B:Rs) (I Z:Rs) (A M R:Rs) (v:Mp) (hL:L=Ay l) (hm:v=am (l.take j.toNat)) (hd:Y5 [] l) (h:ln=L.length/\len=ln/\0<=j/\j<=ln/\ln<=8:=by exact kn),Ok trees N ⟨[n1,ln,len,j,g1,J,Y,p1,V,H,g2,X,a2,C,O,P,lo],[z,w2],[L,Q,x,B,I,Z,A,M,R],[v]⟩ fun U=>(∃(q:Mp),U=(0,(⟨[],[],[],[q]⟩:Aj))/\(q=am l))
theorem Aja (n:Nat):An3 112 n:=by
 induction n with
 |zero=>intro l n1 ln len j g1 X a1 p1 N C g2 O a2 B Y Z lo A w2 L I Q U V A2 R H J mp P hm hd h;exact absurd h.2.2.2.2.2 (Nat.not_lt_zero _)
 |succ n ih=>
 intro l n1 ln len j g1 X a1 p1 N C g2 O a2 B Y Z lo A w2 L I Q U V A2 R H J mp P hm hd h
 subst P;subst hm
 refine .of (t:=ZC) rfl ?_
 conv=>arg 3;reduce
 refine lt j len (fun t1=>?_) fun t1=>?_
 ·refine Dv j 0 ?_
  refine CF j ln ?_
  obtain ⟨z,ag,v,aj,x,q⟩:=Ia (l:=l) j om om
  refine el x ?_
  refine lm (RL (M:=[]) hd q) ?_
  refine up [.int .i64 0,.int .i64 v,.int .i64 j] ?_
  obtain ⟨_,⟨ah,rfl,rfl⟩,G3⟩:=ih l n1 ln len (j+1) g1 X a1 p1 N C g2 O a2 B Y Z lo A w2 (Ay l) I Q U V A2 R H J (Bv (am (l.take j.toNat)) z [.int .i64 0,.int .i64 v,.int .i64 j]) rfl (Ac0 (M:=[]) hd q om) hd kn
  refine ch G3 ?_
  exact Ah ⟨[],[],[],[(am l)]⟩ (⟨_,rfl,(by first|rfl|exact RM (M:=[]) om)⟩)
 exact Ah ⟨[],[],[],[(am (l.take j.toNat))]⟩ (⟨_,rfl,(by first|rfl|exact RM (M:=[]) om)⟩)
theorem AlU:Anb 112:=fun l n1 ln len j g1 P X p1 C x g2 H a2 v Q R lo q Y L A J N O V M z B Z I U hd h=>Aja ((ln-j).toNat+1) l n1 ln len j g1 P X p1 C x g2 H a2 v Q R lo q Y L A J N O V M z B Z I U hd ⟨h.1,h.2.1,h.2.2.1,h.2.2.2.1,h.2.2.2.2,Nat.lt_succ_self _⟩
def An2 (N n:Nat):Prop:=∀(l:List Fe) (M:NK) (n1 ln:Int) (len j:Int) (g1 V:Int) (a1 p1:Int) (J A:Int) (g2 O:Int) (a2 z:Int) (X Y lo:Int) (x w2:List Nat) (L H:Rs) (P R:Rs) (U Z:Rs) (Q B I:Rs) (v:Mp) (hL:L=A5 l) (hm:v=M++fm (l.take j.toNat)) (hd:FrF M l) (h:ln=L.length/\len=ln/\0<=j/\j<=ln/\ln<=8/\(ln-j).toNat<n),Ok trees N ⟨[n1,ln,len,j,g1,V,a1,p1,J,A,g2,O,a2,z,X,Y,lo],[x,w2],[L,H,P,R,U,Z,Q,B,I],[v]⟩ fun C=>(∃(q:Mp),C=(0,(⟨[],[],[],[q]⟩:Aj))/\(q=M++fm l))
def AmZ (N:Nat):Prop:=∀(l:List Fe) (M:NK) (n1 ln:Int) (len j:Int) (g1 I:Int) (a1 p1:Int) (C P:Int) (g2 R:Int) (a2 x:Int) (J Y lo:Int) (O w2:List Nat) (L A:Rs) (U X:Rs) (H Z:Rs) (V z B:Rs) (v:Mp) (hL:L=A5 l) (hm:v=M++fm (l.take j.toNat)) (hd:FrF M l) (h:ln=L.length/\len=ln/\0<=j/\j<=ln/\ln<=8:=by exact kn),Ok trees N ⟨[n1,ln,len,j,g1,I,a1,p1,C,P,g2,R,a2,x,J,Y,lo],[O,w2],[L,A,U,X,H,Z,V,z,B],[v]⟩ fun Q=>(∃(q:Mp),Q=(0,(⟨[],[],[],[q]⟩:Aj))/\(q=M++fm l))
theorem AiY (n:Nat):An2 114 n:=by
 induction n with
 |zero=>intro l M n1 ln len j g1 X a1 p1 N C g2 O a2 B Y Z lo A w2 L I Q U V A2 R H J mp P hm hd h;exact absurd h.2.2.2.2.2 (Nat.not_lt_zero _)
 |succ n ih=>
 intro l M n1 ln len j g1 X a1 p1 N C g2 O a2 B Y Z lo A w2 L I Q U V A2 R H J mp P hm hd h
 subst P;subst hm
 refine .of (t:=ZA) rfl ?_
 conv=>arg 3;reduce
 refine lt j len (fun t1=>?_) fun t1=>?_
 ·refine Dv j 0 ?_
  refine CF j ln ?_
  obtain ⟨z,ag,v,ah,an,ak,aq,al,ap,ao,x,q⟩:=HZ (l:=l) j om om
  refine el x ?_
  refine lm (Rn hd q) ?_
  refine up [.int .i64 1,.int .i64 v,.int .i64 j] ?_
  obtain ⟨_,⟨ai,rfl,rfl⟩,G3⟩:=ih l M n1 ln len (j+1) g1 X a1 p1 N C g2 O a2 B Y Z lo A w2 (A5 l) I Q U V A2 R H J (Bv (M++fm (l.take j.toNat)) z [.int .i64 1,.int .i64 v,.int .i64 j]) rfl (AbS hd q om) hd kn
  refine ch G3 ?_
  exact Ah ⟨[],[],[],[(M++fm l)]⟩ (⟨_,rfl,(by first|rfl|exact Ro om)⟩)
 exact Ah ⟨[],[],[],[(M++fm (l.take j.toNat))]⟩ (⟨_,rfl,(by first|rfl|exact Ro om)⟩)
theorem AlS:AmZ 114:=fun l M n1 ln len j g1 Q Y p1 C x g2 H a2 v R U lo q Z L A J O P X N z B mp I V hd h=>AiY ((ln-j).toNat+1) l M n1 ln len j g1 Q Y p1 C x g2 H a2 v R U lo q Z L A J O P X N z B mp I V hd ⟨h.1,h.2.1,h.2.2.1,h.2.2.2.1,h.2.2.2.2,Nat.lt_succ_self _⟩
def An0 (N n:Nat):Prop:=∀(l:List Pe) (M:NK) (ln len:Int) (j g2:Int) (Q a2:Int) (H f2:Int) (r2 lo:Int) (A x:Int) (v R:Int) (I Y:Int) (U rl:Int) (w2 z B:List Nat) (L A2:Rs) (V J:Rs) (P X:Rs) (FB Z:Rs) (C:Mp) (hL:L=Ax l) (hm:C=M++pm (l.take j.toNat)) (hd:FrP M l) (h:ln=L.length/\len=ln/\0<=j/\j<=ln/\ln<=8/\(ln-j).toNat<n),Ok trees N ⟨[ln,len,j,g2,Q,a2,H,f2,r2,lo,A,x,v,R,I,Y,U,rl],[w2,z,B],[L,A2,V,J,P,X,FB,Z],[C]⟩ fun O=>(∃(q:Mp),O=(1,(⟨[],[],[],[q]⟩:Aj))/\(q=M++pm l))
def AmO (N:Nat):Prop:=∀(l:List Pe) (M:NK) (ln len:Int) (j g2:Int) (Q a2:Int) (H f2:Int) (r2 lo:Int) (A x:Int) (v R:Int) (I Y:Int) (U rl:Int) (w2 z B:List Nat) (L A2:Rs) (V J:Rs) (P X:Rs) (FB Z:Rs) (C:Mp) (hL:L=Ax l) (hm:C=M++pm (l.take j.toNat)) (hd:FrP M l) (h:ln=L.length/\len=ln/\0<=j/\j<=ln/\ln<=8:=by exact kn),Ok trees N ⟨[ln,len,j,g2,Q,a2,H,f2,r2,lo,A,x,v,R,I,Y,U,rl],[w2,z,B],[L,A2,V,J,P,X,FB,Z],[C]⟩ fun O=>(∃(q:Mp),O=(1,(⟨[],[],[],[q]⟩:Aj))/\(q=M++pm l))
theorem AiV (n:Nat):An0 129 n:=by
 induction n with
 |zero=>intro l M ln len j g2 Q a2 J f2 r2 lo B z x R N ry V rl w2 A C L A2 Y O P Z FB RA mp U hm hd h;exact absurd h.2.2.2.2.2 (Nat.not_lt_zero _)
 |succ n ih=>
 intro l M ln len j g2 Q a2 J f2 r2 lo B z x R N ry V rl w2 A C L A2 Y O P Z FB RA mp U hm hd h
 subst U;subst hm
 refine .of (t:=Zx) rfl ?_
 conv=>arg 3;reduce
 refine lt j len (fun t1=>?_) fun t1=>?_
 ·refine Dv j 0 ?_
  refine CF j ln ?_
  obtain ⟨I,v,H,q⟩:=HY (l:=l) j om om
  refine el H ?_
  refine lm (Q4 hd q) ?_
  refine up [.int .i64 2,.int .i64 v,.int .i64 0] ?_
  obtain ⟨_,⟨ak,rfl,rfl⟩,X⟩:=ih l M ln len (j+1) g2 Q a2 J f2 r2 lo B z x R N ry V rl w2 A C (Ax l) A2 Y O P Z FB RA (Bv (M++pm (l.take j.toNat)) I [.int .i64 2,.int .i64 v,.int .i64 0]) rfl (Abf hd q om) hd kn
  refine cm X ?_
  refine ch X ?_
  exact Ah ⟨[],[],[],[(M++pm l)]⟩ (⟨_,rfl,(by first|rfl|exact Q5 om)⟩)
 exact Ah ⟨[],[],[],[(M++pm (l.take j.toNat))]⟩ (⟨_,rfl,(by first|rfl|exact Q5 om)⟩)
theorem AlH:AmO 129:=fun l M ln len j g2 J a2 B X Y lo z v q N C U P rl w2 x A L A2 Q H I R FB V mp O Z hd h=>AiV ((ln-j).toNat+1) l M ln len j g2 J a2 B X Y lo z v q N C U P rl w2 x A L A2 Q H I R FB V mp O Z hd ⟨h.1,h.2.1,h.2.2.1,h.2.2.2.1,h.2.2.2.2,Nat.lt_succ_self _⟩
def Anc (N:Nat):Prop:=∀{v:List Ae} {fs:List Fe} {f:Fe} {Γ A:Ctx} (g sub:Int) (q pl:Int) (fl C n:Int) (z:List Nat) (x P:Rs) (j R:Rs) (J:x=Ay v) (H:j=A5 fs) (hf:fs[n.toNat]?=some f) (M:FnG v fs n.toNat f Γ A) (L:FnP f) (I:Y5 [] v) (h:0<=n/\n<fl/\q=x.length/\fl=j.length/\q<=8/\fl<=8:=by exact kn),Ok trees N ⟨[g,sub,q,pl,fl,C,n],[z],[x,P,j,R],[]⟩ fun B=>(B=(0,(⟨[0],[],[],[]⟩:Aj)))
theorem AlV:Anc 111:=by
 intro j fs f Γ Q g sub al pl fl v n q Ar P Fs R N O hf z C U h
 subst N;subst O;obtain ⟨nm,ps,ty,fb,B,A,J,H,rw,x⟩:=f;have L:=AaN hf;have hO:EK 0 1 Γ fb Q:=z.ok;have Z:T Q ty (.node B A J rw H x):=z.ty;have ao:(Ax ps).length<=2:=(by have:=C.pl;simpa [Ax]using this);have aw:S.Az fb<=2:=C.dp;have ak:S.Ad fb<=160:=C.nd;have aq:=S.len fb;have ap:=S.A7 fb;obtain ⟨h0,h1,rfl,rfl,au,an⟩:=h
 refine .of (t:=ZD) rfl ?_
 conv=>arg 3;reduce
 refine md [] ?_
 obtain ⟨_,⟨ad,rfl,rfl⟩,G1⟩:=AlU j n ((Ay j).length:Int) ((Ay j).length:Int) 0 g sub ((Ay j).length:Int) pl ((A5 fs).length:Int) v g sub ((Ay j).length:Int) pl ((A5 fs).length:Int) v 0 q q (Ay j) (Ay j) P (A5 fs) R (Ay j) P (A5 fs) R [] rfl rfl U
 refine ch G1 ?_
 refine dL ((A5 fs).take n.toNat) (fun W2 e2=>?_) (Gf (pt n (A5 fs)))
 have f2:=cL e2;try simp only [lA,lC,lN,lT']at f2
 obtain ⟨_,⟨ag,rfl,rfl⟩,G3⟩:=AlS (fs.take n.toNat) (am j) n n n 0 g sub ((Ay j).length:Int) pl ((A5 fs).length:Int) v g sub ((Ay j).length:Int) pl ((A5 fs).length:Int) v 0 q q W2 (Ay j) P (A5 fs) R (Ay j) P (A5 fs) R (am j) (by subst_vars;exact Ux) (WO _ _) z.fr
 refine ch G3 ?_
 refine Dv n 0 ?_
 refine CF n ((A5 fs).length:Int) ?_
 refine el L ?_
 obtain ⟨_,⟨X,rfl,rfl⟩,M⟩:=AlH ps (am j++fm (fs.take n.toNat)) ((Ax ps).length:Int) ((Ax ps).length:Int) 0 g sub ((Ay j).length:Int) pl ((A5 fs).length:Int) v 0 ((Ax ps).length:Int) ty ((S.Ab fb).length:Int) B A J rw ((E.Ab x).length:Int) q nm H (Ax ps) (Ay j) P (A5 fs) R (Ax ps) (S.Ab fb) (E.Ab x) ((am j)++fm (fs.take n.toNat)) rfl (Wv _ _) z.fp
 refine cm M ?_
 refine ch M ?_
 obtain ⟨_,⟨V,ai,rfl,I,rfl⟩,G5⟩:=Ae5 (JX.of (n:=1000) @Al2) ((S.Ab fb).length:Int) g sub ((Ay j).length:Int) pl ((A5 fs).length:Int) v 0 q (S.Ab fb) (Ay j) P (A5 fs) R ((am j++fm (fs.take n.toNat))++pm ps) z.ck hO rfl
 refine ch G5 ?_
 refine BJ 0 0 ?_
 obtain ⟨_,rfl,Y⟩:=Xc I B A J rw ((E.Ab x).length:Int) ty g sub pl v 0 H q (E.Ab x) P R Z rfl
 refine ch Y ?_
 exact Ah ⟨[0],[],[],[]⟩ (rfl)
def An4 (N n:Nat):Prop:=∀{z:List Ae} {fs:List Fe} (B q:Int) (j g:Int) (sub x:Int) (pl fl:Int) (V g2:Int) (O a2:Int) (H L:Int) (U lo:Int) (C Y:List Nat) (A P:Rs) (v R:Rs) (X Q:Rs) (I J:Rs) (Z:Mp) (aa:A=Ay z) (ab:v=A5 fs) (hK:FsG z fs) (hp:YA fs) (ac:Y5 [] z) (h:0<=j/\j<=q/\B=0/\q=v.length/\fl=q/\x=A.length/\q<=8/\x<=8/\(q-j).toNat<n),Ok trees N ⟨[B,q,j,g,sub,x,pl,fl,V,g2,O,a2,H,L,U,lo],[C,Y],[A,P,v,R,X,Q,I,J],[Z]⟩ fun M=>(M=(0,(⟨[0],[],[],[]⟩:Aj)))
def Ane (N:Nat):Prop:=∀{z:List Ae} {fs:List Fe} (B q:Int) (j g:Int) (sub x:Int) (pl fl:Int) (U g2:Int) (V a2:Int) (I L:Int) (M lo:Int) (C Y:List Nat) (A P:Rs) (v R:Rs) (X H:Rs) (J O:Rs) (Z:Mp) (ac:A=Ay z) (aa:v=A5 fs) (hK:FsG z fs) (hp:YA fs) (ab:Y5 [] z) (h:0<=j/\j<=q/\B=0/\q=v.length/\fl=q/\x=A.length/\q<=8/\x<=8:=by exact kn),Ok trees N ⟨[B,q,j,g,sub,x,pl,fl,U,g2,V,a2,I,L,M,lo],[C,Y],[A,P,v,R,X,H,J,O],[Z]⟩ fun Q=>(Q=(0,(⟨[0],[],[],[]⟩:Aj)))
theorem Ajb (n:Nat):An4 109 n:=by
 induction n with
 |zero=>intro I fs e0 L j g sub H pl fl J g2 Q a2 M X Y lo v w2 Ar P Fs R Z V N O mp x z B C q h;exact absurd h.2.2.2.2.2.2.2.2 (Nat.not_lt_zero _)
 |succ n ih=>
 intro I fs e0 L j g sub H pl fl J g2 Q a2 M X Y lo v w2 Ar P Fs R Z V N O mp x z B C q h
 subst x;subst z;obtain ⟨h0,h1,rfl,h3,h4,h5,h7,h8,h6⟩:=h
 refine .of (t:=ZE) rfl ?_
 conv=>arg 3;reduce
 refine lt j L (fun t1=>?_) fun t1=>?_
 ·refine Bw 0 0 ?_
  obtain ⟨f_,Γ_,ai,A,U⟩:=B.at j om om
  obtain ⟨_,rfl,G2⟩:=AlV g sub H pl fl J j v (Ay I) P (A5 fs) R rfl rfl A U (C _ _ A) q
  refine ch G2 ?_
  obtain ⟨_,rfl,G3⟩:=ih 0 L (j+1) g sub H pl fl J g2 Q a2 M X Y lo v w2 (Ay I) P (A5 fs) R Z V N O mp rfl rfl B C q kn
  refine ch G3 ?_
  exact Ah ⟨[0],[],[],[]⟩ (rfl)
 exact Ah ⟨[0],[],[],[]⟩ (rfl)
theorem AlW:Ane 109:=fun {av} {fs} e0 nf j g sub al pl fl rl g2 s2 a2 p2 f2 r2 lo knm w2 Ar P Fs R A2 P2 F2 R2 mp hAr hFs hK hp hda h=>Ajb ((nf-j).toNat+1) e0 nf j g sub al pl fl rl g2 s2 a2 p2 f2 r2 lo knm w2 Ar P Fs R A2 P2 F2 R2 mp hAr hFs hK hp hda ⟨h.1,h.2.1,h.2.2.1,h.2.2.2.1,h.2.2.2.2.1,h.2.2.2.2.2.1,h.2.2.2.2.2.2.1,h.2.2.2.2.2.2.2,Nat.lt_succ_self _⟩
end
end Go.Proofs.YtaolbokoijfhnaaGreatDoor.Am
