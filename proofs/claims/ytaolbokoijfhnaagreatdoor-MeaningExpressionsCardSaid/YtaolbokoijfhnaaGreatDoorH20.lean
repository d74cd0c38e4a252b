/- Part 20 of MeaningExpressions. -/
import Derived.Test.YtaolbokoijfhnaaGreatDoorH17
import Derived.Test.YtaolbokoijfhnaaGreatDoorH18
set_option linter.all false
namespace Go.Proofs.YtaolbokoijfhnaaGreatDoor.Am
section
set_option maxHeartbeats 4000000
set_option maxRecDepth 100000
open Go.AM Go.AM.K
abbrev Aof:=@Afx
abbrev Ans:=@Afo
theorem Aj5 {Γ:Ctx} {al fl:Int} {Ar O:Rs} {mp:Mp} (hC:Ck Γ al fl Ar O mp) (n:Nat):Aof 148 Γ al fl Ar O mp n:=by
 induction n with
 |zero=>intro J ln len j B sub pl V lo C v q M Q N Y rl z x H T FP P R A FB RA X Z h;exact absurd h.2.2.2.2.2 (Nat.not_lt_zero _)
 |succ n ih=>
 intro J ln len j B sub pl V lo C v q M Q N Y rl z x H T FP P R A FB RA X Z h
 subst X;subst Z
 refine .of (t:=ZD) rfl ?_
 conv=>arg 3;reduce
 refine lt j len (fun t1=>?_) fun t1=>?_
 ·refine Dy j 0 ?_
  refine CJ j ln ?_
  obtain ⟨ai,L⟩:=Pr j om om
  refine el L ?_
  refine CJ j J ?_
  have I:=SZ j om om
  refine el I ?_
  refine BM 1 1 ?_
  obtain ⟨_,rfl,U⟩:=ih J ln len (j+1) B sub pl V lo C v q M Q N Y rl z x H ([1,1].map B3) Ez P R A FB RA rfl rfl kn
  refine cm U ?_
  refine ch U ?_
  exact Ai v0 (rfl)
 exact Ai v0 (rfl)
theorem Amf:Ans 148:=fun {Γ} {al} {fl} {Ar} {Fs} {mp} hC tl ln len j grp sub pl bl lo fpl fty fbl rk ro ry rv rl knm fnm rnm T FP P R FP2 FB RA hT hF h=>Aj5 hC ((2-j).toNat+1) tl ln len j grp sub pl bl lo fpl fty fbl rk ro ry rv rl knm fnm rnm T FP P R FP2 FB RA hT hF ⟨h.1,h.2.1,h.2.2.1,h.2.2.2.1,h.2.2.2.2,Nat.lt_succ_self _⟩
abbrev Anu:=@Afq
theorem Amh:Anu 146:=by
 intro Γ al fl Ar X mp C V U j J H M L O Y x sub pl I lo v B A q Q N T P R Z hF h
 obtain ⟨rfl,rfl,rfl⟩:=h
 refine .of (t:=ZF) rfl ?_
 conv=>arg 3;reduce
 refine BM 2 2 ?_
 obtain ⟨_,rfl,z⟩:=Amf C 2 2 2 0 x sub pl I lo 2 1 j J H M L O A v B T q P R q Q N asm asm
 refine cm z ?_
 refine ch z ?_
 exact Ai ⟨[1,0],[],[],[]⟩ (rfl)
abbrev Afw:=@PJ
abbrev Anz:=@Afu
abbrev Aog:=@Afy
abbrev Ant:=@Afp
theorem Aj6 {Γ:Ctx} {O fl:Int} {U J:Rs} {V:Mp} (hC:Ck Γ O fl U J V) {m:Nat} (B:Afw 141 Γ O fl U J V m) (n:Nat):Aog 141 147 Γ O fl U J V m n:=by
 induction n with
 |zero=>intro a ts X ln len j z sub pl M lo A L P R Q v H Z h;exact absurd h.2.2.2.2.2.2.2.2.2 (Nat.not_lt_zero _)
 |succ n ih=>
 intro a ts X ln len j z sub pl M lo A L P R Q v H Z h
 subst H
 refine .of (t:=ZE) rfl ?_
 conv=>arg 3;reduce
 refine lt j len (fun t1=>?_) fun t1=>?_
 ·refine Dy j 0 ?_
  refine CJ j ln ?_
  obtain ⟨ac,Y,ad,ab,aa,I,C,N,ai,ao,ah⟩:=v.get j om om
  refine el N ?_
  obtain ⟨_,rfl,G3⟩:=B C ac Y ad ab ((E.Ab I).length:Int) z sub pl M lo aa A (E.Ab I) P R asm rfl kn
  refine ch G3 ?_
  refine BM 0 0 ?_
  refine dL (Q++[[PV.int .i64 C]]) (fun x e4=>?_) (Bi (pw X Q) pe)
  have f4:=cL e4;try simp only [lA,lC,lN,lT']at f4
  refine Ew (x.length:Int) 1048576 ?_
  obtain ⟨_,(⟨rfl,ag⟩|⟨af,ae,rfl,rfl,rfl⟩),q⟩:=ih ts (x.length:Int) ln len (j+1) z sub pl M lo A (E.Ab a) P R x v rfl (by subst_vars;exact Ib asm om) kn
  ·refine cm q ?_
   refine cm q ?_
   refine ch q ?_
   exact Ai ⟨[(x.length:Int)],[],[x],[]⟩ (.inr ((⟨_,_,rfl,(by first|rfl|assumption|(subst_vars;assumption)),(by first|rfl|(have e:=‹_=ts.map B3›;rw [e];exact Ts.CQ))⟩)))
  refine cm q ?_
  refine cm q ?_
  refine cm q ?_
  refine ch q ?_
  exact Ai ⟨[(ts.length:Int)],[],[(ts.map B3)],[]⟩ (.inr ((⟨_,_,rfl,(by first|rfl|assumption|(subst_vars;assumption)),(by first|rfl|(have e:=‹_=ts.map B3›;rw [e];exact Ts.CQ))⟩)))
 exact Ai v0 (.inl (⟨rfl,(Z.trans (v.end om))⟩))
theorem Amg:Ant 141 147:=fun {m} {Γ} {al} {fl} {Ar} {Fs} {mp} hC hC141 {a} ts ql ln len j grp sub pl bl lo knm L P R Q hTs hLa hQ h=>Aj6 hC @hC141 ((len-j).toNat+1) ts ql ln len j grp sub pl bl lo knm L P R Q hTs hLa hQ ⟨h.1,h.2.1,h.2.2.1,h.2.2.2.1,h.2.2.2.2.1,h.2.2.2.2.2.1,h.2.2.2.2.2.2.1,h.2.2.2.2.2.2.2.1,h.2.2.2.2.2.2.2.2,Nat.lt_succ_self _⟩
abbrev Anv:=@Afr
theorem Ami:Anv 141 144:=by
 intro m Γ al fl Ar Fs mp hC v a ts ln len j A sub pl O lo C L P R x Q h
 subst Q;obtain ⟨h1,h2,rfl,rfl,h5⟩:=h
 refine .of (t:=ZG) rfl ?_
 conv=>arg 3;reduce
 refine lt 0 len (fun t1=>?_) fun t1=>?_
 ·refine Dy 0 0 ?_
  refine CJ 0 len ?_
  obtain ⟨V,M,X,U,N,B,z,H,ad,ah,ac⟩:=x.get 0 om om
  refine el H ?_
  obtain ⟨_,rfl,G3⟩:=v z V M X U ((E.Ab B).length:Int) A sub pl O lo N C (E.Ab B) P R asm rfl kn
  refine ch G3 ?_
  refine BM 0 0 ?_
  refine dL [[.int .i64 z]] (fun J e4=>?_)
  have f4:=cL e4;try simp only [lA,lC,lN,lT']at f4
  refine ll 1 J ?_
  obtain ⟨_,(⟨rfl,aa⟩|⟨Z,Y,rfl,rfl,rfl⟩),q⟩:=Amg hC @v ts 1 len len (0+1) A sub pl O lo C (E.Ab a) P R J x rfl (by subst_vars;exact (Ib (j:=0) asm om))
  ·refine cm q ?_
   refine cm q ?_
   refine ch q ?_
   exact Ai ⟨[1],[],[J],[]⟩ (.inr ((⟨_,_,rfl,(by first|rfl|(subst_vars;first|rfl|assumption)),(by first|rfl|(have e:=‹_=ts.map B3›;have I:=Ts.CQ (ts:=ts);rw [<-e]at I;omega) |(subst_vars;first|rfl|simp))⟩)))
  refine cm q ?_
  refine cm q ?_
  refine cm q ?_
  refine ch q ?_
  exact Ai ⟨[(ts.length:Int)],[],[(ts.map B3)],[]⟩ (.inr ((⟨_,_,rfl,(by first|rfl|(subst_vars;first|rfl|assumption)),(by first|rfl|(have e:=‹_=ts.map B3›;have I:=Ts.CQ (ts:=ts);rw [<-e]at I;omega) |(subst_vars;first|rfl|simp))⟩)))
 exact Ai v0 (.inl (⟨rfl,(x.none om)⟩))
abbrev Anw:=@Afs
theorem L3:Anw 141 143:=by
 intro m Γ Q fl U O V J j a ts ln z sub pl M lo B L P R A x h
 subst x;have N:=Ts.CQ (ts:=ts)
 refine .of (t:=ZH) rfl ?_
 conv=>arg 3;reduce
 obtain ⟨_,(⟨rfl,H⟩|⟨C,I,rfl,rfl,rfl⟩),q⟩:=Ami J @j ts ln ln 0 z sub pl M lo B (E.Ab a) P R A rfl
 ·refine ch q ?_
  refine de [] ?_
  refine ll 0 [] ?_
  exact Ai ⟨[0,0],[],[[]],[]⟩ (⟨_,_,rfl,(by first|rfl|(subst_vars;first|rfl|assumption)),(by first|rfl|(have e:=‹_=ts.map B3›;have v:=Ts.CQ (ts:=ts);rw [<-e]at v;omega) |(subst_vars;first|rfl|simp))⟩)
 refine cm q ?_
 refine cm q ?_
 refine ch q ?_
 refine ll (ts.length:Int) (ts.map B3) ?_
 refine fr ?_
 exact Ai ⟨[(ts.length:Int),0],[],[(ts.map B3)],[]⟩ (⟨_,_,rfl,(by first|rfl|(subst_vars;first|rfl|assumption)),(by first|rfl|(have e:=‹_=ts.map B3›;have v:=Ts.CQ (ts:=ts);rw [<-e]at v;omega) |(subst_vars;first|rfl|simp))⟩)
theorem Aj7 {Γ:Ctx} {al fl:Int} {Ar Fs:Rs} {mp:Mp} (L:Ck Γ al fl Ar Fs mp) (n:Nat):Afw 141 Γ al fl Ar Fs mp n:=by
 induction n with
 |zero=>intro a t k o ty v ln J sub pl X lo s I A P R hT hA h;exact absurd h.2 (Nat.not_lt_zero _)
 |succ n ih=>
 intro a t k o ty v ln J sub pl X lo s I A P R hT hA h
 subst hA;have e2:=Dx (k:=k) (o:=o) (ty:=ty) (v:=v) (s:=s) (a:=a);have M:ln=(a.length:Int):=by have:=h.1;rw [E.AA]at this;exact this
 rcases hT.inv with hv|hv|hv|hv|hv|hv|hv|hv
 ·obtain ⟨rfl,rfl,rfl,rfl,rfl,r1,r2,r3,r4,r5,r6⟩:=hv;simp only [lC,lN]at M;have Z:E.Ad []=0:=rfl
  refine .of (t:=I1) rfl ?_
  conv=>arg 3;reduce
  obtain ⟨_,⟨bc,aY,rfl,rfl,rfl⟩,G1⟩:=L3 L @ih [] ln J sub pl X lo I (E.Ab []) P R (by exact .nil) rfl
  refine ch G1 ?_
  refine BM 0 0 ?_
  refine B4 1 1 ?_
  first|exact Ai ⟨[ty,0],[],[],[]⟩ (rfl) |(exfalso;omega)
 ·obtain ⟨rfl,rfl,rfl,rfl,rfl,rfl,r1,r2⟩:=hv;simp only [lC,lN]at M;have Z:E.Ad []=0:=rfl
  refine .of (t:=I1) rfl ?_
  conv=>arg 3;reduce
  obtain ⟨_,⟨aN,ba,rfl,rfl,rfl⟩,G2⟩:=L3 L @ih [] ln J sub pl X lo I (E.Ab []) P R (by exact .nil) rfl
  refine ch G2 ?_
  refine BM 0 0 ?_
  refine AE 3 1 ?_
  refine B4 3 3 ?_
  first|exact Ai ⟨[1,0],[],[],[]⟩ (rfl) |(exfalso;omega)
 ·obtain ⟨rfl,rfl,rfl,rfl,rfl,hs,kk,ii,hk,r1,r2,hg⟩:=hv;simp only [lC,lN]at M;have Z:E.Ad []=0:=rfl
  refine .of (t:=I1) rfl ?_
  conv=>arg 3;reduce
  obtain ⟨_,⟨aZ,a1,rfl,rfl,rfl⟩,G3⟩:=L3 L @ih [] ln J sub pl X lo I (E.Ab []) P R (by exact .nil) rfl
  refine ch G3 ?_
  refine BM 0 0 ?_
  refine AE 2 1 ?_
  refine AE 2 3 ?_
  refine AE 2 4 ?_
  refine AE 2 5 ?_
  refine AE 2 6 ?_
  refine B4 2 2 ?_
  refine lh (L.look hg) ?_
  refine eq kk 2 (fun t4=>?_) fun t4=>?_
  ·first|exact Ai ⟨[t,0],[],[],[]⟩ (rfl) |(exfalso;omega)
  refine eq kk 3 (fun t5=>?_) fun t5=>?_
  ·first|exact Ai ⟨[t,0],[],[],[]⟩ (rfl) |(exfalso;omega)
  first|exact Ai ⟨[0,30],[],[],[]⟩ (rfl) |(exfalso;omega)
 ·obtain ⟨rfl,rfl,rfl,rfl,B,H,j,v1,q,C,w,rfl,hu,Y⟩:=hv;simp only [lC,lN]at M;have Z:=n1 (x:=.node B H j v1 q C);have e4:=g1 (x:=.node B H j v1 q C);have hr:=hu.XJ
  refine .of (t:=I1) rfl ?_
  conv=>arg 3;reduce
  obtain ⟨_,⟨aV,a5,rfl,rfl,rfl⟩,G6⟩:=L3 L @ih [w] ln J sub pl X lo I (E.Ab [.node B H j v1 q C]) P R (by exact .cons Y .nil) rfl
  refine ch G6 ?_
  refine BM 0 0 ?_
  refine AE 4 1 ?_
  refine AE 4 3 ?_
  refine B4 4 4 ?_
  refine CJ 0 ([w].length:Int) ?_
  refine el (j':=0) rfl ?_
  obtain ⟨_,rfl,G7⟩:=Xv t o w hu
  refine ch G7 ?_
  first|exact Ai ⟨[t,0],[],[],[]⟩ (rfl) |(exfalso;omega)
 ·obtain ⟨rfl,rfl,rfl,rfl,B,H,j,v1,q,C,O,V,Q,N,U,b2,w,rfl,hu,Y,h2⟩:=hv;simp only [lC,lN]at M;have Z:=n2 (x:=.node B H j v1 q C) (y:=.node O V Q N U b2);have e4:=g2 (x:=.node B H j v1 q C) (y:=.node O V Q N U b2);have hr:=hu.XJ
  refine .of (t:=I1) rfl ?_
  conv=>arg 3;reduce
  obtain ⟨_,⟨a6,a3,rfl,rfl,rfl⟩,G8⟩:=L3 L @ih [w,w] ln J sub pl X lo I (E.Ab [.node B H j v1 q C,.node O V Q N U b2]) P R (by exact .cons Y (.cons h2 .nil)) rfl
  refine ch G8 ?_
  refine BM 0 0 ?_
  refine AE 5 1 ?_
  refine AE 5 3 ?_
  refine AE 5 4 ?_
  refine B4 5 5 ?_
  refine CJ 0 ([w,w].length:Int) ?_
  refine el (j':=0) rfl ?_
  refine CJ 1 ([w,w].length:Int) ?_
  refine el (j':=1) rfl ?_
  obtain ⟨_,rfl,G9⟩:=TO t o w w hu rfl
  refine ch G9 ?_
  first|exact Ai ⟨[t,0],[],[],[]⟩ (rfl) |(exfalso;omega)
 ·obtain ⟨rfl,rfl,rfl,rfl,rfl,B,H,j,v1,q,C,O,V,Q,N,U,b2,k3,o3,t3,v3,s3,b3,rfl,Y,h2,h3⟩:=hv;simp only [lC,lN]at M;have Z:=n3 (x:=.node B H j v1 q C) (y:=.node O V Q N U b2) (z:=.node k3 o3 t3 v3 s3 b3);have e4:=g3 (x:=.node B H j v1 q C) (y:=.node O V Q N U b2) (z:=.node k3 o3 t3 v3 s3 b3)
  refine .of (t:=I1) rfl ?_
  conv=>arg 3;reduce
  obtain ⟨_,⟨aL,aH,rfl,rfl,rfl⟩,ay⟩:=L3 L @ih [3,t,t] ln J sub pl X lo I (E.Ab [.node B H j v1 q C,.node O V Q N U b2,.node k3 o3 t3 v3 s3 b3]) P R (by exact .cons Y (.cons h2 (.cons h3 .nil))) rfl
  refine ch ay ?_
  refine BM 0 0 ?_
  refine AE 6 1 ?_
  refine AE 6 3 ?_
  refine AE 6 4 ?_
  refine AE 6 5 ?_
  refine B4 6 6 ?_
  refine CJ 0 ([3,t,t].length:Int) ?_
  refine el (j':=0) rfl ?_
  refine BM 3 3 ?_
  refine CJ 1 ([3,t,t].length:Int) ?_
  refine el (j':=1) rfl ?_
  refine CJ 2 ([3,t,t].length:Int) ?_
  refine el (j':=2) rfl ?_
  refine BM t t ?_
  first|exact Ai ⟨[t,0],[],[],[]⟩ (rfl) |(exfalso;omega)
 ·obtain ⟨rfl,rfl,rfl,rfl,hs,B,H,j,v1,q,C,ii,rfl,r1,r2,hg,Y⟩:=hv;simp only [lC,lN]at M;have Z:=n1 (x:=.node B H j v1 q C);have e4:=g1 (x:=.node B H j v1 q C)
  refine .of (t:=I1) rfl ?_
  conv=>arg 3;reduce
  obtain ⟨_,⟨aI,aJ,rfl,rfl,rfl⟩,aw⟩:=L3 L @ih [1] ln J sub pl X lo I (E.Ab [.node B H j v1 q C]) P R (by exact .cons Y .nil) rfl
  refine ch aw ?_
  refine BM 0 0 ?_
  refine AE 7 1 ?_
  refine AE 7 3 ?_
  refine AE 7 4 ?_
  refine AE 7 5 ?_
  refine AE 7 6 ?_
  refine AE 7 2 ?_
  refine B4 7 7 ?_
  refine lh (L.look hg) ?_
  refine B4 0 0 ?_
  refine CJ 0 ([1].length:Int) ?_
  refine el (j':=0) rfl ?_
  refine BM 1 1 ?_
  first|exact Ai ⟨[t,0],[],[],[]⟩ (rfl) |(exfalso;omega)
 ·obtain ⟨rfl,rfl,rfl,rfl,rfl,B,H,j,v1,q,C,O,V,Q,N,U,b2,ii,rfl,rfl,hg,Y,h2⟩:=hv;simp only [lC,lN]at M;have Z:=n2 (x:=.node B H j v1 q C) (y:=.node O V Q N U b2);have e4:=g2 (x:=.node B H j v1 q C) (y:=.node O V Q N U b2);obtain ⟨be,bf,F_,kf,aq,yf,wf,sf,Af,aj⟩:=L.fn _ hg;have bg:(Ez.length:Int)=2:=rfl
  refine .of (t:=I1) rfl ?_
  conv=>arg 3;reduce
  obtain ⟨_,⟨aG,aK,rfl,rfl,rfl⟩,aC⟩:=L3 L @ih [1,1] ln J sub pl X lo I (E.Ab [.node B H j v1 q C,.node O V Q N U b2]) P R (by exact .cons Y (.cons h2 .nil)) rfl
  refine ch aC ?_
  refine BM 0 0 ?_
  refine AE 8 1 ?_
  refine AE 8 3 ?_
  refine AE 8 4 ?_
  refine AE 8 5 ?_
  refine AE 8 6 ?_
  refine AE 8 2 ?_
  refine AE 8 7 ?_
  refine B4 8 8 ?_
  refine lh (L.look hg) ?_
  refine B4 1 1 ?_
  refine Dy ii 0 ?_
  refine CJ ii fl ?_
  refine el aj ?_
  obtain ⟨_,rfl,aA⟩:=Amh L (Ez.length:Int) 1 (F_.length:Int) kf aq yf wf (Af.length:Int) ([1,1].length:Int) J sub pl X lo [104] sf I Ez F_ Af ([1,1].map B3) P R rfl rfl
  refine ch aA ?_
  first|exact Ai ⟨[1,0],[],[],[]⟩ (rfl) |(exfalso;omega)
theorem Afj:Anz 141:=fun {Γ} {al} {fl} {Ar} {Fs} {mp} hC {a} t k o ty v ln grp sub pl bl lo s knm A P R hT hA h=>Aj7 hC ((E.node k o ty v s a).high+1) t k o ty v ln grp sub pl bl lo s knm A P R hT hA ⟨h,Nat.lt_succ_self _⟩
abbrev Anx:=@Aft
theorem Xu:Anx 142:=by
 intro Γ J fl L I M x a k o ty v ln t j sub pl z lo s q A P R B C h
 refine .of (t:=ZI) rfl ?_
 conv=>arg 3;reduce
 obtain ⟨_,rfl,H⟩:=Afj x t k o ty v ln j sub pl z lo s q A P R B C
 refine ch H ?_
 refine B4 0 0 ?_
 refine BM t t ?_
 exact Ai ⟨[0],[],[],[]⟩ (rfl)
def An3 (N:Nat):Prop:=∀{Γ:Ctx} {lp pu:Int} {Γ1:Ctx} {H ya:List E} {Z el:List S} (k o:Int) (t b:Int) (xk xo:Int) (U xw:Int) (xl yk:Int) (M O:Int) (L Q:Int) (j v:Int) (V sub:Int) (B pl:Int) (fl bl lo:Int) (nm I:List Nat) (J af:List Nat) (X Y:Rs) (z A:Rs) (C P:Rs) (x R:Rs) (mp:Mp) (hC:Ck Γ B fl C x mp) (hS:Fk lp pu Γ (.node k o t b nm (.node xk xo U xw I H) (.node yk M O L J ya) Z el) Γ1) (hX:X=E.Ab H) (hY:Y=E.Ab ya) (hB:z=S.Ab Z) (hE:A=S.Ab el) (h:xl=X.length/\Q=Y.length/\j=z.length/\v=A.length/\k=1:=by exact kn),Ok trees N ⟨[k,o,t,b,xk,xo,U,xw,xl,yk,M,O,L,Q,j,v,V,sub,B,pl,fl,bl,lo],[nm,I,J,af],[X,Y,z,A,C,P,x,R],[mp]⟩ fun zz=>(∃(q:Mp),zz=(0,(⟨[0],[],[],[q]⟩:Aj))/\(Ck Γ1 B fl C x q))
theorem Amm:An3 137:=by
 intro Γ lp pu Γ1 z ya bo el k o t b L U J M N yk yo yt yw yl Z aa v sub al pl fl C lo nm A yn x X Y Bo El Ar P Fs R V j O B H hB I h
 subst B;subst H;subst hB;subst I;obtain ⟨_,_,_,_,_,hn,q,r1,r2,hx,_,rfl⟩:=O.All om
 refine .of (t:=ZM) rfl ?_
 conv=>arg 3;reduce
 obtain ⟨_,rfl,Q⟩:=Afj j t L U J M N v sub pl C lo A x (E.Ab z) P R asm rfl
 refine ch Q ?_
 refine BM 0 0 ?_
 refine lm (j.Ali q) ?_
 refine up [.int .i64 3,.int .i64 t,.int .i64 0] ?_
 refine BM t t ?_
 first|exact Ai ⟨[0],[],[],[(By V nm [.int .i64 3,.int .i64 t,.int .i64 0])]⟩ (⟨_,rfl,(j.Ld q)⟩) |(exfalso;omega)
def An2 (N:Nat):Prop:=∀{Γ:Ctx} {lp pu:Int} {Γ1:Ctx} {z ya:List E} {U el:List S} (k o:Int) (t b:Int) (V xo:Int) (O xw:Int) (xl yk:Int) (I J:Int) (H L:Int) (j q:Int) (Q sub:Int) (M pl:Int) (fl bl lo:Int) (nm A:List Nat) (C ae:List Nat) (X Y:Rs) (v x:Rs) (Z P:Rs) (B R:Rs) (mp:Mp) (hC:Ck Γ M fl Z B mp) (hS:Fk lp pu Γ (.node k o t b nm (.node V xo O xw A z) (.node yk I J H C ya) U el) Γ1) (hX:X=E.Ab z) (hY:Y=E.Ab ya) (hB:v=S.Ab U) (hE:x=S.Ab el) (h:xl=X.length/\L=Y.length/\j=v.length/\q=x.length/\k=2:=by exact kn),Ok trees N ⟨[k,o,t,b,V,xo,O,xw,xl,yk,I,J,H,L,j,q,Q,sub,M,pl,fl,bl,lo],[nm,A,C,ae],[X,Y,v,x,Z,P,B,R],[mp]⟩ fun zz=>(zz=(0,(⟨[0],[],[],[]⟩:Aj)))
theorem Aml:An2 138:=by
 intro Γ lp pu Γ1 x ya bo el k o t b L U J M N yk yo yt yw yl V Z q sub al pl fl C lo nm z yn v X Y Bo El Ar P Fs R mp j O A H hB I h
 subst A;subst H;subst hB;subst I;obtain ⟨_,_,_,_,_,_,hn,rfl,u,i,B,hx,_⟩:=O.Alm om
 refine .of (t:=ZL) rfl ?_
 conv=>arg 3;reduce
 refine lh (j.look B) ?_
 refine B4 3 3 ?_
 obtain ⟨_,rfl,Q⟩:=Xu j L U J M N u q sub pl C lo z v (E.Ab x) P R asm rfl
 refine ch Q ?_
 first|exact Ai ⟨[0],[],[],[]⟩ (rfl) |(exfalso;omega)
def Kh (N n:Nat):Prop:=∀{Γ:Ctx} {B x:Int} {I:Ctx} {l:List S} (ln z:Int) (sub v:Int) (pl fl:Int) (J lo:Int) (C:List Nat) (L A:Rs) (P q R:Rs) (H:Mp) (Q:Ck Γ v fl A q H) (U:Fm B x Γ l I) (O:L=S.Ab l) (h:ln=L.length/\ln<=200000/\(B=0∨1<=lo)/\0<=lo/\lo+S.Az l<=1000/\S.Ad l<=200000/\x=1/\S.Az l<n),Ok trees N ⟨[ln,z,sub,v,pl,fl,J,lo],[C],[L,A,P,q,R],[H]⟩ fun M=>(∃(j:Int),M=(0,(⟨[0,j],[],[],[]⟩:Aj))/\(lo=j))
def Afn (N:Nat):Prop:=∀{Γ:Ctx} {B x:Int} {I:Ctx} {l:List S} (ln z:Int) (sub v:Int) (pl fl:Int) (J lo:Int) (C:List Nat) (L A:Rs) (P q R:Rs) (H:Mp) (Q:Ck Γ v fl A q H) (U:Fm B x Γ l I) (O:L=S.Ab l) (h:ln=L.length/\ln<=200000/\(B=0∨1<=lo)/\0<=lo/\lo+S.Az l<=1000/\S.Ad l<=200000/\x=1:=by exact kn),Ok trees N ⟨[ln,z,sub,v,pl,fl,J,lo],[C],[L,A,P,q,R],[H]⟩ fun M=>(∃(j:Int),M=(0,(⟨[0,j],[],[],[]⟩:Aj))/\(lo=j))
theorem Kh.of {N n:Nat} (H:Afn N):Kh N n:=fun {Γ} {lp} {pu} {Γe} {l} ln grp sub al pl fl bl lo knm L Ar P Fs R mp hC hO hLs h=>H ln grp sub al pl fl bl lo knm L Ar P Fs R mp hC hO hLs (by have:=h;omega)
def An1 (B N:Nat):Prop:=∀{m:Nat} (ak:Kh B m) {Γ:Ctx} {O Z:Int} {Γ1:Ctx} {C ya:List E} {v el:List S} (k o:Int) (t b:Int) (xk xo:Int) (xt xw:Int) (xl yk:Int) (M Q:Int) (L U:Int) (j q:Int) (ab sub:Int) (V pl:Int) (fl bl lo:Int) (nm H:List Nat) (J ai:List Nat) (X Y:Rs) (z A:Rs) (Ar P:Rs) (I R:Rs) (mp:Mp) (hC:Ck Γ V fl Ar I mp) (hS:Fk O Z Γ (.node k o t b nm (.node xk xo xt xw H C) (.node yk M Q L J ya) v el) Γ1) (hX:X=E.Ab C) (hY:Y=E.Ab ya) (hB:z=S.Ab v) (hE:A=S.Ab el) (h:xl=X.length/\U=Y.length/\j=z.length/\q=A.length/\(O=0∨1<=lo)/\0<=lo/\lo+max (S.Az v) (S.Az el)<=1000/\S.Ad v<=200000/\S.Ad el<=200000/\S.Az v<m/\S.Az el<m/\j<=200000/\q<=200000/\k=5/\Z=1:=by exact kn),Ok trees N ⟨[k,o,t,b,xk,xo,xt,xw,xl,yk,M,Q,L,U,j,q,ab,sub,V,pl,fl,bl,lo],[nm,H,J,ai],[X,Y,z,A,Ar,P,I,R],[mp]⟩ fun zz=>(∃(x:Int),zz=(0,(⟨[0,x],[],[],[]⟩:Aj))/\(lo=x))
theorem Amk:An1 149 139:=by
 intro m j Γ lp pu Γ1 L ya bo el k o t b xk xo xt xw xl yk yo yt yw yl A H q sub C pl fl z lo nm M yn v X Y Bo El I P B R J x hS O V hB Z h
 subst O;subst V;subst hB;subst Z;obtain ⟨_,_,_,_,_,hx,_,rfl,Γa,Γb,aj,ak⟩:=hS.kif om
 refine .of (t:=ZK) rfl ?_
 conv=>arg 3;reduce
 obtain ⟨_,rfl,G1⟩:=Xu x xk xo xt xw xl 3 q sub pl z lo M v (E.Ab L) P R asm rfl
 refine ch G1 ?_
 refine B4 0 0 ?_
 obtain ⟨_,⟨Q,rfl,rfl⟩,G2⟩:=j A q sub C pl fl z lo v (S.Ab bo) I P B R J x asm rfl kn
 refine ch G2 ?_
 refine B4 0 0 ?_
 obtain ⟨_,⟨N,rfl,rfl⟩,U⟩:=j H q sub C pl fl z lo v (S.Ab el) I P B R J x asm rfl kn
 refine ch U ?_
 first|exact Ai ⟨[0,lo],[],[],[]⟩ (⟨_,rfl,kn⟩) |(exfalso;omega)
def An0 (B N:Nat):Prop:=∀{m:Nat} (ak:Kh B m) {Γ:Ctx} {O Z:Int} {Γ1:Ctx} {C ya:List E} {j el:List S} (k o:Int) (t b:Int) (xk xo:Int) (xt xw:Int) (xl yk:Int) (M Q:Int) (L U:Int) (q v:Int) (ab sub:Int) (V pl:Int) (fl bl lo:Int) (nm H:List Nat) (J ai:List Nat) (X Y:Rs) (z A:Rs) (Ar P:Rs) (I R:Rs) (mp:Mp) (hC:Ck Γ V fl Ar I mp) (hS:Fk O Z Γ (.node k o t b nm (.node xk xo xt xw H C) (.node yk M Q L J ya) j el) Γ1) (hX:X=E.Ab C) (hY:Y=E.Ab ya) (hB:z=S.Ab j) (hE:A=S.Ab el) (h:xl=X.length/\U=Y.length/\q=z.length/\v=A.length/\(O=0∨1<=lo)/\0<=lo/\lo+1+S.Az j<=1000/\S.Az j<m/\q<=200000/\S.Ad j<=200000/\S.Ad j<=200000/\k=6/\Z=1:=by exact kn),Ok trees N ⟨[k,o,t,b,xk,xo,xt,xw,xl,yk,M,Q,L,U,q,v,ab,sub,V,pl,fl,bl,lo],[nm,H,J,ai],[X,Y,z,A,Ar,P,I,R],[mp]⟩ fun zz=>(∃(x:Int),zz=(0,(⟨[0,x],[],[],[]⟩:Aj))/\(lo=x))
theorem Amj:An0 149 140:=by
 intro m j Γ lp pu Γ1 I ya Z el k o t b xk xo V xw xl yk yo yt yw yl x aj q sub U pl fl A lo nm J yn v X Y Bo El Ar P L R mp z hS M O hB Q h
 subst M;subst O;subst hB;subst Q;obtain ⟨_,_,_,_,_,hx,_,b1,b2,rfl,Γa,ai⟩:=hS.Alk om
 refine .of (t:=ZJ) rfl ?_
 conv=>arg 3;reduce
 obtain ⟨_,rfl,G1⟩:=Xu z xk xo V xw xl 3 q sub pl A lo J v (E.Ab I) P R asm rfl
 refine ch G1 ?_
 refine BM 0 0 ?_
 refine lt b 1 (fun C=>?_) fun C=>?_
 ·first|exact Ai ⟨[1,lo],[],[],[]⟩ (⟨_,rfl,kn⟩) |(exfalso;omega)
 refine gt b 1024 (fun H=>?_) fun H=>?_
 ·first|exact Ai ⟨[1,lo],[],[],[]⟩ (⟨_,rfl,kn⟩) |(exfalso;omega)
 obtain ⟨_,⟨B,rfl,rfl⟩,N⟩:=j x q sub U pl fl A (lo+1) v (S.Ab Z) Ar P L R mp z asm rfl kn
 refine ch N ?_
 first|exact Ai ⟨[0,((lo+1)-1)],[],[],[]⟩ (⟨_,rfl,kn⟩) |(exfalso;omega)
def Aoh (U N:Nat) (m n:Nat):Prop:=∀{Γ:Ctx} {I B:Int} {H:Ctx} {l:List S} (ln len:Int) (j C:Int) (sub z:Int) (pl fl:Int) (O lo:Int) (J:List Nat) (L A:Rs) (P x R:Rs) (M:Mp) (X:Ck Γ z fl A x M) (Y:Fm I B Γ (l.drop j.toNat) H) (V:L=S.Ab l) (h:ln=L.length/\ln<=200000/\len=ln/\0<=j/\(I=0∨1<=lo)/\0<=lo/\lo+S.Az (l.drop j.toNat)<=1000/\S.Az (l.drop j.toNat)<=m/\S.Ad (l.drop j.toNat)<=200000/\B=1/\(len-j).toNat<n),Ok trees N ⟨[ln,len,j,C,sub,z,pl,fl,O,lo],[J],[L,A,P,x,R],[M]⟩ fun Q=>(∃(v:Int),∃(q:Mp),Q=(1,(⟨[v],[],[],[q]⟩:Aj))/\(Ck H z fl A x q)/\(lo=v))
def An4 (B N:Nat):Prop:=∀{m:Nat} (Q:Kh B m) {Γ:Ctx} {J C:Int} {I:Ctx} {l:List S} (ln len:Int) (j H:Int) (sub z:Int) (pl fl:Int) (U lo:Int) (M:List Nat) (L A:Rs) (P x R:Rs) (O:Mp) (Y:Ck Γ z fl A x O) (Z:Fm J C Γ (l.drop j.toNat) I) (X:L=S.Ab l) (h:ln=L.length/\ln<=200000/\len=ln/\0<=j/\(J=0∨1<=lo)/\0<=lo/\lo+S.Az (l.drop j.toNat)<=1000/\S.Az (l.drop j.toNat)<=m/\S.Ad (l.drop j.toNat)<=200000/\C=1:=by exact kn),Ok trees N ⟨[ln,len,j,H,sub,z,pl,fl,U,lo],[M],[L,A,P,x,R],[O]⟩ fun V=>(∃(v:Int),∃(q:Mp),V=(1,(⟨[v],[],[],[q]⟩:Aj))/\(Ck I z fl A x q)/\(lo=v))
theorem Aj9 {m:Nat} (ai:Kh 149 m) (n:Nat):Aoh 149 135 m n:=by
 induction n with
 |zero=>intro Γ lp pu Γe l ln len j C sub O pl fl N lo B L Q P M R U A H az h;exact absurd h.2.2.2.2.2.2.2.2.2.2 (Nat.not_lt_zero _)
 |succ n ih=>
 intro Γ lp pu Γe l ln len j C sub O pl fl N lo B L Q P M R U A H az h
 subst az
 refine .of (t:=ZO) rfl ?_
 conv=>arg 3;reduce
 refine lt j len (fun t1=>?_) fun t1=>?_
 ·refine Dy j 0 ?_
  refine CJ j ln ?_
  obtain ⟨v,ah,ak,aj,ac,Y,af,Z,V,ad,I,X,ag,ab,aa,ae,J,z,x,bf,aC,q,bj,br,bA⟩:=Fm.get j H om om
  refine el aC ?_
  have bx:=q.AeR;have aZ:=S.len z;have a6:=S.len x;have a5:=S.AA z;have ba:=S.AA x;have a3:=q.pure
  refine eq v 1 (fun t3=>?_) fun t3=>?_
  ·obtain ⟨_,⟨aD,rfl,aB⟩,G4⟩:=Amm v ah ak aj Y af Z V ((E.Ab I).length:Int) X ag ab aa ((E.Ab J).length:Int) ((S.Ab z).length:Int) ((S.Ab x).length:Int) C sub O pl fl N lo ac ad ae B (E.Ab I) (E.Ab J) (S.Ab z) (S.Ab x) Q P M R U A q rfl rfl rfl rfl
   refine ch G4 ?_
   refine BM 0 0 ?_
   obtain ⟨_,⟨bv,aF,rfl,bn,rfl⟩,G5⟩:=ih ln len (j+1) C sub O pl fl N lo B (S.Ab l) Q P M R aD aB asm rfl kn
   refine cm G5 ?_
   refine ch G5 ?_
   exact Ai ⟨[lo],[],[],[aF]⟩ (⟨_,_,rfl,(by first|assumption|(obtain ⟨_,_,e⟩:=Bh (l:=l) (j:=j) om;rw [e]at H;cases H;exact A)),kn⟩)
  refine eq v 2 (fun t6=>?_) fun t6=>?_
  ·obtain ⟨_,rfl,G7⟩:=Aml v ah ak aj Y af Z V ((E.Ab I).length:Int) X ag ab aa ((E.Ab J).length:Int) ((S.Ab z).length:Int) ((S.Ab x).length:Int) C sub O pl fl N lo ac ad ae B (E.Ab I) (E.Ab J) (S.Ab z) (S.Ab x) Q P M R U A q rfl rfl rfl rfl
   refine ch G7 ?_
   refine BM 0 0 ?_
   obtain ⟨_,⟨bw,aE,rfl,bk,rfl⟩,G8⟩:=ih ln len (j+1) C sub O pl fl N lo B (S.Ab l) Q P M R U (A.keep q om) asm rfl kn
   refine cm G8 ?_
   refine ch G8 ?_
   exact Ai ⟨[lo],[],[],[aE]⟩ (⟨_,_,rfl,(by first|assumption|(obtain ⟨_,_,e⟩:=Bh (l:=l) (j:=j) om;rw [e]at H;cases H;exact A)),kn⟩)
  refine eq v 5 (fun t9=>?_) fun t9=>?_
  ·obtain ⟨_,⟨be,rfl,rfl⟩,aQ⟩:=Amk @ai v ah ak aj Y af Z V ((E.Ab I).length:Int) X ag ab aa ((E.Ab J).length:Int) ((S.Ab z).length:Int) ((S.Ab x).length:Int) C sub O pl fl N lo ac ad ae B (E.Ab I) (E.Ab J) (S.Ab z) (S.Ab x) Q P M R U A q rfl rfl rfl rfl
   refine ch aQ ?_
   refine BM 0 0 ?_
   obtain ⟨_,⟨bc,an,rfl,a9,rfl⟩,ax⟩:=ih ln len (j+1) C sub O pl fl N lo B (S.Ab l) Q P M R U (A.keep q om) asm rfl kn
   refine cm ax ?_
   refine ch ax ?_
   exact Ai ⟨[lo],[],[],[an]⟩ (⟨_,_,rfl,(by first|assumption|(obtain ⟨_,_,e⟩:=Bh (l:=l) (j:=j) om;rw [e]at H;cases H;exact A)),kn⟩)
  refine eq v 6 (fun aO=>?_) fun aO=>?_
  ·obtain ⟨_,⟨aY,rfl,rfl⟩,aU⟩:=Amj @ai v ah ak aj Y af Z V ((E.Ab I).length:Int) X ag ab aa ((E.Ab J).length:Int) ((S.Ab z).length:Int) ((S.Ab x).length:Int) C sub O pl fl N lo ac ad ae B (E.Ab I) (E.Ab J) (S.Ab z) (S.Ab x) Q P M R U A q rfl rfl rfl rfl
   refine ch aU ?_
   refine BM 0 0 ?_
   obtain ⟨_,⟨a4,ao,rfl,bb,rfl⟩,aA⟩:=ih ln len (j+1) C sub O pl fl N lo B (S.Ab l) Q P M R U (A.keep q om) asm rfl kn
   refine cm aA ?_
   refine ch aA ?_
   exact Ai ⟨[lo],[],[],[ao]⟩ (⟨_,_,rfl,(by first|assumption|(obtain ⟨_,_,e⟩:=Bh (l:=l) (j:=j) om;rw [e]at H;cases H;exact A)),kn⟩)
  refine eq v 7 (fun aJ=>?_) fun aJ=>?_
  ·refine eq lo 0 (fun aH=>?_) fun aH=>?_
   ·exact dead
   obtain ⟨_,⟨a7,aq,rfl,a2,rfl⟩,aw⟩:=ih ln len (j+1) C sub O pl fl N lo B (S.Ab l) Q P M R U (A.keep q om) asm rfl kn
   refine cm aw ?_
   refine ch aw ?_
   exact Ai ⟨[lo],[],[],[aq]⟩ (⟨_,_,rfl,(by first|assumption|(obtain ⟨_,_,e⟩:=Bh (l:=l) (j:=j) om;rw [e]at H;cases H;exact A)),kn⟩)
  refine eq v 8 (fun aV=>?_) fun aV=>?_
  ·refine eq lo 0 (fun aK=>?_) fun aK=>?_
   ·exact dead
   obtain ⟨_,⟨a8,ap,rfl,aX,rfl⟩,av⟩:=ih ln len (j+1) C sub O pl fl N lo B (S.Ab l) Q P M R U (A.keep q om) asm rfl kn
   refine cm av ?_
   refine ch av ?_
   exact Ai ⟨[lo],[],[],[ap]⟩ (⟨_,_,rfl,(by first|assumption|(obtain ⟨_,_,e⟩:=Bh (l:=l) (j:=j) om;rw [e]at H;cases H;exact A)),kn⟩)
  refine eq v 3 (fun aR=>?_) fun aR=>?_
  ·exact dead
  refine eq v 4 (fun aL=>?_) fun aL=>?_
  ·exact dead
  refine eq v 12 (fun aW=>?_) fun aW=>?_
  ·exact dead
  refine eq v 9 (fun aN=>?_) fun aN=>?_
  ·exact dead
  refine eq v 10 (fun aG=>?_) fun aG=>?_
  ·exact dead
  refine eq v 11 (fun aI=>?_) fun aI=>?_
  ·exact dead
  obtain ⟨_,⟨a1,au,rfl,a0,rfl⟩,ay⟩:=ih ln len (j+1) C sub O pl fl N lo B (S.Ab l) Q P M R U (A.keep q om) asm rfl kn
  refine cm ay ?_
  refine ch ay ?_
  exact Ai ⟨[lo],[],[],[au]⟩ (⟨_,_,rfl,(by first|assumption|(obtain ⟨_,_,e⟩:=Bh (l:=l) (j:=j) om;rw [e]at H;cases H;exact A)),kn⟩)
 exact Ai ⟨[lo],[],[],[U]⟩ (⟨_,_,rfl,(by first|assumption|(obtain ⟨_,_,e⟩:=Bh (l:=l) (j:=j) om;rw [e]at H;cases H;exact A)),kn⟩)
theorem Amo:An4 149 135:=fun {m} hC149 {Γ} {lp} {pu} {Γe} {l} ln len j grp sub al pl fl bl lo knm L Ar P Fs R mp hC hO hLs h=>Aj9 @hC149 ((len-j).toNat+1) ln len j grp sub al pl fl bl lo knm L Ar P Fs R mp hC hO hLs ⟨h.1,h.2.1,h.2.2.1,h.2.2.2.1,h.2.2.2.2.1,h.2.2.2.2.2.1,h.2.2.2.2.2.2.1,h.2.2.2.2.2.2.2.1,h.2.2.2.2.2.2.2.2.1,h.2.2.2.2.2.2.2.2.2,Nat.lt_succ_self _⟩
def An7 (A N:Nat):Prop:=∀{m:Nat} (O:Kh A m) {Γ:Ctx} {I B:Int} {H:Ctx} {l:List S} (ln C:Int) (sub x:Int) (pl fl:Int) (Q lo:Int) (J:List Nat) (L z:Rs) (P v R:Rs) (M:Mp) (X:Ck Γ x fl z v M) (Y:Fm I B Γ l H) (V:L=S.Ab l) (h:ln=L.length/\ln<=200000/\(I=0∨1<=lo)/\0<=lo/\lo+S.Az l<=1000/\S.Ad l<=200000/\S.Az l<=m/\B=1:=by exact kn),Ok trees N ⟨[ln,C,sub,x,pl,fl,Q,lo],[J],[L,z,P,v,R],[M]⟩ fun U=>(∃(q:Int),∃(j:Mp),U=(0,(⟨[0,q],[],[],[j]⟩:Aj))/\(Ck H x fl z v j)/\(lo=q))
theorem Afk:An7 149 130:=by
 intro m j Γ U X Y l ln x sub N pl fl I lo A L O P B R Q C M v h
 subst v;have Z:S.Az (l.drop (0:Int).toNat)=S.Az l:=rfl;have V:S.Ad (l.drop (0:Int).toNat)=S.Ad l:=rfl
 refine .of (t:=ZS) rfl ?_
 conv=>arg 3;reduce
 obtain ⟨_,⟨H,q,rfl,J,rfl⟩,z⟩:=Amo @j ln ln 0 x sub N pl fl I lo A (S.Ab l) O P B R Q C M rfl
 refine cm z ?_
 refine ch z ?_
 exact Ai ⟨[0,lo],[],[],[q]⟩ (⟨_,_,rfl,asm,kn⟩)
theorem Aj4 (n:Nat):Kh 149 n:=by
 induction n with
 |zero=>intro Γ M Q U l ln q sub C pl fl A lo v L H P x R I z B j h;exact absurd h.2.2.2.2.2.2.2 (Nat.not_lt_zero _)
 |succ n ih=>
 intro Γ M Q U l ln q sub C pl fl A lo v L H P x R I z B j h
 refine .of (t:=ZC) rfl ?_
 conv=>arg 3;reduce
 obtain ⟨_,⟨J,O,rfl,N,rfl⟩,V⟩:=Afk @ih ln q sub C pl fl A lo v L H P x R I z B j
 refine ch V ?_
 exact Ai ⟨[0,lo],[],[],[]⟩ (⟨_,rfl,kn⟩)
theorem Ame:Afn 149:=fun {Γ} {lp} {pu} {Γe} {l} ln grp sub al pl fl bl lo knm L Ar P Fs R mp hC hO hLs h=>Aj4 (S.Az l+1) ln grp sub al pl fl bl lo knm L Ar P Fs R mp hC hO hLs ⟨h.1,h.2.1,h.2.2.1,h.2.2.2.1,h.2.2.2.2.1,h.2.2.2.2.2.1,h.2.2.2.2.2.2,Nat.lt_succ_self _⟩
def Aop (N n:Nat):Prop:=∀(l:List Ae) (ok ln:Int) (len j:Int) (g1 I:Int) (Z p1:Int) (C O:Int) (g2 Q:Int) (a2 x:Int) (J X lo:Int) (M w2:List Nat) (L A:Rs) (R V:Rs) (H Y:Rs) (U z B:Rs) (v:Mp) (hL:L=Ay l) (hm:v=am (l.take j.toNat)) (hd:Za [] l) (h:ln=L.length/\len=ln/\0<=j/\j<=ln/\ln<=8/\(ln-j).toNat<n),Ok trees N ⟨[ok,ln,len,j,g1,I,Z,p1,C,O,g2,Q,a2,x,J,X,lo],[M,w2],[L,A,R,V,H,Y,U,z,B],[v]⟩ fun P=>(∃(q:Mp),P=(0,(⟨[],[],[],[q]⟩:Aj))/\(q=am l))
def AnQ (N:Nat):Prop:=∀(l:List Ae) (ok ln:Int) (len j:Int) (g1 J:Int) (Y p1:Int) (V H:Int) (g2 X:Int) (a2 C:Int) (O P lo:Int) (z w2:List Nat) (L Q:Rs) (x B:Rs) (I Z:Rs) (A M R:Rs) (v:Mp) (hL:L=Ay l) (hm:v=am (l.take j.toNat)) (hd:Za [] l) (h:ln=L.length/\len=ln/\0<=j/\j<=ln/\ln<=8:=by exact kn),Ok trees N ⟨[ok,ln,len,j,g1,J,Y,p1,V,H,g2,X,a2,C,O,P,lo],[z,w2],[L,Q,x,B,I,Z,A,M,R],[v]⟩ fun U=>(∃(q:Mp),U=(0,(⟨[],[],[],[q]⟩:Aj))/\(q=am l))
theorem AjK (n:Nat):Aop 106 n:=by
 induction n with
 |zero=>intro l ok ln len j g1 X a1 p1 N C g2 O a2 B Y Z lo A w2 L I Q U V A2 R H J mp P hm hd h;exact absurd h.2.2.2.2.2 (Nat.not_lt_zero _)
 |succ n ih=>
 intro l ok ln len j g1 X a1 p1 N C g2 O a2 B Y Z lo A w2 L I Q U V A2 R H J mp P hm hd h
 subst P;subst hm
 refine .of (t:=Aan) rfl ?_
 conv=>arg 3;reduce
 refine lt j len (fun t1=>?_) fun t1=>?_
 ·refine Dy j 0 ?_
  refine CJ j ln ?_
  obtain ⟨z,ag,v,aj,x,q⟩:=Im (l:=l) j om om
  refine el x ?_
  refine lm (Sd (M:=[]) hd q) ?_
  refine up [.int .i64 0,.int .i64 v,.int .i64 j] ?_
  obtain ⟨_,⟨ah,rfl,rfl⟩,G3⟩:=ih l ok ln len (j+1) g1 X a1 p1 N C g2 O a2 B Y Z lo A w2 (Ay l) I Q U V A2 R H J (By (am (l.take j.toNat)) z [.int .i64 0,.int .i64 v,.int .i64 j]) rfl (Ada (M:=[]) hd q om) hd kn
  refine ch G3 ?_
  exact Ai ⟨[],[],[],[(am l)]⟩ (⟨_,rfl,(by first|rfl|exact Se (M:=[]) om)⟩)
 exact Ai ⟨[],[],[],[(am (l.take j.toNat))]⟩ (⟨_,rfl,(by first|rfl|exact Se (M:=[]) om)⟩)
theorem AmA:AnQ 106:=fun l ok ln len j g1 P X p1 C x g2 H a2 v Q R lo q Y L A J N O V M z B Z I U hd h=>AjK ((ln-j).toNat+1) l ok ln len j g1 P X p1 C x g2 H a2 v Q R lo q Y L A J N O V M z B Z I U hd ⟨h.1,h.2.1,h.2.2.1,h.2.2.2.1,h.2.2.2.2,Nat.lt_succ_self _⟩
def Aoo (N n:Nat):Prop:=∀(l:List Pe) (M:NW) (ok ln:Int) (len j:Int) (g1 V:Int) (a1 p1:Int) (J A:Int) (g2 O:Int) (a2 z:Int) (X Y lo:Int) (x w2:List Nat) (L H:Rs) (P R:Rs) (U Z:Rs) (Q B I:Rs) (v:Mp) (hL:L=Ax l) (hm:v=M++pm (l.take j.toNat)) (hd:FrP M l) (h:ln=L.length/\len=ln/\0<=j/\j<=ln/\ln<=8/\(ln-j).toNat<n),Ok trees N ⟨[ok,ln,len,j,g1,V,a1,p1,J,A,g2,O,a2,z,X,Y,lo],[x,w2],[L,H,P,R,U,Z,Q,B,I],[v]⟩ fun C=>(∃(q:Mp),C=(0,(⟨[],[],[],[q]⟩:Aj))/\(q=M++pm l))
def AnP (N:Nat):Prop:=∀(l:List Pe) (M:NW) (ok ln:Int) (len j:Int) (g1 I:Int) (a1 p1:Int) (C P:Int) (g2 R:Int) (a2 x:Int) (J Y lo:Int) (O w2:List Nat) (L A:Rs) (U X:Rs) (H Z:Rs) (V z B:Rs) (v:Mp) (hL:L=Ax l) (hm:v=M++pm (l.take j.toNat)) (hd:FrP M l) (h:ln=L.length/\len=ln/\0<=j/\j<=ln/\ln<=8:=by exact kn),Ok trees N ⟨[ok,ln,len,j,g1,I,a1,p1,C,P,g2,R,a2,x,J,Y,lo],[O,w2],[L,A,U,X,H,Z,V,z,B],[v]⟩ fun Q=>(∃(q:Mp),Q=(0,(⟨[],[],[],[q]⟩:Aj))/\(q=M++pm l))
theorem AjJ (n:Nat):Aoo 107 n:=by
 induction n with
 |zero=>intro l M ok ln len j g1 X a1 p1 N C g2 O a2 B Y Z lo A w2 L I Q U V A2 R H J mp P hm hd h;exact absurd h.2.2.2.2.2 (Nat.not_lt_zero _)
 |succ n ih=>
 intro l M ok ln len j g1 X a1 p1 N C g2 O a2 B Y Z lo A w2 L I Q U V A2 R H J mp P hm hd h
 subst P;subst hm
 refine .of (t:=Aam) rfl ?_
 conv=>arg 3;reduce
 refine lt j len (fun t1=>?_) fun t1=>?_
 ·refine Dy j 0 ?_
  refine CJ j ln ?_
  obtain ⟨z,v,x,q⟩:=Ik (l:=l) j om om
  refine el x ?_
  refine lm (QN hd q) ?_
  refine up [.int .i64 2,.int .i64 v,.int .i64 0] ?_
  obtain ⟨_,⟨ag,rfl,rfl⟩,G3⟩:=ih l M ok ln len (j+1) g1 X a1 p1 N C g2 O a2 B Y Z lo A w2 (Ax l) I Q U V A2 R H J (By (M++pm (l.take j.toNat)) z [.int .i64 2,.int .i64 v,.int .i64 0]) rfl (AbA hd q om) hd kn
  refine ch G3 ?_
  exact Ai ⟨[],[],[],[(M++pm l)]⟩ (⟨_,rfl,(by first|rfl|exact QO om)⟩)
 exact Ai ⟨[],[],[],[(M++pm (l.take j.toNat))]⟩ (⟨_,rfl,(by first|rfl|exact QO om)⟩)
theorem Am9:AnP 107:=fun l M ok ln len j g1 Q Y p1 C x g2 H a2 v R U lo q Z L A J O P X N z B mp I V hd h=>AjJ ((ln-j).toNat+1) l M ok ln len j g1 Q Y p1 C x g2 H a2 v R U lo q Z L A J O P X N z B mp I V hd ⟨h.1,h.2.1,h.2.2.1,h.2.2.2.1,h.2.2.2.2,Nat.lt_succ_self _⟩
def Aon (N n:Nat):Prop:=∀(l:List Fe) (M:NW) (ok ln:Int) (len j:Int) (g2 J:Int) (a2 z:Int) (B C lo:Int) (P:List Nat) (L O:Rs) (x A H:Rs) (v:Mp) (R:L=A8 l) (Q:v=M++fm (l.take j.toNat)) (hd:FrF M l) (h:ln=L.length/\len=ln/\0<=j/\j<=ln/\ln<=8/\(ln-j).toNat<n),Ok trees N ⟨[ok,ln,len,j,g2,J,a2,z,B,C,lo],[P],[L,O,x,A,H],[v]⟩ fun I=>(∃(q:Mp),I=(0,(⟨[],[],[],[q]⟩:Aj))/\(q=M++fm l))
def AnO (N:Nat):Prop:=∀(l:List Fe) (M:NW) (ok ln:Int) (len j:Int) (g2 J:Int) (a2 z:Int) (B C lo:Int) (P:List Nat) (L O:Rs) (x A H:Rs) (v:Mp) (R:L=A8 l) (Q:v=M++fm (l.take j.toNat)) (hd:FrF M l) (h:ln=L.length/\len=ln/\0<=j/\j<=ln/\ln<=8:=by exact kn),Ok trees N ⟨[ok,ln,len,j,g2,J,a2,z,B,C,lo],[P],[L,O,x,A,H],[v]⟩ fun I=>(∃(q:Mp),I=(0,(⟨[],[],[],[q]⟩:Aj))/\(q=M++fm l))
theorem AjI (n:Nat):Aon 108 n:=by
 induction n with
 |zero=>intro l M ok ln len j g2 H a2 A N O lo R L Q J B C mp I P hd h;exact absurd h.2.2.2.2.2 (Nat.not_lt_zero _)
 |succ n ih=>
 intro l M ok ln len j g2 H a2 A N O lo R L Q J B C mp I P hd h
 subst I;subst P
 refine .of (t:=Aal) rfl ?_
 conv=>arg 3;reduce
 refine lt j len (fun X=>?_) fun X=>?_
 ·refine Dy j 0 ?_
  refine CJ j ln ?_
  obtain ⟨z,V,v,Y,ad,ab,ag,ac,af,ae,x,q⟩:=Il (l:=l) j om om
  refine el x ?_
  refine lm (R9 hd q) ?_
  refine up [.int .i64 1,.int .i64 v,.int .i64 j] ?_
  obtain ⟨_,⟨Z,rfl,rfl⟩,U⟩:=ih l M ok ln len (j+1) g2 H a2 A N O lo R (A8 l) Q J B C (By (M++fm (l.take j.toNat)) z [.int .i64 1,.int .i64 v,.int .i64 j]) rfl (Ac6 hd q om) hd kn
  refine ch U ?_
  exact Ai ⟨[],[],[],[(M++fm l)]⟩ (⟨_,rfl,(by first|rfl|exact RB om)⟩)
 exact Ai ⟨[],[],[],[(M++fm (l.take j.toNat))]⟩ (⟨_,rfl,(by first|rfl|exact RB om)⟩)
theorem Am8:AnO 108:=fun l M ok ln len j g2 z a2 q C H lo N L J B v x O A I hd h=>AjI ((ln-j).toNat+1) l M ok ln len j g2 z a2 q C H lo N L J B v x O A I hd ⟨h.1,h.2.1,h.2.2.1,h.2.2.2.1,h.2.2.2.2,Nat.lt_succ_self _⟩
def AnR (N:Nat):Prop:=∀(j:List Ae) (pv:List Pe) (fs:List Fe) (g sub:Int) (v pl:Int) (fl B:Int) (A:List Nat) (x P:Rs) (q R:Rs) (M:x=Ay j) (O:P=Ax pv) (I:q=A8 fs) (L:Za [] j) (H:FrP (am j) pv) (J:FrF (am j++pm pv) fs) (h:v=x.length/\pl=P.length/\fl=q.length/\v<=8/\pl<=8/\fl<=8:=by exact kn),Ok trees N ⟨[g,sub,v,pl,fl,B],[A],[x,P,q,R],[]⟩ fun C=>(∃(z:Mp),C=(0,(⟨[g,sub,v,pl,fl,B],[A],[x,P,q,R],[z]⟩:Aj))/\(z=am j++pm pv++fm fs))
theorem AmB:AnR 105:=by
 intro j pv fs g sub v pl fl x q V P U R B N C H z A h
 subst B;subst N;subst C
 refine .of (t:=Aao) rfl ?_
 conv=>arg 3;reduce
 refine md [] ?_
 obtain ⟨_,⟨J,rfl,rfl⟩,O⟩:=AmA j 1 v v 0 g sub v pl fl x g sub v pl fl x 0 q q (Ay j) (Ay j) (Ax pv) (A8 fs) R (Ay j) (Ax pv) (A8 fs) R [] rfl rfl H
 refine ch O ?_
 obtain ⟨_,⟨Q,rfl,rfl⟩,L⟩:=Am9 pv (am j) 1 pl pl 0 g sub v pl fl x g sub v pl fl x 0 q q (Ax pv) (Ay j) (Ax pv) (A8 fs) R (Ay j) (Ax pv) (A8 fs) R (am j) rfl (WQ _ _) z
 refine ch L ?_
 obtain ⟨_,⟨M,rfl,rfl⟩,I⟩:=Am8 fs (am j++pm pv) 1 fl fl 0 g sub v pl fl x 0 q (A8 fs) (Ay j) (Ax pv) (A8 fs) R ((am j)++pm pv) rfl (Xg _ _) A
 refine ch I ?_
 exact Ai ⟨[g,sub,v,pl,fl,x],[q],[(Ay j),(Ax pv),(A8 fs),R],[((am j++pm pv)++fm fs)]⟩ (⟨_,rfl,rfl⟩)
def Aol (N n:Nat):Prop:=∀(l:List Ae) (n1 ln:Int) (len j:Int) (g1 I:Int) (Z p1:Int) (C O:Int) (g2 Q:Int) (a2 x:Int) (J X lo:Int) (M w2:List Nat) (L A:Rs) (R V:Rs) (H Y:Rs) (U z B:Rs) (v:Mp) (hL:L=Ay l) (hm:v=am (l.take j.toNat)) (hd:Za [] l) (h:ln=L.length/\len=ln/\0<=j/\j<=ln/\ln<=8/\(ln-j).toNat<n),Ok trees N ⟨[n1,ln,len,j,g1,I,Z,p1,C,O,g2,Q,a2,x,J,X,lo],[M,w2],[L,A,R,V,H,Y,U,z,B],[v]⟩ fun P=>(∃(q:Mp),P=(0,(⟨[],[],[],[q]⟩:Aj))/\(q=am l))
def AnL (N:Nat):Prop:=∀(l:List Ae) (n1 ln:Int) (len j:Int) (g1 J:Int) (Y p1:Int) (V H:Int) (g2 X:Int) (a2 C:Int) (O P lo:Int) (z w2:List Nat) (L Q:Rs) (x B:Rs) (I Z:Rs) (A M R:Rs) (v:Mp) (hL:L=Ay l) (hm:v=am (l.take j.toNat)) (hd:Za [] l) (h:ln=L.length/\len=ln/\0<=j/\j<=ln/\ln<=8:=by exact kn),Ok trees N ⟨[n1,ln,len,j,g1,J,Y,p1,V,H,g2,X,a2,C,O,P,lo],[z,w2],[L,Q,x,B,I,Z,A,M,R],[v]⟩ fun U=>(∃(q:Mp),U=(0,(⟨[],[],[],[q]⟩:Aj))/\(q=am l))
theorem AjG (n:Nat):Aol 112 n:=by
 induction n with
 |zero=>intro l n1 ln len j g1 X a1 p1 N C g2 O a2 B Y Z lo A w2 L I Q U V A2 R H J mp P hm hd h;exact absurd h.2.2.2.2.2 (Nat.not_lt_zero _)
 |succ n ih=>
 intro l n1 ln len j g1 X a1 p1 N C g2 O a2 B Y Z lo A w2 L I Q U V A2 R H J mp P hm hd h
 subst P;subst hm
 refine .of (t:=Aai) rfl ?_
 conv=>arg 3;reduce
 refine lt j len (fun t1=>?_) fun t1=>?_
 ·refine Dy j 0 ?_
  refine CJ j ln ?_
  obtain ⟨z,ag,v,aj,x,q⟩:=Im (l:=l) j om om
  refine el x ?_
  refine lm (Sd (M:=[]) hd q) ?_
  refine up [.int .i64 0,.int .i64 v,.int .i64 j] ?_
  obtain ⟨_,⟨ah,rfl,rfl⟩,G3⟩:=ih l n1 ln len (j+1) g1 X a1 p1 N C g2 O a2 B Y Z lo A w2 (Ay l) I Q U V A2 R H J (By (am (l.take j.toNat)) z [.int .i64 0,.int .i64 v,.int .i64 j]) rfl (Ada (M:=[]) hd q om) hd kn
  refine ch G3 ?_
  exact Ai ⟨[],[],[],[(am l)]⟩ (⟨_,rfl,(by first|rfl|exact Se (M:=[]) om)⟩)
 exact Ai ⟨[],[],[],[(am (l.take j.toNat))]⟩ (⟨_,rfl,(by first|rfl|exact Se (M:=[]) om)⟩)
theorem Am5:AnL 112:=fun l n1 ln len j g1 P X p1 C x g2 H a2 v Q R lo q Y L A J N O V M z B Z I U hd h=>AjG ((ln-j).toNat+1) l n1 ln len j g1 P X p1 C x g2 H a2 v Q R lo q Y L A J N O V M z B Z I U hd ⟨h.1,h.2.1,h.2.2.1,h.2.2.2.1,h.2.2.2.2,Nat.lt_succ_self _⟩
def Aok (N n:Nat):Prop:=∀(l:List Fe) (M:NW) (n1 ln:Int) (len j:Int) (g1 V:Int) (a1 p1:Int) (J A:Int) (g2 O:Int) (a2 z:Int) (X Y lo:Int) (x w2:List Nat) (L H:Rs) (P R:Rs) (U Z:Rs) (Q B I:Rs) (v:Mp) (hL:L=A8 l) (hm:v=M++fm (l.take j.toNat)) (hd:FrF M l) (h:ln=L.length/\len=ln/\0<=j/\j<=ln/\ln<=8/\(ln-j).toNat<n),Ok trees N ⟨[n1,ln,len,j,g1,V,a1,p1,J,A,g2,O,a2,z,X,Y,lo],[x,w2],[L,H,P,R,U,Z,Q,B,I],[v]⟩ fun C=>(∃(q:Mp),C=(0,(⟨[],[],[],[q]⟩:Aj))/\(q=M++fm l))
def AnJ (N:Nat):Prop:=∀(l:List Fe) (M:NW) (n1 ln:Int) (len j:Int) (g1 I:Int) (a1 p1:Int) (C P:Int) (g2 R:Int) (a2 x:Int) (J Y lo:Int) (O w2:List Nat) (L A:Rs) (U X:Rs) (H Z:Rs) (V z B:Rs) (v:Mp) (hL:L=A8 l) (hm:v=M++fm (l.take j.toNat)) (hd:FrF M l) (h:ln=L.length/\len=ln/\0<=j/\j<=ln/\ln<=8:=by exact kn),Ok trees N ⟨[n1,ln,len,j,g1,I,a1,p1,C,P,g2,R,a2,x,J,Y,lo],[O,w2],[L,A,U,X,H,Z,V,z,B],[v]⟩ fun Q=>(∃(q:Mp),Q=(0,(⟨[],[],[],[q]⟩:Aj))/\(q=M++fm l))
theorem AjE (n:Nat):Aok 114 n:=by
 induction n with
 |zero=>intro l M n1 ln len j g1 X a1 p1 N C g2 O a2 B Y Z lo A w2 L I Q U V A2 R H J mp P hm hd h;exact absurd h.2.2.2.2.2 (Nat.not_lt_zero _)
 |succ n ih=>
 intro l M n1 ln len j g1 X a1 p1 N C g2 O a2 B Y Z lo A w2 L I Q U V A2 R H J mp P hm hd h
 subst P;subst hm
 refine .of (t:=Aag) rfl ?_
 conv=>arg 3;reduce
 refine lt j len (fun t1=>?_) fun t1=>?_
 ·refine Dy j 0 ?_
  refine CJ j ln ?_
  obtain ⟨z,ag,v,ah,an,ak,aq,al,ap,ao,x,q⟩:=Il (l:=l) j om om
  refine el x ?_
  refine lm (R9 hd q) ?_
  refine up [.int .i64 1,.int .i64 v,.int .i64 j] ?_
  obtain ⟨_,⟨ai,rfl,rfl⟩,G3⟩:=ih l M n1 ln len (j+1) g1 X a1 p1 N C g2 O a2 B Y Z lo A w2 (A8 l) I Q U V A2 R H J (By (M++fm (l.take j.toNat)) z [.int .i64 1,.int .i64 v,.int .i64 j]) rfl (Ac6 hd q om) hd kn
  refine ch G3 ?_
  exact Ai ⟨[],[],[],[(M++fm l)]⟩ (⟨_,rfl,(by first|rfl|exact RB om)⟩)
 exact Ai ⟨[],[],[],[(M++fm (l.take j.toNat))]⟩ (⟨_,rfl,(by first|rfl|exact RB om)⟩)
theorem Am3:AnJ 114:=fun l M n1 ln len j g1 Q Y p1 C x g2 H a2 v R U lo q Z L A J O P X N z B mp I V hd h=>AjE ((ln-j).toNat+1) l M n1 ln len j g1 Q Y p1 C x g2 H a2 v R U lo q Z L A J O P X N z B mp I V hd ⟨h.1,h.2.1,h.2.2.1,h.2.2.2.1,h.2.2.2.2,Nat.lt_succ_self _⟩
def Aoi (N n:Nat):Prop:=∀(l:List Pe) (M:NW) (ln len:Int) (j g2:Int) (Q a2:Int) (H f2:Int) (r2 lo:Int) (A x:Int) (v R:Int) (I Y:Int) (U rl:Int) (w2 z B:List Nat) (L A2:Rs) (V J:Rs) (P X:Rs) (FB Z:Rs) (C:Mp) (hL:L=Ax l) (hm:C=M++pm (l.take j.toNat)) (hd:FrP M l) (h:ln=L.length/\len=ln/\0<=j/\j<=ln/\ln<=8/\(ln-j).toNat<n),Ok trees N ⟨[ln,len,j,g2,Q,a2,H,f2,r2,lo,A,x,v,R,I,Y,U,rl],[w2,z,B],[L,A2,V,J,P,X,FB,Z],[C]⟩ fun O=>(∃(q:Mp),O=(1,(⟨[],[],[],[q]⟩:Aj))/\(q=M++pm l))
def An8 (N:Nat):Prop:=∀(l:List Pe) (M:NW) (ln len:Int) (j g2:Int) (Q a2:Int) (H f2:Int) (r2 lo:Int) (A x:Int) (v R:Int) (I Y:Int) (U rl:Int) (w2 z B:List Nat) (L A2:Rs) (V J:Rs) (P X:Rs) (FB Z:Rs) (C:Mp) (hL:L=Ax l) (hm:C=M++pm (l.take j.toNat)) (hd:FrP M l) (h:ln=L.length/\len=ln/\0<=j/\j<=ln/\ln<=8:=by exact kn),Ok trees N ⟨[ln,len,j,g2,Q,a2,H,f2,r2,lo,A,x,v,R,I,Y,U,rl],[w2,z,B],[L,A2,V,J,P,X,FB,Z],[C]⟩ fun O=>(∃(q:Mp),O=(1,(⟨[],[],[],[q]⟩:Aj))/\(q=M++pm l))
theorem AjB (n:Nat):Aoi 129 n:=by
 induction n with
 |zero=>intro l M ln len j g2 Q a2 J f2 r2 lo B z x R N ry V rl w2 A C L A2 Y O P Z FB RA mp U hm hd h;exact absurd h.2.2.2.2.2 (Nat.not_lt_zero _)
 |succ n ih=>
 intro l M ln len j g2 Q a2 J f2 r2 lo B z x R N ry V rl w2 A C L A2 Y O P Z FB RA mp U hm hd h
 subst U;subst hm
 refine .of (t:=ZT) rfl ?_
 conv=>arg 3;reduce
 refine lt j len (fun t1=>?_) fun t1=>?_
 ·refine Dy j 0 ?_
  refine CJ j ln ?_
  obtain ⟨I,v,H,q⟩:=Ik (l:=l) j om om
  refine el H ?_
  refine lm (QN hd q) ?_
  refine up [.int .i64 2,.int .i64 v,.int .i64 0] ?_
  obtain ⟨_,⟨ak,rfl,rfl⟩,X⟩:=ih l M ln len (j+1) g2 Q a2 J f2 r2 lo B z x R N ry V rl w2 A C (Ax l) A2 Y O P Z FB RA (By (M++pm (l.take j.toNat)) I [.int .i64 2,.int .i64 v,.int .i64 0]) rfl (AbA hd q om) hd kn
  refine cm X ?_
  refine ch X ?_
  exact Ai ⟨[],[],[],[(M++pm l)]⟩ (⟨_,rfl,(by first|rfl|exact QO om)⟩)
 exact Ai ⟨[],[],[],[(M++pm (l.take j.toNat))]⟩ (⟨_,rfl,(by first|rfl|exact QO om)⟩)
theorem Ams:An8 129:=fun l M ln len j g2 J a2 B X Y lo z v q N C U P rl w2 x A L A2 Q H I R FB V mp O Z hd h=>AjB ((ln-j).toNat+1) l M ln len j g2 J a2 B X Y lo z v q N C U P rl w2 x A L A2 Q H I R FB V mp O Z hd ⟨h.1,h.2.1,h.2.2.1,h.2.2.2.1,h.2.2.2.2,Nat.lt_succ_self _⟩
def AnM (N:Nat):Prop:=∀{v:List Ae} {fs:List Fe} {f:Fe} {Γ A:Ctx} (g sub:Int) (q pl:Int) (fl C n:Int) (z:List Nat) (x P:Rs) (j R:Rs) (J:x=Ay v) (H:j=A8 fs) (hf:fs[n.toNat]?=some f) (M:FnG v fs n.toNat f Γ A) (L:FnP f) (I:Za [] v) (h:0<=n/\n<fl/\q=x.length/\fl=j.length/\q<=8/\fl<=8:=by exact kn),Ok trees N ⟨[g,sub,q,pl,fl,C,n],[z],[x,P,j,R],[]⟩ fun B=>(B=(0,(⟨[0],[],[],[]⟩:Aj)))
theorem Am6:AnM 111:=by
 intro j fs f Γ Q g sub al pl fl v n q Ar P Fs R N O hf z C U h
 subst N;subst O;obtain ⟨nm,ps,ty,fb,B,A,J,H,rw,x⟩:=f;have L:=Abt hf;have hO:Fm 0 1 Γ fb Q:=z.ok;have Z:T Q ty (.node B A J rw H x):=z.ty;have ao:(Ax ps).length<=2:=(by have:=C.pl;simpa [Ax]using this);have aw:S.Az fb<=2:=C.dp;have ak:S.Ad fb<=160:=C.nd;have aq:=S.len fb;have ap:=S.AA fb;obtain ⟨h0,h1,rfl,rfl,au,an⟩:=h
 refine .of (t:=Aaj) rfl ?_
 conv=>arg 3;reduce
 refine md [] ?_
 obtain ⟨_,⟨ad,rfl,rfl⟩,G1⟩:=Am5 j n ((Ay j).length:Int) ((Ay j).length:Int) 0 g sub ((Ay j).length:Int) pl ((A8 fs).length:Int) v g sub ((Ay j).length:Int) pl ((A8 fs).length:Int) v 0 q q (Ay j) (Ay j) P (A8 fs) R (Ay j) P (A8 fs) R [] rfl rfl U
 refine ch G1 ?_
 refine dL ((A8 fs).take n.toNat) (fun W2 e2=>?_) (Gl (pt n (A8 fs)))
 have f2:=cL e2;try simp only [lA,lC,lN,lT']at f2
 obtain ⟨_,⟨ag,rfl,rfl⟩,G3⟩:=Am3 (fs.take n.toNat) (am j) n n n 0 g sub ((Ay j).length:Int) pl ((A8 fs).length:Int) v g sub ((Ay j).length:Int) pl ((A8 fs).length:Int) v 0 q q W2 (Ay j) P (A8 fs) R (Ay j) P (A8 fs) R (am j) (by subst_vars;exact UH) (Xg _ _) z.fr
 refine ch G3 ?_
 refine Dy n 0 ?_
 refine CJ n ((A8 fs).length:Int) ?_
 refine el L ?_
 obtain ⟨_,⟨X,rfl,rfl⟩,M⟩:=Ams ps (am j++fm (fs.take n.toNat)) ((Ax ps).length:Int) ((Ax ps).length:Int) 0 g sub ((Ay j).length:Int) pl ((A8 fs).length:Int) v 0 ((Ax ps).length:Int) ty ((S.Ab fb).length:Int) B A J rw ((E.Ab x).length:Int) q nm H (Ax ps) (Ay j) P (A8 fs) R (Ax ps) (S.Ab fb) (E.Ab x) ((am j)++fm (fs.take n.toNat)) rfl (WQ _ _) z.fp
 refine cm M ?_
 refine ch M ?_
 obtain ⟨_,⟨V,ai,rfl,I,rfl⟩,G5⟩:=Afk (Kh.of (n:=1000) @Ame) ((S.Ab fb).length:Int) g sub ((Ay j).length:Int) pl ((A8 fs).length:Int) v 0 q (S.Ab fb) (Ay j) P (A8 fs) R ((am j++fm (fs.take n.toNat))++pm ps) z.ck hO rfl
 refine ch G5 ?_
 refine BM 0 0 ?_
 obtain ⟨_,rfl,Y⟩:=Xu I B A J rw ((E.Ab x).length:Int) ty g sub pl v 0 H q (E.Ab x) P R Z rfl
 refine ch Y ?_
 exact Ai ⟨[0],[],[],[]⟩ (rfl)
def Aom (N n:Nat):Prop:=∀{z:List Ae} {fs:List Fe} (B q:Int) (j g:Int) (sub x:Int) (pl fl:Int) (V g2:Int) (O a2:Int) (H L:Int) (U lo:Int) (C Y:List Nat) (A P:Rs) (v R:Rs) (X Q:Rs) (I J:Rs) (Z:Mp) (aa:A=Ay z) (ab:v=A8 fs) (hK:FsG z fs) (hp:FsP fs) (ac:Za [] z) (h:0<=j/\j<=q/\B=0/\q=v.length/\fl=q/\x=A.length/\q<=8/\x<=8/\(q-j).toNat<n),Ok trees N ⟨[B,q,j,g,sub,x,pl,fl,V,g2,O,a2,H,L,U,lo],[C,Y],[A,P,v,R,X,Q,I,J],[Z]⟩ fun M=>(M=(0,(⟨[0],[],[],[]⟩:Aj)))
def AnN (N:Nat):Prop:=∀{z:List Ae} {fs:List Fe} (B q:Int) (j g:Int) (sub x:Int) (pl fl:Int) (U g2:Int) (V a2:Int) (I L:Int) (M lo:Int) (C Y:List Nat) (A P:Rs) (v R:Rs) (X H:Rs) (J O:Rs) (Z:Mp) (ac:A=Ay z) (aa:v=A8 fs) (hK:FsG z fs) (hp:FsP fs) (ab:Za [] z) (h:0<=j/\j<=q/\B=0/\q=v.length/\fl=q/\x=A.length/\q<=8/\x<=8:=by exact kn),Ok trees N ⟨[B,q,j,g,sub,x,pl,fl,U,g2,V,a2,I,L,M,lo],[C,Y],[A,P,v,R,X,H,J,O],[Z]⟩ fun Q=>(Q=(0,(⟨[0],[],[],[]⟩:Aj)))
theorem AjH (n:Nat):Aom 109 n:=by
 induction n with
 |zero=>intro I fs e0 L j g sub H pl fl J g2 Q a2 M X Y lo v w2 Ar P Fs R Z V N O mp x z B C q h;exact absurd h.2.2.2.2.2.2.2.2 (Nat.not_lt_zero _)
 |succ n ih=>
 intro I fs e0 L j g sub H pl fl J g2 Q a2 M X Y lo v w2 Ar P Fs R Z V N O mp x z B C q h
 subst x;subst z;obtain ⟨h0,h1,rfl,h3,h4,h5,h7,h8,h6⟩:=h
 refine .of (t:=Aak) rfl ?_
 conv=>arg 3;reduce
 refine lt j L (fun t1=>?_) fun t1=>?_
 ·refine B4 0 0 ?_
  obtain ⟨f_,Γ_,ai,A,U⟩:=B.at j om om
  obtain ⟨_,rfl,G2⟩:=Am6 g sub H pl fl J j v (Ay I) P (A8 fs) R rfl rfl A U (C _ _ A) q
  refine ch G2 ?_
  obtain ⟨_,rfl,G3⟩:=ih 0 L (j+1) g sub H pl fl J g2 Q a2 M X Y lo v w2 (Ay I) P (A8 fs) R Z V N O mp rfl rfl B C q kn
  refine ch G3 ?_
  exact Ai ⟨[0],[],[],[]⟩ (rfl)
 exact Ai ⟨[0],[],[],[]⟩ (rfl)
theorem Am7:AnN 109:=fun {av} {fs} e0 nf j g sub al pl fl rl g2 s2 a2 p2 f2 r2 lo knm w2 Ar P Fs R A2 P2 F2 R2 mp hAr hFs hK hp hda h=>AjH ((nf-j).toNat+1) e0 nf j g sub al pl fl rl g2 s2 a2 p2 f2 r2 lo knm w2 Ar P Fs R A2 P2 F2 R2 mp hAr hFs hK hp hda ⟨h.1,h.2.1,h.2.2.1,h.2.2.2.1,h.2.2.2.2.1,h.2.2.2.2.2.1,h.2.2.2.2.2.2.1,h.2.2.2.2.2.2.2,Nat.lt_succ_self _⟩
end
end Go.Proofs.YtaolbokoijfhnaaGreatDoor.Am
