/- Part 19 of TypesFunctions. -/
import Derived.Test.YtbmofjdmgjpfoaaGreatDoorF17
import Derived.Test.YtbmofjdmgjpfoaaGreatDoorF18
set_option linter.all false
namespace Go.Proofs.YtbmofjdmgjpfoaaGreatDoor.Am
section
set_option maxHeartbeats 4000000
set_option maxRecDepth 100000
open Go.AM Go.AM.K
abbrev AmN:=@Xc
abbrev Amf:=@WZ
theorem Aiu {Γ:Ctx} {O fl:Int} {Ar Fs:Rs} {X:Mp} (hC:Ck Γ O fl Ar Fs X) (n:Nat):AmN 148 Γ O fl Ar Fs X n:=by
 induction n with
 |zero=>intro I ln len j z sub pl bl lo H q B Z Y N V Q x A C T FP P R v U RA M hF h;exact absurd h.2.2.2.2.2 (Nat.not_lt_zero _)
 |succ n ih=>
 intro I ln len j z sub pl bl lo H q B Z Y N V Q x A C T FP P R v U RA M hF h
 subst M;subst hF
 refine .of (t:=YU) rfl ?_
 conv=>arg 3;reduce
 refine lt j len (fun t1=>?_) fun t1=>?_
 ·refine CO j 0 ?_
  refine B8 j ln ?_
  obtain ⟨ah,J⟩:=Pc j om om
  refine el J ?_
  refine B8 j I ?_
  have L:=Sx j om om
  refine el L ?_
  refine BB 1 1 ?_
  obtain ⟨_,rfl,G4⟩:=ih I ln len (j+1) z sub pl bl lo H q B Z Y N V Q x A C ([1,1].map Bb) DO P R v U RA rfl rfl kn
  refine cm G4 ?_
  refine ch G4 ?_
  exact Ag v0 (rfl)
 exact Ag v0 (rfl)
theorem AkW:Amf 148:=fun {Γ} {al} {fl} {Ar} {Fs} {mp} hC tl ln len j grp sub pl bl lo fpl fty fbl rk ro ry rv rl knm fnm rnm T FP P R FP2 FB RA hT hF h=>Aiu hC ((2-j).toNat+1) tl ln len j grp sub pl bl lo fpl fty fbl rk ro ry rv rl knm fnm rnm T FP P R FP2 FB RA hT hF ⟨h.1,h.2.1,h.2.2.1,h.2.2.2.1,h.2.2.2.2,Nat.lt_succ_self _⟩
abbrev Amh:=@Pz
theorem AkY:Amh 146:=by
 intro Γ al fl Ar Z mp I V U B J C H O M Y z sub pl L lo A v q x N Q T P R X hF h
 obtain ⟨rfl,rfl,rfl⟩:=h
 refine .of (t:=YW) rfl ?_
 conv=>arg 3;reduce
 refine BB 2 2 ?_
 obtain ⟨_,rfl,j⟩:=AkW I 2 2 2 0 z sub pl L lo 2 1 B J C H O M q A v T x P R x N Q asm asm
 refine cm j ?_
 refine ch j ?_
 exact Ag ⟨[1,0],[],[],[]⟩ (rfl)
abbrev Aev:=@HM
abbrev Aml:=@JO
abbrev AmO:=@Aew
abbrev Amg:=@Aen
theorem Aiv {Γ:Ctx} {N fl:Int} {O M:Rs} {V:Mp} (hC:Ck Γ N fl O M V) {m:Nat} (B:Aev 141 Γ N fl O M V m) (n:Nat):AmO 141 147 Γ N fl O M V m n:=by
 induction n with
 |zero=>intro a ts ql ln len j A sub pl J lo x L P R Q v I X h;exact absurd h.2.2.2.2.2.2.2.2.2 (Nat.not_lt_zero _)
 |succ n ih=>
 intro a ts ql ln len j A sub pl J lo x L P R Q v I X h
 subst I
 refine .of (t:=YV) rfl ?_
 conv=>arg 3;reduce
 refine lt j len (fun t1=>?_) fun t1=>?_
 ·refine CO j 0 ?_
  refine B8 j ln ?_
  obtain ⟨ad,Z,Y,ac,aa,C,H,U,an,aj,ah⟩:=v.get j om om
  refine el U ?_
  obtain ⟨_,rfl,G3⟩:=B H ad Z Y ac ((E.Aa C).length:Int) A sub pl J lo aa x (E.Aa C) P R asm rfl kn
  refine ch G3 ?_
  refine BB 0 0 ?_
  refine dL (Q++[[PV.int .i64 H]]) (fun z e4=>?_) (Bq (pw ql Q) pe)
  have f4:=cL e4;try simp only [lA,lC,lN,lT']at f4
  refine Er (z.length:Int) 1048576 ?_
  obtain ⟨_,(⟨rfl,ae⟩|⟨ag,af,rfl,rfl,rfl⟩),q⟩:=ih ts (z.length:Int) ln len (j+1) A sub pl J lo x (E.Aa a) P R z v rfl (by subst_vars;exact HN asm om) kn
  ·refine cm q ?_
   refine cm q ?_
   refine ch q ?_
   exact Ag ⟨[(z.length:Int)],[],[z],[]⟩ (.inr ((⟨_,_,rfl,(by first|rfl|assumption|(subst_vars;assumption)),(by first|rfl|(have e:=‹_=ts.map Bb›;rw [e];exact Ts.CL))⟩)))
  refine cm q ?_
  refine cm q ?_
  refine cm q ?_
  refine ch q ?_
  exact Ag ⟨[(ts.length:Int)],[],[(ts.map Bb)],[]⟩ (.inr ((⟨_,_,rfl,(by first|rfl|assumption|(subst_vars;assumption)),(by first|rfl|(have e:=‹_=ts.map Bb›;rw [e];exact Ts.CL))⟩)))
 exact Ag v0 (.inl (⟨rfl,(X.trans (v.end om))⟩))
theorem AkX:Amg 141 147:=fun {m} {Γ} {al} {fl} {Ar} {Fs} {mp} hC hC141 {a} ts ql ln len j grp sub pl bl lo knm L P R Q hTs hLa hQ h=>Aiv hC @hC141 ((len-j).toNat+1) ts ql ln len j grp sub pl bl lo knm L P R Q hTs hLa hQ ⟨h.1,h.2.1,h.2.2.1,h.2.2.2.1,h.2.2.2.2.1,h.2.2.2.2.2.1,h.2.2.2.2.2.2.1,h.2.2.2.2.2.2.2.1,h.2.2.2.2.2.2.2.2,Nat.lt_succ_self _⟩
abbrev Ami:=@Aeo
theorem AkZ:Ami 141 144:=by
 intro m Γ al fl Ar Fs mp hC v a ts ln len j C sub pl N lo z L P R x U h
 subst U;obtain ⟨h1,h2,rfl,rfl,h5⟩:=h
 refine .of (t:=YX) rfl ?_
 conv=>arg 3;reduce
 refine lt 0 len (fun t1=>?_) fun t1=>?_
 ·refine CO 0 0 ?_
  refine B8 0 len ?_
  obtain ⟨X,O,M,V,Q,A,B,I,ag,ae,ab⟩:=x.get 0 om om
  refine el I ?_
  obtain ⟨_,rfl,G3⟩:=v B X O M V ((E.Aa A).length:Int) C sub pl N lo Q z (E.Aa A) P R asm rfl kn
  refine ch G3 ?_
  refine BB 0 0 ?_
  refine dL [[.int .i64 B]] (fun H e4=>?_)
  have f4:=cL e4;try simp only [lA,lC,lN,lT']at f4
  refine ll 1 H ?_
  obtain ⟨_,(⟨rfl,Y⟩|⟨aa,Z,rfl,rfl,rfl⟩),q⟩:=AkX hC @v ts 1 len len (0+1) C sub pl N lo z (E.Aa a) P R H x rfl (by subst_vars;exact (HN (j:=0) asm om))
  ·refine cm q ?_
   refine cm q ?_
   refine ch q ?_
   exact Ag ⟨[1],[],[H],[]⟩ (.inr ((⟨_,_,rfl,(by first|rfl|(subst_vars;first|rfl|assumption)),(by first|rfl|(have e:=‹_=ts.map Bb›;have J:=Ts.CL (ts:=ts);rw [<-e]at J;omega) |(subst_vars;first|rfl|simp))⟩)))
  refine cm q ?_
  refine cm q ?_
  refine cm q ?_
  refine ch q ?_
  exact Ag ⟨[(ts.length:Int)],[],[(ts.map Bb)],[]⟩ (.inr ((⟨_,_,rfl,(by first|rfl|(subst_vars;first|rfl|assumption)),(by first|rfl|(have e:=‹_=ts.map Bb›;have J:=Ts.CL (ts:=ts);rw [<-e]at J;omega) |(subst_vars;first|rfl|simp))⟩)))
 exact Ag v0 (.inl (⟨rfl,(x.none om)⟩))
abbrev Amj:=@Aep
theorem Lo:Amj 141 143:=by
 intro m Γ Q fl U O V J q a ts ln B sub pl M lo z L P R x A h
 subst A;have N:=Ts.CL (ts:=ts)
 refine .of (t:=YY) rfl ?_
 conv=>arg 3;reduce
 obtain ⟨_,(⟨rfl,H⟩|⟨I,C,rfl,rfl,rfl⟩),j⟩:=AkZ J @q ts ln ln 0 B sub pl M lo z (E.Aa a) P R x rfl
 ·refine ch j ?_
  refine de [] ?_
  refine ll 0 [] ?_
  exact Ag ⟨[0,0],[],[[]],[]⟩ (⟨_,_,rfl,(by first|rfl|(subst_vars;first|rfl|assumption)),(by first|rfl|(have e:=‹_=ts.map Bb›;have v:=Ts.CL (ts:=ts);rw [<-e]at v;omega) |(subst_vars;first|rfl|simp))⟩)
 refine cm j ?_
 refine cm j ?_
 refine ch j ?_
 refine ll (ts.length:Int) (ts.map Bb) ?_
 refine fr ?_
 exact Ag ⟨[(ts.length:Int),0],[],[(ts.map Bb)],[]⟩ (⟨_,_,rfl,(by first|rfl|(subst_vars;first|rfl|assumption)),(by first|rfl|(have e:=‹_=ts.map Bb›;have v:=Ts.CL (ts:=ts);rw [<-e]at v;omega) |(subst_vars;first|rfl|simp))⟩)
theorem Aiw {Γ:Ctx} {al fl:Int} {Ar Fs:Rs} {mp:Mp} (J:Ck Γ al fl Ar Fs mp) (n:Nat):Aev 141 Γ al fl Ar Fs mp n:=by
 induction n with
 |zero=>intro a t k o ty v ln I sub pl V lo s H A P R hT hA h;exact absurd h.2 (Nat.not_lt_zero _)
 |succ n ih=>
 intro a t k o ty v ln I sub pl V lo s H A P R hT hA h
 subst hA;have e2:=J3 (k:=k) (o:=o) (ty:=ty) (v:=v) (s:=s) (a:=a);have L:ln=(a.length:Int):=by have:=h.1;rw [E.A0]at this;exact this
 rcases hT.inv with hv|hv|hv|hv|hv|hv|hv|hv
 ·obtain ⟨rfl,rfl,rfl,rfl,rfl,r1,r2,r3,r4,r5,r6⟩:=hv;simp only [lC,lN]at L;have Y:E.Ad []=0:=rfl
  refine .of (t:=Ik) rfl ?_
  conv=>arg 3;reduce
  obtain ⟨_,⟨a2,aX,rfl,rfl,rfl⟩,G1⟩:=Lo J @ih [] ln I sub pl V lo H (E.Aa []) P R (by exact .nil) rfl
  refine ch G1 ?_
  refine BB 0 0 ?_
  refine AH 1 1 ?_
  first|exact Ag ⟨[ty,0],[],[],[]⟩ (rfl) |(exfalso;omega)
 ·obtain ⟨rfl,rfl,rfl,rfl,rfl,rfl,r1,r2⟩:=hv;simp only [lC,lN]at L;have Y:E.Ad []=0:=rfl
  refine .of (t:=Ik) rfl ?_
  conv=>arg 3;reduce
  obtain ⟨_,⟨ba,a1,rfl,rfl,rfl⟩,G2⟩:=Lo J @ih [] ln I sub pl V lo H (E.Aa []) P R (by exact .nil) rfl
  refine ch G2 ?_
  refine BB 0 0 ?_
  refine Az 3 1 ?_
  refine AH 3 3 ?_
  first|exact Ag ⟨[1,0],[],[],[]⟩ (rfl) |(exfalso;omega)
 ·obtain ⟨rfl,rfl,rfl,rfl,rfl,hs,kk,ii,hk,r1,r2,hg⟩:=hv;simp only [lC,lN]at L;have Y:E.Ad []=0:=rfl
  refine .of (t:=Ik) rfl ?_
  conv=>arg 3;reduce
  obtain ⟨_,⟨aW,a4,rfl,rfl,rfl⟩,G3⟩:=Lo J @ih [] ln I sub pl V lo H (E.Aa []) P R (by exact .nil) rfl
  refine ch G3 ?_
  refine BB 0 0 ?_
  refine Az 2 1 ?_
  refine Az 2 3 ?_
  refine Az 2 4 ?_
  refine Az 2 5 ?_
  refine Az 2 6 ?_
  refine AH 2 2 ?_
  refine lh (J.look hg) ?_
  refine eq kk 2 (fun t4=>?_) fun t4=>?_
  ·first|exact Ag ⟨[t,0],[],[],[]⟩ (rfl) |(exfalso;omega)
  refine eq kk 3 (fun t5=>?_) fun t5=>?_
  ·first|exact Ag ⟨[t,0],[],[],[]⟩ (rfl) |(exfalso;omega)
  first|exact Ag ⟨[0,30],[],[],[]⟩ (rfl) |(exfalso;omega)
 ·obtain ⟨rfl,rfl,rfl,rfl,k1,q,t1,B,j,C,w,rfl,hu,X⟩:=hv;simp only [lC,lN]at L;have Y:=n1 (x:=.node k1 q t1 B j C);have e4:=g1 (x:=.node k1 q t1 B j C);have hr:=hu.Ty
  refine .of (t:=Ik) rfl ?_
  conv=>arg 3;reduce
  obtain ⟨_,⟨a0,aM,rfl,rfl,rfl⟩,G6⟩:=Lo J @ih [w] ln I sub pl V lo H (E.Aa [.node k1 q t1 B j C]) P R (by exact .cons X .nil) rfl
  refine ch G6 ?_
  refine BB 0 0 ?_
  refine Az 4 1 ?_
  refine Az 4 3 ?_
  refine AH 4 4 ?_
  refine B8 0 ([w].length:Int) ?_
  refine el (j':=0) rfl ?_
  obtain ⟨_,rfl,G7⟩:=Aeb t o w hu
  refine ch G7 ?_
  first|exact Ag ⟨[t,0],[],[],[]⟩ (rfl) |(exfalso;omega)
 ·obtain ⟨rfl,rfl,rfl,rfl,k1,q,t1,B,j,C,M,U,O,Q,N,b2,w,rfl,hu,X,Z⟩:=hv;simp only [lC,lN]at L;have Y:=n2 (x:=.node k1 q t1 B j C) (y:=.node M U O Q N b2);have e4:=g2 (x:=.node k1 q t1 B j C) (y:=.node M U O Q N b2);have hr:=hu.Ty
  refine .of (t:=Ik) rfl ?_
  conv=>arg 3;reduce
  obtain ⟨_,⟨aP,aR,rfl,rfl,rfl⟩,G8⟩:=Lo J @ih [w,w] ln I sub pl V lo H (E.Aa [.node k1 q t1 B j C,.node M U O Q N b2]) P R (by exact .cons X (.cons Z .nil)) rfl
  refine ch G8 ?_
  refine BB 0 0 ?_
  refine Az 5 1 ?_
  refine Az 5 3 ?_
  refine Az 5 4 ?_
  refine AH 5 5 ?_
  refine B8 0 ([w,w].length:Int) ?_
  refine el (j':=0) rfl ?_
  refine B8 1 ([w,w].length:Int) ?_
  refine el (j':=1) rfl ?_
  obtain ⟨_,rfl,G9⟩:=AbG t o w w hu rfl
  refine ch G9 ?_
  first|exact Ag ⟨[t,0],[],[],[]⟩ (rfl) |(exfalso;omega)
 ·obtain ⟨rfl,rfl,rfl,rfl,rfl,k1,q,t1,B,j,C,M,U,O,Q,N,b2,k3,o3,t3,v3,s3,b3,rfl,X,Z,h3⟩:=hv;simp only [lC,lN]at L;have Y:=n3 (x:=.node k1 q t1 B j C) (y:=.node M U O Q N b2) (z:=.node k3 o3 t3 v3 s3 b3);have e4:=g3 (x:=.node k1 q t1 B j C) (y:=.node M U O Q N b2) (z:=.node k3 o3 t3 v3 s3 b3)
  refine .of (t:=Ik) rfl ?_
  conv=>arg 3;reduce
  obtain ⟨_,⟨aF,aH,rfl,rfl,rfl⟩,az⟩:=Lo J @ih [3,t,t] ln I sub pl V lo H (E.Aa [.node k1 q t1 B j C,.node M U O Q N b2,.node k3 o3 t3 v3 s3 b3]) P R (by exact .cons X (.cons Z (.cons h3 .nil))) rfl
  refine ch az ?_
  refine BB 0 0 ?_
  refine Az 6 1 ?_
  refine Az 6 3 ?_
  refine Az 6 4 ?_
  refine Az 6 5 ?_
  refine AH 6 6 ?_
  refine B8 0 ([3,t,t].length:Int) ?_
  refine el (j':=0) rfl ?_
  refine BB 3 3 ?_
  refine B8 1 ([3,t,t].length:Int) ?_
  refine el (j':=1) rfl ?_
  refine B8 2 ([3,t,t].length:Int) ?_
  refine el (j':=2) rfl ?_
  refine BB t t ?_
  first|exact Ag ⟨[t,0],[],[],[]⟩ (rfl) |(exfalso;omega)
 ·obtain ⟨rfl,rfl,rfl,rfl,hs,k1,q,t1,B,j,C,ii,rfl,r1,r2,hg,X⟩:=hv;simp only [lC,lN]at L;have Y:=n1 (x:=.node k1 q t1 B j C);have e4:=g1 (x:=.node k1 q t1 B j C)
  refine .of (t:=Ik) rfl ?_
  conv=>arg 3;reduce
  obtain ⟨_,⟨aE,aG,rfl,rfl,rfl⟩,aB⟩:=Lo J @ih [1] ln I sub pl V lo H (E.Aa [.node k1 q t1 B j C]) P R (by exact .cons X .nil) rfl
  refine ch aB ?_
  refine BB 0 0 ?_
  refine Az 7 1 ?_
  refine Az 7 3 ?_
  refine Az 7 4 ?_
  refine Az 7 5 ?_
  refine Az 7 6 ?_
  refine Az 7 2 ?_
  refine AH 7 7 ?_
  refine lh (J.look hg) ?_
  refine AH 0 0 ?_
  refine B8 0 ([1].length:Int) ?_
  refine el (j':=0) rfl ?_
  refine BB 1 1 ?_
  first|exact Ag ⟨[t,0],[],[],[]⟩ (rfl) |(exfalso;omega)
 ·obtain ⟨rfl,rfl,rfl,rfl,rfl,k1,q,t1,B,j,C,M,U,O,Q,N,b2,ii,rfl,rfl,hg,X,Z⟩:=hv;simp only [lC,lN]at L;have Y:=n2 (x:=.node k1 q t1 B j C) (y:=.node M U O Q N b2);have e4:=g2 (x:=.node k1 q t1 B j C) (y:=.node M U O Q N b2);obtain ⟨bb,bc,F_,kf,ay,yf,wf,sf,Af,an⟩:=J.fn _ hg;have be:(DO.length:Int)=2:=rfl
  refine .of (t:=Ik) rfl ?_
  conv=>arg 3;reduce
  obtain ⟨_,⟨aI,aJ,rfl,rfl,rfl⟩,aq⟩:=Lo J @ih [1,1] ln I sub pl V lo H (E.Aa [.node k1 q t1 B j C,.node M U O Q N b2]) P R (by exact .cons X (.cons Z .nil)) rfl
  refine ch aq ?_
  refine BB 0 0 ?_
  refine Az 8 1 ?_
  refine Az 8 3 ?_
  refine Az 8 4 ?_
  refine Az 8 5 ?_
  refine Az 8 6 ?_
  refine Az 8 2 ?_
  refine Az 8 7 ?_
  refine AH 8 8 ?_
  refine lh (J.look hg) ?_
  refine AH 1 1 ?_
  refine CO ii 0 ?_
  refine B8 ii fl ?_
  refine el an ?_
  obtain ⟨_,rfl,au⟩:=AkY J (DO.length:Int) 1 (F_.length:Int) kf ay yf wf (Af.length:Int) ([1,1].length:Int) I sub pl V lo [104] sf H DO F_ Af ([1,1].map Bb) P R rfl rfl
  refine ch au ?_
  first|exact Ag ⟨[1,0],[],[],[]⟩ (rfl) |(exfalso;omega)
theorem Aea:Aml 141:=fun {Γ} {al} {fl} {Ar} {Fs} {mp} hC {a} t k o ty v ln grp sub pl bl lo s knm A P R hT hA h=>Aiw hC ((E.node k o ty v s a).high+1) t k o ty v ln grp sub pl bl lo s knm A P R hT hA ⟨h,Nat.lt_succ_self _⟩
abbrev Amk:=@Aeq
theorem WM:Amk 142:=by
 intro Γ J fl L I M C a k o ty v ln t q sub pl H lo s j A P R x z h
 refine .of (t:=YZ) rfl ?_
 conv=>arg 3;reduce
 obtain ⟨_,rfl,B⟩:=Aea C t k o ty v ln q sub pl H lo s j A P R x z
 refine ch B ?_
 refine AH 0 0 ?_
 refine BB t t ?_
 exact Ag ⟨[0],[],[],[]⟩ (rfl)
def Amp (N:Nat):Prop:=∀{Γ:Ctx} {lp pu:Int} {Γ1:Ctx} {xa J:List E} {bo el:List S} (k o:Int) (t b:Int) (xk xo:Int) (V O:Int) (H yk:Int) (Q Z:Int) (I M:Int) (j v:Int) (af sub:Int) (A pl:Int) (fl bl lo:Int) (nm U:List Nat) (L aa:List Nat) (X Y:Rs) (z B:Rs) (C P:Rs) (x R:Rs) (mp:Mp) (hC:Ck Γ A fl C x mp) (hS:Fb lp pu Γ (.node k o t b nm (.node xk xo V O U xa) (.node yk Q Z I L J) bo el) Γ1) (hX:X=E.Aa xa) (hY:Y=E.Aa J) (hB:z=S.Aa bo) (hE:B=S.Aa el) (h:H=X.length/\M=Y.length/\j=z.length/\v=B.length/\k=1:=by exact kn),Ok trees N ⟨[k,o,t,b,xk,xo,V,O,H,yk,Q,Z,I,M,j,v,af,sub,A,pl,fl,bl,lo],[nm,U,L,aa],[X,Y,z,B,C,P,x,R],[mp]⟩ fun zz=>(∃(q:Mp),zz=(0,(⟨[0],[],[],[q]⟩:Aj))/\(Ck Γ1 A fl C x q))
theorem Ald:Amp 137:=by
 intro Γ lp pu Γ1 L ya bo el k o t b U M H B x yk yo yt yw yl V Z v sub al pl fl I lo nm C yn q X Y Bo El Ar P Fs R Q j J N O hB z h
 subst N;subst O;subst hB;subst z;obtain ⟨_,_,_,_,_,hn,hg,r1,r2,hx,_,rfl⟩:=J.AjY om
 refine .of (t:=Zd) rfl ?_
 conv=>arg 3;reduce
 obtain ⟨_,rfl,A⟩:=Aea j t U M H B x v sub pl I lo C q (E.Aa L) P R asm rfl
 refine ch A ?_
 refine BB 0 0 ?_
 refine lm (j.AjV hg) ?_
 refine up [.int .i64 3,.int .i64 t,.int .i64 0] ?_
 refine BB t t ?_
 first|exact Ag ⟨[0],[],[],[(Bw Q nm [.int .i64 3,.int .i64 t,.int .i64 0])]⟩ (⟨_,rfl,(j.E9 hg)⟩) |(exfalso;omega)
def Amo (N:Nat):Prop:=∀{Γ:Ctx} {lp pu:Int} {Γ1:Ctx} {V B:List E} {bo el:List S} (k o:Int) (t b:Int) (xk xo:Int) (M I:Int) (z yk:Int) (J O:Int) (A H:Int) (j q:Int) (ac sub:Int) (Z pl:Int) (fl bl lo:Int) (nm L:List Nat) (C Q:List Nat) (X Y:Rs) (v x:Rs) (Ar P:Rs) (U R:Rs) (mp:Mp) (hC:Ck Γ Z fl Ar U mp) (hS:Fb lp pu Γ (.node k o t b nm (.node xk xo M I L V) (.node yk J O A C B) bo el) Γ1) (hX:X=E.Aa V) (hY:Y=E.Aa B) (hB:v=S.Aa bo) (hE:x=S.Aa el) (h:z=X.length/\H=Y.length/\j=v.length/\q=x.length/\k=2:=by exact kn),Ok trees N ⟨[k,o,t,b,xk,xo,M,I,z,yk,J,O,A,H,j,q,ac,sub,Z,pl,fl,bl,lo],[nm,L,C,Q],[X,Y,v,x,Ar,P,U,R],[mp]⟩ fun zz=>(zz=(0,(⟨[0],[],[],[]⟩:Aj)))
theorem Alc:Amo 138:=by
 intro Γ lp pu Γ1 L ya bo el k o t b Q M H B x yk yo yt Z yl U V v sub al pl fl I lo nm C yn q X Y Bo El Ar P Fs R mp j J N O hB z h
 subst N;subst O;subst hB;subst z;obtain ⟨_,_,_,_,_,_,hn,rfl,u,i,hg,hx,_⟩:=J.AjZ om
 refine .of (t:=Zc) rfl ?_
 conv=>arg 3;reduce
 refine lh (j.look hg) ?_
 refine AH 3 3 ?_
 obtain ⟨_,rfl,A⟩:=WM j Q M H B x u v sub pl I lo C q (E.Aa L) P R asm rfl
 refine ch A ?_
 first|exact Ag ⟨[0],[],[],[]⟩ (rfl) |(exfalso;omega)
def JR (N n:Nat):Prop:=∀{Γ:Ctx} {v pu:Int} {J:Ctx} {l:List S} (ln z:Int) (sub x:Int) (pl fl:Int) (I lo:Int) (B:List Nat) (L A:Rs) (P q R:Rs) (C:Mp) (O:Ck Γ x fl A q C) (Q:Ew v pu Γ l J) (M:L=S.Aa l) (h:ln=L.length/\ln<=200000/\(v=0∨1<=lo)/\0<=lo/\lo+S.Ay l<=1000/\S.Ad l<=200000/\pu=1/\S.Ay l<n),Ok trees N ⟨[ln,z,sub,x,pl,fl,I,lo],[B],[L,A,P,q,R],[C]⟩ fun H=>(∃(j:Int),H=(0,(⟨[0,j],[],[],[]⟩:Aj))/\(lo=j))
def Aem (N:Nat):Prop:=∀{Γ:Ctx} {v pu:Int} {J:Ctx} {l:List S} (ln z:Int) (sub x:Int) (pl fl:Int) (I lo:Int) (B:List Nat) (L A:Rs) (P q R:Rs) (C:Mp) (O:Ck Γ x fl A q C) (Q:Ew v pu Γ l J) (M:L=S.Aa l) (h:ln=L.length/\ln<=200000/\(v=0∨1<=lo)/\0<=lo/\lo+S.Ay l<=1000/\S.Ad l<=200000/\pu=1:=by exact kn),Ok trees N ⟨[ln,z,sub,x,pl,fl,I,lo],[B],[L,A,P,q,R],[C]⟩ fun H=>(∃(j:Int),H=(0,(⟨[0,j],[],[],[]⟩:Aj))/\(lo=j))
theorem JR.of {N n:Nat} (H:Aem N):JR N n:=fun {Γ} {lp} {pu} {Γe} {l} ln grp sub al pl fl bl lo knm L Ar P Fs R mp hC hO hLs h=>H ln grp sub al pl fl bl lo knm L Ar P Fs R mp hC hO hLs (by have:=h;omega)
def Amn (B N:Nat):Prop:=∀{m:Nat} (aj:JR B m) {Γ:Ctx} {lp pu:Int} {Γ1:Ctx} {xa I:List E} {q el:List S} (k o:Int) (t b:Int) (xk xo:Int) (U M:Int) (C yk:Int) (O V:Int) (H L:Int) (j v:Int) (af sub:Int) (al pl:Int) (fl bl lo:Int) (nm Q:List Nat) (J Z:List Nat) (X Y:Rs) (z A:Rs) (Ar P:Rs) (Fs R:Rs) (mp:Mp) (hC:Ck Γ al fl Ar Fs mp) (hS:Fb lp pu Γ (.node k o t b nm (.node xk xo U M Q xa) (.node yk O V H J I) q el) Γ1) (hX:X=E.Aa xa) (hY:Y=E.Aa I) (hB:z=S.Aa q) (hE:A=S.Aa el) (h:C=X.length/\L=Y.length/\j=z.length/\v=A.length/\(lp=0∨1<=lo)/\0<=lo/\lo+max (S.Ay q) (S.Ay el)<=1000/\S.Ad q<=200000/\S.Ad el<=200000/\S.Ay q<m/\S.Ay el<m/\j<=200000/\v<=200000/\k=5/\pu=1:=by exact kn),Ok trees N ⟨[k,o,t,b,xk,xo,U,M,C,yk,O,V,H,L,j,v,af,sub,al,pl,fl,bl,lo],[nm,Q,J,Z],[X,Y,z,A,Ar,P,Fs,R],[mp]⟩ fun zz=>(∃(x:Int),zz=(0,(⟨[0,x],[],[],[]⟩:Aj))/\(lo=x))
theorem Alb:Amn 149 139:=by
 intro m j Γ lp pu Γ1 xa ya bo el k o t b xk xo V O L yk yo yt yw yl A J v sub C pl fl z lo nm U yn q X Y Bo El H P B R I x Z hX hY hB M h
 subst hX;subst hY;subst hB;subst M;obtain ⟨_,_,_,_,_,hx,_,rfl,Γa,Γb,aj,ak⟩:=Z.kif om
 refine .of (t:=Zb) rfl ?_
 conv=>arg 3;reduce
 obtain ⟨_,rfl,N⟩:=WM x xk xo V O L 3 v sub pl z lo U q (E.Aa xa) P R asm rfl
 refine ch N ?_
 refine AH 0 0 ?_
 obtain ⟨_,⟨ae,rfl,rfl⟩,G2⟩:=j A v sub C pl fl z lo q (S.Aa bo) H P B R I x asm rfl kn
 refine ch G2 ?_
 refine AH 0 0 ?_
 obtain ⟨_,⟨Q,rfl,rfl⟩,G3⟩:=j J v sub C pl fl z lo q (S.Aa el) H P B R I x asm rfl kn
 refine ch G3 ?_
 first|exact Ag ⟨[0,lo],[],[],[]⟩ (⟨_,rfl,kn⟩) |(exfalso;omega)
def Amm (B N:Nat):Prop:=∀{m:Nat} (aj:JR B m) {Γ:Ctx} {lp pu:Int} {Γ1:Ctx} {xa I:List E} {j el:List S} (k o:Int) (t b:Int) (xk xo:Int) (U M:Int) (C yk:Int) (O V:Int) (H L:Int) (q x:Int) (af sub:Int) (al pl:Int) (fl bl lo:Int) (nm Q:List Nat) (J Z:List Nat) (X Y:Rs) (z A:Rs) (Ar P:Rs) (Fs R:Rs) (mp:Mp) (hC:Ck Γ al fl Ar Fs mp) (hS:Fb lp pu Γ (.node k o t b nm (.node xk xo U M Q xa) (.node yk O V H J I) j el) Γ1) (hX:X=E.Aa xa) (hY:Y=E.Aa I) (hB:z=S.Aa j) (hE:A=S.Aa el) (h:C=X.length/\L=Y.length/\q=z.length/\x=A.length/\(lp=0∨1<=lo)/\0<=lo/\lo+1+S.Ay j<=1000/\S.Ay j<m/\q<=200000/\S.Ad j<=200000/\S.Ad j<=200000/\k=6/\pu=1:=by exact kn),Ok trees N ⟨[k,o,t,b,xk,xo,U,M,C,yk,O,V,H,L,q,x,af,sub,al,pl,fl,bl,lo],[nm,Q,J,Z],[X,Y,z,A,Ar,P,Fs,R],[mp]⟩ fun zz=>(∃(v:Int),zz=(0,(⟨[0,v],[],[],[]⟩:Aj))/\(lo=v))
theorem Ala:Amm 149 140:=by
 intro m j Γ lp pu Γ1 U ya Z el k o t b xk xo N J B yk yo yt yw yl x aj v sub V pl fl A lo nm M yn q X Y Bo El Ar P Q R mp z O hX hY hB H h
 subst hX;subst hY;subst hB;subst H;obtain ⟨_,_,_,_,_,hx,_,b1,b2,rfl,Γa,ai⟩:=O.AjX om
 refine .of (t:=Za) rfl ?_
 conv=>arg 3;reduce
 obtain ⟨_,rfl,I⟩:=WM z xk xo N J B 3 v sub pl A lo M q (E.Aa U) P R asm rfl
 refine ch I ?_
 refine BB 0 0 ?_
 refine lt b 1 (fun C=>?_) fun C=>?_
 ·first|exact Ag ⟨[1,lo],[],[],[]⟩ (⟨_,rfl,kn⟩) |(exfalso;omega)
 refine gt b 1024 (fun L=>?_) fun L=>?_
 ·first|exact Ag ⟨[1,lo],[],[],[]⟩ (⟨_,rfl,kn⟩) |(exfalso;omega)
 obtain ⟨_,⟨ah,rfl,rfl⟩,G4⟩:=j x v sub V pl fl A (lo+1) q (S.Aa Z) Ar P Q R mp z asm rfl kn
 refine ch G4 ?_
 first|exact Ag ⟨[0,((lo+1)-1)],[],[],[]⟩ (⟨_,rfl,kn⟩) |(exfalso;omega)
def AmP (O N:Nat) (m n:Nat):Prop:=∀{Γ:Ctx} {B pu:Int} {I:Ctx} {l:List S} (ln len:Int) (j H:Int) (sub z:Int) (pl fl:Int) (Q lo:Int) (C:List Nat) (L A:Rs) (P x R:Rs) (J:Mp) (V:Ck Γ z fl A x J) (X:Ew B pu Γ (l.drop j.toNat) I) (U:L=S.Aa l) (h:ln=L.length/\ln<=200000/\len=ln/\0<=j/\(B=0∨1<=lo)/\0<=lo/\lo+S.Ay (l.drop j.toNat)<=1000/\S.Ay (l.drop j.toNat)<=m/\S.Ad (l.drop j.toNat)<=200000/\pu=1/\(len-j).toNat<n),Ok trees N ⟨[ln,len,j,H,sub,z,pl,fl,Q,lo],[C],[L,A,P,x,R],[J]⟩ fun M=>(∃(q:Int),∃(v:Mp),M=(1,(⟨[q],[],[],[v]⟩:Aj))/\(Ck I z fl A x v)/\(lo=q))
def Amq (A N:Nat):Prop:=∀{m:Nat} (O:JR A m) {Γ:Ctx} {C pu:Int} {J:Ctx} {l:List S} (ln len:Int) (j I:Int) (sub z:Int) (pl fl:Int) (U lo:Int) (H:List Nat) (L B:Rs) (P x R:Rs) (M:Mp) (X:Ck Γ z fl B x M) (Y:Ew C pu Γ (l.drop j.toNat) J) (V:L=S.Aa l) (h:ln=L.length/\ln<=200000/\len=ln/\0<=j/\(C=0∨1<=lo)/\0<=lo/\lo+S.Ay (l.drop j.toNat)<=1000/\S.Ay (l.drop j.toNat)<=m/\S.Ad (l.drop j.toNat)<=200000/\pu=1:=by exact kn),Ok trees N ⟨[ln,len,j,I,sub,z,pl,fl,U,lo],[H],[L,B,P,x,R],[M]⟩ fun Q=>(∃(q:Int),∃(v:Mp),Q=(1,(⟨[q],[],[],[v]⟩:Aj))/\(Ck J z fl B x v)/\(lo=q))
theorem Aix {m:Nat} (ah:JR 149 m) (n:Nat):AmP 149 135 m n:=by
 induction n with
 |zero=>intro Γ lp pu Γe l ln len j C sub M pl fl O lo B L U P Q R N A H au h;exact absurd h.2.2.2.2.2.2.2.2.2.2 (Nat.not_lt_zero _)
 |succ n ih=>
 intro Γ lp pu Γe l ln len j C sub M pl fl O lo B L U P Q R N A H au h
 subst au
 refine .of (t:=V8) rfl ?_
 conv=>arg 3;reduce
 refine lt j len (fun t1=>?_) fun t1=>?_
 ·refine CO j 0 ?_
  refine B8 j ln ?_
  obtain ⟨v,aj,t_1,ai,aa,ag,ab,Z,ad,X,J,ae,af,V,Y,ac,I,x,z,bj,aE,q,bq,bx,bv⟩:=Ew.get j H om om
  refine el aE ?_
  have bt:=q.AdM;have a6:=S.len x;have a7:=S.len z;have a1:=S.A0 x;have aW:=S.A0 z;have bc:=q.pure
  refine eq v 1 (fun t3=>?_) fun t3=>?_
  ·obtain ⟨_,⟨aB,rfl,aA⟩,G4⟩:=Ald v aj t_1 ai ag ab Z ad ((E.Aa J).length:Int) ae af V Y ((E.Aa I).length:Int) ((S.Aa x).length:Int) ((S.Aa z).length:Int) C sub M pl fl O lo aa X ac B (E.Aa J) (E.Aa I) (S.Aa x) (S.Aa z) U P Q R N A q rfl rfl rfl rfl
   refine ch G4 ?_
   refine BB 0 0 ?_
   obtain ⟨_,⟨bz,aC,rfl,bo,rfl⟩,G5⟩:=ih ln len (j+1) C sub M pl fl O lo B (S.Aa l) U P Q R aB aA asm rfl kn
   refine cm G5 ?_
   refine ch G5 ?_
   exact Ag ⟨[lo],[],[],[aC]⟩ (⟨_,_,rfl,(by first|assumption|(obtain ⟨_,_,e⟩:=Bd (l:=l) (j:=j) om;rw [e]at H;cases H;exact A)),kn⟩)
  refine eq v 2 (fun t6=>?_) fun t6=>?_
  ·obtain ⟨_,rfl,G7⟩:=Alc v aj t_1 ai ag ab Z ad ((E.Aa J).length:Int) ae af V Y ((E.Aa I).length:Int) ((S.Aa x).length:Int) ((S.Aa z).length:Int) C sub M pl fl O lo aa X ac B (E.Aa J) (E.Aa I) (S.Aa x) (S.Aa z) U P Q R N A q rfl rfl rfl rfl
   refine ch G7 ?_
   refine BB 0 0 ?_
   obtain ⟨_,⟨bg,aD,rfl,bi,rfl⟩,G8⟩:=ih ln len (j+1) C sub M pl fl O lo B (S.Aa l) U P Q R N (A.keep q om) asm rfl kn
   refine cm G8 ?_
   refine ch G8 ?_
   exact Ag ⟨[lo],[],[],[aD]⟩ (⟨_,_,rfl,(by first|assumption|(obtain ⟨_,_,e⟩:=Bd (l:=l) (j:=j) om;rw [e]at H;cases H;exact A)),kn⟩)
  refine eq v 5 (fun t9=>?_) fun t9=>?_
  ·obtain ⟨_,⟨aX,rfl,rfl⟩,aP⟩:=Alb @ah v aj t_1 ai ag ab Z ad ((E.Aa J).length:Int) ae af V Y ((E.Aa I).length:Int) ((S.Aa x).length:Int) ((S.Aa z).length:Int) C sub M pl fl O lo aa X ac B (E.Aa J) (E.Aa I) (S.Aa x) (S.Aa z) U P Q R N A q rfl rfl rfl rfl
   refine ch aP ?_
   refine BB 0 0 ?_
   obtain ⟨_,⟨a9,ap,rfl,aY,rfl⟩,aw⟩:=ih ln len (j+1) C sub M pl fl O lo B (S.Aa l) U P Q R N (A.keep q om) asm rfl kn
   refine cm aw ?_
   refine ch aw ?_
   exact Ag ⟨[lo],[],[],[ap]⟩ (⟨_,_,rfl,(by first|assumption|(obtain ⟨_,_,e⟩:=Bd (l:=l) (j:=j) om;rw [e]at H;cases H;exact A)),kn⟩)
  refine eq v 6 (fun aG=>?_) fun aG=>?_
  ·obtain ⟨_,⟨a0,rfl,rfl⟩,aK⟩:=Ala @ah v aj t_1 ai ag ab Z ad ((E.Aa J).length:Int) ae af V Y ((E.Aa I).length:Int) ((S.Aa x).length:Int) ((S.Aa z).length:Int) C sub M pl fl O lo aa X ac B (E.Aa J) (E.Aa I) (S.Aa x) (S.Aa z) U P Q R N A q rfl rfl rfl rfl
   refine ch aK ?_
   refine BB 0 0 ?_
   obtain ⟨_,⟨a8,an,rfl,aZ,rfl⟩,av⟩:=ih ln len (j+1) C sub M pl fl O lo B (S.Aa l) U P Q R N (A.keep q om) asm rfl kn
   refine cm av ?_
   refine ch av ?_
   exact Ag ⟨[lo],[],[],[an]⟩ (⟨_,_,rfl,(by first|assumption|(obtain ⟨_,_,e⟩:=Bd (l:=l) (j:=j) om;rw [e]at H;cases H;exact A)),kn⟩)
  refine eq v 7 (fun aR=>?_) fun aR=>?_
  ·refine eq lo 0 (fun aH=>?_) fun aH=>?_
   ·exact dead
   obtain ⟨_,⟨a3,aq,rfl,bb,rfl⟩,ax⟩:=ih ln len (j+1) C sub M pl fl O lo B (S.Aa l) U P Q R N (A.keep q om) asm rfl kn
   refine cm ax ?_
   refine ch ax ?_
   exact Ag ⟨[lo],[],[],[aq]⟩ (⟨_,_,rfl,(by first|assumption|(obtain ⟨_,_,e⟩:=Bd (l:=l) (j:=j) om;rw [e]at H;cases H;exact A)),kn⟩)
  refine eq v 8 (fun aM=>?_) fun aM=>?_
  ·refine eq lo 0 (fun aL=>?_) fun aL=>?_
   ·exact dead
   obtain ⟨_,⟨ba,ao,rfl,a2,rfl⟩,az⟩:=ih ln len (j+1) C sub M pl fl O lo B (S.Aa l) U P Q R N (A.keep q om) asm rfl kn
   refine cm az ?_
   refine ch az ?_
   exact Ag ⟨[lo],[],[],[ao]⟩ (⟨_,_,rfl,(by first|assumption|(obtain ⟨_,_,e⟩:=Bd (l:=l) (j:=j) om;rw [e]at H;cases H;exact A)),kn⟩)
  refine eq v 3 (fun aO=>?_) fun aO=>?_
  ·exact dead
  refine eq v 4 (fun aU=>?_) fun aU=>?_
  ·exact dead
  refine eq v 12 (fun aQ=>?_) fun aQ=>?_
  ·exact dead
  refine eq v 9 (fun aJ=>?_) fun aJ=>?_
  ·exact dead
  refine eq v 10 (fun aV=>?_) fun aV=>?_
  ·exact dead
  refine eq v 11 (fun aN=>?_) fun aN=>?_
  ·exact dead
  obtain ⟨_,⟨a4,ak,rfl,a5,rfl⟩,ay⟩:=ih ln len (j+1) C sub M pl fl O lo B (S.Aa l) U P Q R N (A.keep q om) asm rfl kn
  refine cm ay ?_
  refine ch ay ?_
  exact Ag ⟨[lo],[],[],[ak]⟩ (⟨_,_,rfl,(by first|assumption|(obtain ⟨_,_,e⟩:=Bd (l:=l) (j:=j) om;rw [e]at H;cases H;exact A)),kn⟩)
 exact Ag ⟨[lo],[],[],[N]⟩ (⟨_,_,rfl,(by first|assumption|(obtain ⟨_,_,e⟩:=Bd (l:=l) (j:=j) om;rw [e]at H;cases H;exact A)),kn⟩)
theorem Ale:Amq 149 135:=fun {m} hC149 {Γ} {lp} {pu} {Γe} {l} ln len j grp sub al pl fl bl lo knm L Ar P Fs R mp hC hO hLs h=>Aix @hC149 ((len-j).toNat+1) ln len j grp sub al pl fl bl lo knm L Ar P Fs R mp hC hO hLs ⟨h.1,h.2.1,h.2.2.1,h.2.2.2.1,h.2.2.2.2.1,h.2.2.2.2.2.1,h.2.2.2.2.2.2.1,h.2.2.2.2.2.2.2.1,h.2.2.2.2.2.2.2.2.1,h.2.2.2.2.2.2.2.2.2,Nat.lt_succ_self _⟩
def Amt (z N:Nat):Prop:=∀{m:Nat} (M:JR z m) {Γ:Ctx} {B pu:Int} {H:Ctx} {l:List S} (ln C:Int) (sub x:Int) (pl fl:Int) (Q lo:Int) (I:List Nat) (L A:Rs) (P v R:Rs) (J:Mp) (V:Ck Γ x fl A v J) (X:Ew B pu Γ l H) (U:L=S.Aa l) (h:ln=L.length/\ln<=200000/\(B=0∨1<=lo)/\0<=lo/\lo+S.Ay l<=1000/\S.Ad l<=200000/\S.Ay l<=m/\pu=1:=by exact kn),Ok trees N ⟨[ln,C,sub,x,pl,fl,Q,lo],[I],[L,A,P,v,R],[J]⟩ fun O=>(∃(j:Int),∃(q:Mp),O=(0,(⟨[0,j],[],[],[q]⟩:Aj))/\(Ck H x fl A v q)/\(lo=j))
theorem Aec:Amt 149 130:=by
 intro m j Γ U pu X l ln A sub M pl fl I lo z L O P J R Q C H v h
 subst v;have V:S.Ay (l.drop (0:Int).toNat)=S.Ay l:=rfl;have Y:S.Ad (l.drop (0:Int).toNat)=S.Ad l:=rfl
 refine .of (t:=VA) rfl ?_
 conv=>arg 3;reduce
 obtain ⟨_,⟨B,q,rfl,N,rfl⟩,x⟩:=Ale @j ln ln 0 A sub M pl fl I lo z (S.Aa l) O P J R Q C H rfl
 refine cm x ?_
 refine ch x ?_
 exact Ag ⟨[0,lo],[],[],[q]⟩ (⟨_,_,rfl,asm,kn⟩)
theorem Ait (n:Nat):JR 149 n:=by
 induction n with
 |zero=>intro Γ O pu U l ln v sub C pl fl A lo q L H P B R I x z j h;exact absurd h.2.2.2.2.2.2.2 (Nat.not_lt_zero _)
 |succ n ih=>
 intro Γ O pu U l ln v sub C pl fl A lo q L H P B R I x z j h
 refine .of (t:=YT) rfl ?_
 conv=>arg 3;reduce
 obtain ⟨_,⟨J,N,rfl,Q,rfl⟩,M⟩:=Aec @ih ln v sub C pl fl A lo q L H P B R I x z j
 refine ch M ?_
 exact Ag ⟨[0,lo],[],[],[]⟩ (⟨_,rfl,kn⟩)
theorem AkV:Aem 149:=fun {Γ} {lp} {pu} {Γe} {l} ln grp sub al pl fl bl lo knm L Ar P Fs R mp hC hO hLs h=>Ait (S.Ay l+1) ln grp sub al pl fl bl lo knm L Ar P Fs R mp hC hO hLs ⟨h.1,h.2.1,h.2.2.1,h.2.2.2.1,h.2.2.2.2.1,h.2.2.2.2.2.1,h.2.2.2.2.2.2,Nat.lt_succ_self _⟩
def AmW (N n:Nat):Prop:=∀(l:List Ae) (ok ln:Int) (len j:Int) (g1 J:Int) (V p1:Int) (P z:Int) (g2 I:Int) (a2 Z:Int) (O Q lo:Int) (Y C:List Nat) (L x:Rs) (A B:Rs) (R A2:Rs) (M X H:Rs) (v:Mp) (hL:L=Aq l) (hm:v=am (l.take j.toNat)) (hd:Yh [] l) (h:ln=L.length/\len=ln/\0<=j/\j<=ln/\ln<=8/\(ln-j).toNat<n),Ok trees N ⟨[ok,ln,len,j,g1,J,V,p1,P,z,g2,I,a2,Z,O,Q,lo],[Y,C],[L,x,A,B,R,A2,M,X,H],[v]⟩ fun U=>(∃(q:Mp),U=(0,(⟨[],[],[],[q]⟩:Aj))/\(q=am l))
def AmA (N:Nat):Prop:=∀(l:List Ae) (ok ln:Int) (len j:Int) (g1 J:Int) (a1 p1:Int) (R z:Int) (g2 B:Int) (a2 Y:Int) (P U lo:Int) (O Z:List Nat) (L x:Rs) (C X:Rs) (V M:Rs) (Q H A:Rs) (v:Mp) (hL:L=Aq l) (hm:v=am (l.take j.toNat)) (hd:Yh [] l) (h:ln=L.length/\len=ln/\0<=j/\j<=ln/\ln<=8:=by exact kn),Ok trees N ⟨[ok,ln,len,j,g1,J,a1,p1,R,z,g2,B,a2,Y,P,U,lo],[O,Z],[L,x,C,X,V,M,Q,H,A],[v]⟩ fun I=>(∃(q:Mp),I=(0,(⟨[],[],[],[q]⟩:Aj))/\(q=am l))
theorem Ai7 (n:Nat):AmW 106 n:=by
 induction n with
 |zero=>intro l ok ln len j g1 U O p1 Z B g2 Q a2 p2 X r2 lo V N L A C J R1 A2 Y R P mp I H hd h;exact absurd h.2.2.2.2.2 (Nat.not_lt_zero _)
 |succ n ih=>
 intro l ok ln len j g1 U O p1 Z B g2 Q a2 p2 X r2 lo V N L A C J R1 A2 Y R P mp I H hd h
 subst I;subst H
 refine .of (t:=Zy) rfl ?_
 conv=>arg 3;reduce
 refine lt j len (fun t1=>?_) fun t1=>?_
 ·refine CO j 0 ?_
  refine B8 j ln ?_
  obtain ⟨x,CR,q,ag,z,v⟩:=HU (l:=l) j om om
  refine el z ?_
  refine lm (R9 (M:=[]) hd v) ?_
  refine up [.int .i64 0,.int .i64 q,.int .i64 j] ?_
  obtain ⟨_,⟨ae,rfl,rfl⟩,G3⟩:=ih l ok ln len (j+1) g1 U O p1 Z B g2 Q a2 p2 X r2 lo V N (Aq l) A C J R1 A2 Y R P (Bw (am (l.take j.toNat)) x [.int .i64 0,.int .i64 q,.int .i64 j]) rfl (AbP (M:=[]) hd v om) hd kn
  refine ch G3 ?_
  exact Ag ⟨[],[],[],[(am l)]⟩ (⟨_,rfl,(by first|rfl|exact RB (M:=[]) om)⟩)
 exact Ag ⟨[],[],[],[(am (l.take j.toNat))]⟩ (⟨_,rfl,(by first|rfl|exact RB (M:=[]) om)⟩)
theorem Alv:AmA 106:=fun l ok ln len j g1 N H p1 R v g2 J a2 X P U lo O C L q x B V Z Q M I Y A z hd h=>Ai7 ((ln-j).toNat+1) l ok ln len j g1 N H p1 R v g2 J a2 X P U lo O C L q x B V Z Q M I Y A z hd ⟨h.1,h.2.1,h.2.2.1,h.2.2.2.1,h.2.2.2.2,Nat.lt_succ_self _⟩
def AmV (N n:Nat):Prop:=∀(l:List Pe) (M:LD) (ok ln:Int) (len j:Int) (g1 Q:Int) (I p1:Int) (X z:Int) (g2 O:Int) (a2 p2:Int) (U Y lo:Int) (R H:List Nat) (L x:Rs) (A C:Rs) (Z A2:Rs) (V P J:Rs) (v:Mp) (hL:L=Ai l) (hm:v=M++pm (l.take j.toNat)) (hd:FrP M l) (h:ln=L.length/\len=ln/\0<=j/\j<=ln/\ln<=8/\(ln-j).toNat<n),Ok trees N ⟨[ok,ln,len,j,g1,Q,I,p1,X,z,g2,O,a2,p2,U,Y,lo],[R,H],[L,x,A,C,Z,A2,V,P,J],[v]⟩ fun B=>(∃(q:Mp),B=(0,(⟨[],[],[],[q]⟩:Aj))/\(q=M++pm l))
def Am9 (N:Nat):Prop:=∀(l:List Pe) (M:LD) (ok ln:Int) (len j:Int) (g1 J:Int) (X p1:Int) (Q z:Int) (g2 I:Int) (a2 p2:Int) (P R lo:Int) (Z C:List Nat) (L x:Rs) (A B:Rs) (U A2:Rs) (O Y H:Rs) (v:Mp) (hL:L=Ai l) (hm:v=M++pm (l.take j.toNat)) (hd:FrP M l) (h:ln=L.length/\len=ln/\0<=j/\j<=ln/\ln<=8:=by exact kn),Ok trees N ⟨[ok,ln,len,j,g1,J,X,p1,Q,z,g2,I,a2,p2,P,R,lo],[Z,C],[L,x,A,B,U,A2,O,Y,H],[v]⟩ fun V=>(∃(q:Mp),V=(0,(⟨[],[],[],[q]⟩:Aj))/\(q=M++pm l))
theorem Ai6 (n:Nat):AmV 107 n:=by
 induction n with
 |zero=>intro l M ok ln len j g1 U O p1 Z B g2 Q a2 p2 X r2 lo V N L A C J R1 A2 Y R P mp I H hd h;exact absurd h.2.2.2.2.2 (Nat.not_lt_zero _)
 |succ n ih=>
 intro l M ok ln len j g1 U O p1 Z B g2 Q a2 p2 X r2 lo V N L A C J R1 A2 Y R P mp I H hd h
 subst I;subst H
 refine .of (t:=Zx) rfl ?_
 conv=>arg 3;reduce
 refine lt j len (fun t1=>?_) fun t1=>?_
 ·refine CO j 0 ?_
  refine B8 j ln ?_
  obtain ⟨x,q,z,v⟩:=FG (l:=l) j om om
  refine el z ?_
  refine lm (Qw hd v) ?_
  refine up [.int .i64 2,.int .i64 q,.int .i64 0] ?_
  obtain ⟨_,⟨ae,rfl,rfl⟩,G3⟩:=ih l M ok ln len (j+1) g1 U O p1 Z B g2 Q a2 p2 X r2 lo V N (Ai l) A C J R1 A2 Y R P (Bw (M++pm (l.take j.toNat)) x [.int .i64 2,.int .i64 q,.int .i64 0]) rfl (AaF hd v om) hd kn
  refine ch G3 ?_
  exact Ag ⟨[],[],[],[(M++pm l)]⟩ (⟨_,rfl,(by first|rfl|exact Qx om)⟩)
 exact Ag ⟨[],[],[],[(M++pm (l.take j.toNat))]⟩ (⟨_,rfl,(by first|rfl|exact Qx om)⟩)
theorem Alu:Am9 107:=fun l M ok ln len j g1 O H p1 U v g2 J a2 Y Q V lo P C L q x B X A2 R N I Z A z hd h=>Ai6 ((ln-j).toNat+1) l M ok ln len j g1 O H p1 U v g2 J a2 Y Q V lo P C L q x B X A2 R N I Z A z hd ⟨h.1,h.2.1,h.2.2.1,h.2.2.2.1,h.2.2.2.2,Nat.lt_succ_self _⟩
def AmU (N n:Nat):Prop:=∀(l:List Fe) (M:LD) (ok ln:Int) (len j:Int) (g2 z:Int) (a2 J:Int) (H I lo:Int) (P:List Nat) (L O:Rs) (C A x:Rs) (v:Mp) (R:L=Ak l) (Q:v=M++fm (l.take j.toNat)) (hd:Xb M l) (h:ln=L.length/\len=ln/\0<=j/\j<=ln/\ln<=8/\(ln-j).toNat<n),Ok trees N ⟨[ok,ln,len,j,g2,z,a2,J,H,I,lo],[P],[L,O,C,A,x],[v]⟩ fun B=>(∃(q:Mp),B=(0,(⟨[],[],[],[q]⟩:Aj))/\(q=M++fm l))
def Am8 (N:Nat):Prop:=∀(l:List Fe) (M:LD) (ok ln:Int) (len j:Int) (g2 z:Int) (a2 J:Int) (H I lo:Int) (P:List Nat) (L O:Rs) (C A x:Rs) (v:Mp) (R:L=Ak l) (Q:v=M++fm (l.take j.toNat)) (hd:Xb M l) (h:ln=L.length/\len=ln/\0<=j/\j<=ln/\ln<=8:=by exact kn),Ok trees N ⟨[ok,ln,len,j,g2,z,a2,J,H,I,lo],[P],[L,O,C,A,x],[v]⟩ fun B=>(∃(q:Mp),B=(0,(⟨[],[],[],[q]⟩:Aj))/\(q=M++fm l))
theorem Ai5 (n:Nat):AmU 108 n:=by
 induction n with
 |zero=>intro l M ok ln len j g2 I a2 Q O P lo C L R N J H Z B A hd h;exact absurd h.2.2.2.2.2 (Nat.not_lt_zero _)
 |succ n ih=>
 intro l M ok ln len j g2 I a2 Q O P lo C L R N J H Z B A hd h
 subst B;subst A
 refine .of (t:=Zw) rfl ?_
 conv=>arg 3;reduce
 refine lt j len (fun t1=>?_) fun t1=>?_
 ·refine CO j 0 ?_
  refine B8 j ln ?_
  obtain ⟨x,U,q,V,af,ad,ac,ae,aa,ab,z,v⟩:=FH (l:=l) j om om
  refine el z ?_
  refine lm (Rc hd v) ?_
  refine up [.int .i64 1,.int .i64 q,.int .i64 j] ?_
  obtain ⟨_,⟨X,rfl,rfl⟩,Y⟩:=ih l M ok ln len (j+1) g2 I a2 Q O P lo C (Ak l) R N J H (Bw (M++fm (l.take j.toNat)) x [.int .i64 1,.int .i64 q,.int .i64 j]) rfl (Abw hd v om) hd kn
  refine ch Y ?_
  exact Ag ⟨[],[],[],[(M++fm l)]⟩ (⟨_,rfl,(by first|rfl|exact Rd om)⟩)
 exact Ag ⟨[],[],[],[(M++fm (l.take j.toNat))]⟩ (⟨_,rfl,(by first|rfl|exact Rd om)⟩)
theorem Als:Am8 108:=fun l M ok ln len j g2 A a2 J H I lo x L O C B z N v q hd h=>Ai5 ((ln-j).toNat+1) l M ok ln len j g2 A a2 J H I lo x L O C B z N v q hd ⟨h.1,h.2.1,h.2.2.1,h.2.2.2.1,h.2.2.2.2,Nat.lt_succ_self _⟩
def AmB (N:Nat):Prop:=∀(av:List Ae) (pv:List Pe) (fs:List Fe) (g sub:Int) (q pl:Int) (fl A:Int) (z:List Nat) (v P:Rs) (j R:Rs) (I:v=Aq av) (M:P=Ai pv) (J:j=Ak fs) (L:Yh [] av) (C:FrP (am av) pv) (H:Xb (am av++pm pv) fs) (h:q=v.length/\pl=P.length/\fl=j.length/\q<=8/\pl<=8/\fl<=8:=by exact kn),Ok trees N ⟨[g,sub,q,pl,fl,A],[z],[v,P,j,R],[]⟩ fun B=>(∃(x:Mp),B=(0,(⟨[g,sub,q,pl,fl,A],[z],[v,P,j,R],[x]⟩:Aj))/\(x=am av++pm pv++fm fs))
theorem Aeh:AmB 105:=by
 intro av pv fs g sub q pl fl v j U P Q R z N A B C x h
 subst z;subst N;subst A
 refine .of (t:=Zz) rfl ?_
 conv=>arg 3;reduce
 refine md [] ?_
 obtain ⟨_,⟨I,rfl,rfl⟩,H⟩:=Alv av 1 q q 0 g sub q pl fl v g sub q pl fl v 0 j j (Aq av) (Aq av) (Ai pv) (Ak fs) R (Aq av) (Ai pv) (Ak fs) R [] rfl rfl B
 refine ch H ?_
 obtain ⟨_,⟨O,rfl,rfl⟩,M⟩:=Alu pv (am av) 1 pl pl 0 g sub q pl fl v g sub q pl fl v 0 j j (Ai pv) (Aq av) (Ai pv) (Ak fs) R (Aq av) (Ai pv) (Ak fs) R (am av) rfl (Qv _ _) C
 refine ch M ?_
 obtain ⟨_,⟨J,rfl,rfl⟩,L⟩:=Als fs (am av++pm pv) 1 fl fl 0 g sub q pl fl v 0 j (Ak fs) (Aq av) (Ai pv) (Ak fs) R ((am av)++pm pv) rfl (Rb _ _) x
 refine ch L ?_
 exact Ag ⟨[g,sub,q,pl,fl,v],[j],[(Aq av),(Ai pv),(Ak fs),R],[((am av++pm pv)++fm fs)]⟩ (⟨_,rfl,rfl⟩)
def AmT (N n:Nat):Prop:=∀(l:List Ae) (n1 ln:Int) (len j:Int) (g1 J:Int) (V p1:Int) (P z:Int) (g2 I:Int) (a2 Z:Int) (O Q lo:Int) (Y C:List Nat) (L x:Rs) (A B:Rs) (R A2:Rs) (M X H:Rs) (v:Mp) (hL:L=Aq l) (hm:v=am (l.take j.toNat)) (hd:Yh [] l) (h:ln=L.length/\len=ln/\0<=j/\j<=ln/\ln<=8/\(ln-j).toNat<n),Ok trees N ⟨[n1,ln,len,j,g1,J,V,p1,P,z,g2,I,a2,Z,O,Q,lo],[Y,C],[L,x,A,B,R,A2,M,X,H],[v]⟩ fun U=>(∃(q:Mp),U=(0,(⟨[],[],[],[q]⟩:Aj))/\(q=am l))
def Am7 (N:Nat):Prop:=∀(l:List Ae) (n1 ln:Int) (len j:Int) (g1 J:Int) (a1 p1:Int) (R z:Int) (g2 B:Int) (a2 Y:Int) (P U lo:Int) (O Z:List Nat) (L x:Rs) (C X:Rs) (V M:Rs) (Q H A:Rs) (v:Mp) (hL:L=Aq l) (hm:v=am (l.take j.toNat)) (hd:Yh [] l) (h:ln=L.length/\len=ln/\0<=j/\j<=ln/\ln<=8:=by exact kn),Ok trees N ⟨[n1,ln,len,j,g1,J,a1,p1,R,z,g2,B,a2,Y,P,U,lo],[O,Z],[L,x,C,X,V,M,Q,H,A],[v]⟩ fun I=>(∃(q:Mp),I=(0,(⟨[],[],[],[q]⟩:Aj))/\(q=am l))
theorem Ai4 (n:Nat):AmT 112 n:=by
 induction n with
 |zero=>intro l n1 ln len j g1 U O p1 Z B g2 Q a2 p2 X r2 lo V N L A C J R1 A2 Y R P mp I H hd h;exact absurd h.2.2.2.2.2 (Nat.not_lt_zero _)
 |succ n ih=>
 intro l n1 ln len j g1 U O p1 Z B g2 Q a2 p2 X r2 lo V N L A C J R1 A2 Y R P mp I H hd h
 subst I;subst H
 refine .of (t:=Zv) rfl ?_
 conv=>arg 3;reduce
 refine lt j len (fun t1=>?_) fun t1=>?_
 ·refine CO j 0 ?_
  refine B8 j ln ?_
  obtain ⟨x,CR,q,ag,z,v⟩:=HU (l:=l) j om om
  refine el z ?_
  refine lm (R9 (M:=[]) hd v) ?_
  refine up [.int .i64 0,.int .i64 q,.int .i64 j] ?_
  obtain ⟨_,⟨ae,rfl,rfl⟩,G3⟩:=ih l n1 ln len (j+1) g1 U O p1 Z B g2 Q a2 p2 X r2 lo V N (Aq l) A C J R1 A2 Y R P (Bw (am (l.take j.toNat)) x [.int .i64 0,.int .i64 q,.int .i64 j]) rfl (AbP (M:=[]) hd v om) hd kn
  refine ch G3 ?_
  exact Ag ⟨[],[],[],[(am l)]⟩ (⟨_,rfl,(by first|rfl|exact RB (M:=[]) om)⟩)
 exact Ag ⟨[],[],[],[(am (l.take j.toNat))]⟩ (⟨_,rfl,(by first|rfl|exact RB (M:=[]) om)⟩)
theorem Aeg:Am7 112:=fun l n1 ln len j g1 N H p1 R v g2 J a2 X P U lo O C L q x B V Z Q M I Y A z hd h=>Ai4 ((ln-j).toNat+1) l n1 ln len j g1 N H p1 R v g2 J a2 X P U lo O C L q x B V Z Q M I Y A z hd ⟨h.1,h.2.1,h.2.2.1,h.2.2.2.1,h.2.2.2.2,Nat.lt_succ_self _⟩
def AmS (N n:Nat):Prop:=∀(l:List Fe) (M:LD) (n1 ln:Int) (len j:Int) (g1 Q:Int) (I p1:Int) (X z:Int) (g2 O:Int) (a2 p2:Int) (U Y lo:Int) (R H:List Nat) (L x:Rs) (A C:Rs) (Z A2:Rs) (V P J:Rs) (v:Mp) (hL:L=Ak l) (hm:v=M++fm (l.take j.toNat)) (hd:Xb M l) (h:ln=L.length/\len=ln/\0<=j/\j<=ln/\ln<=8/\(ln-j).toNat<n),Ok trees N ⟨[n1,ln,len,j,g1,Q,I,p1,X,z,g2,O,a2,p2,U,Y,lo],[R,H],[L,x,A,C,Z,A2,V,P,J],[v]⟩ fun B=>(∃(q:Mp),B=(0,(⟨[],[],[],[q]⟩:Aj))/\(q=M++fm l))
def Am5 (N:Nat):Prop:=∀(l:List Fe) (M:LD) (n1 ln:Int) (len j:Int) (g1 J:Int) (X p1:Int) (Q z:Int) (g2 I:Int) (a2 p2:Int) (P R lo:Int) (Z C:List Nat) (L x:Rs) (A B:Rs) (U A2:Rs) (O Y H:Rs) (v:Mp) (hL:L=Ak l) (hm:v=M++fm (l.take j.toNat)) (hd:Xb M l) (h:ln=L.length/\len=ln/\0<=j/\j<=ln/\ln<=8:=by exact kn),Ok trees N ⟨[n1,ln,len,j,g1,J,X,p1,Q,z,g2,I,a2,p2,P,R,lo],[Z,C],[L,x,A,B,U,A2,O,Y,H],[v]⟩ fun V=>(∃(q:Mp),V=(0,(⟨[],[],[],[q]⟩:Aj))/\(q=M++fm l))
theorem Ai2 (n:Nat):AmS 114 n:=by
 induction n with
 |zero=>intro l M n1 ln len j g1 U O p1 Z B g2 Q a2 p2 X r2 lo V N L A C J R1 A2 Y R P mp I H hd h;exact absurd h.2.2.2.2.2 (Nat.not_lt_zero _)
 |succ n ih=>
 intro l M n1 ln len j g1 U O p1 Z B g2 Q a2 p2 X r2 lo V N L A C J R1 A2 Y R P mp I H hd h
 subst I;subst H
 refine .of (t:=Zt) rfl ?_
 conv=>arg 3;reduce
 refine lt j len (fun t1=>?_) fun t1=>?_
 ·refine CO j 0 ?_
  refine B8 j ln ?_
  obtain ⟨x,ae,q,af,ap,an,al,ao,aj,ak,z,v⟩:=FH (l:=l) j om om
  refine el z ?_
  refine lm (Rc hd v) ?_
  refine up [.int .i64 1,.int .i64 q,.int .i64 j] ?_
  obtain ⟨_,⟨ag,rfl,rfl⟩,G3⟩:=ih l M n1 ln len (j+1) g1 U O p1 Z B g2 Q a2 p2 X r2 lo V N (Ak l) A C J R1 A2 Y R P (Bw (M++fm (l.take j.toNat)) x [.int .i64 1,.int .i64 q,.int .i64 j]) rfl (Abw hd v om) hd kn
  refine ch G3 ?_
  exact Ag ⟨[],[],[],[(M++fm l)]⟩ (⟨_,rfl,(by first|rfl|exact Rd om)⟩)
 exact Ag ⟨[],[],[],[(M++fm (l.take j.toNat))]⟩ (⟨_,rfl,(by first|rfl|exact Rd om)⟩)
theorem Aef:Am5 114:=fun l M n1 ln len j g1 O H p1 U v g2 J a2 Y Q V lo P C L q x B X A2 R N I Z A z hd h=>Ai2 ((ln-j).toNat+1) l M n1 ln len j g1 O H p1 U v g2 J a2 Y Q V lo P C L q x B X A2 R N I Z A z hd ⟨h.1,h.2.1,h.2.2.1,h.2.2.2.1,h.2.2.2.2,Nat.lt_succ_self _⟩
def AmQ (N n:Nat):Prop:=∀(l:List Pe) (M:LD) (ln len:Int) (j g2:Int) (R a2:Int) (p2 f2:Int) (r2 lo:Int) (z v:Int) (B O:Int) (H J:Int) (rv V:Int) (P A x:List Nat) (L A2:Rs) (Z U:Rs) (Q X:Rs) (Y RA:Rs) (C:Mp) (hL:L=Ai l) (hm:C=M++pm (l.take j.toNat)) (hd:FrP M l) (h:ln=L.length/\len=ln/\0<=j/\j<=ln/\ln<=8/\(ln-j).toNat<n),Ok trees N ⟨[ln,len,j,g2,R,a2,p2,f2,r2,lo,z,v,B,O,H,J,rv,V],[P,A,x],[L,A2,Z,U,Q,X,Y,RA],[C]⟩ fun I=>(∃(q:Mp),I=(1,(⟨[],[],[],[q]⟩:Aj))/\(q=M++pm l))
def Amu (N:Nat):Prop:=∀(l:List Pe) (M:LD) (ln len:Int) (j g2:Int) (R a2:Int) (p2 f2:Int) (r2 lo:Int) (z v:Int) (B O:Int) (H J:Int) (rv V:Int) (P A x:List Nat) (L A2:Rs) (Z U:Rs) (Q X:Rs) (Y RA:Rs) (C:Mp) (hL:L=Ai l) (hm:C=M++pm (l.take j.toNat)) (hd:FrP M l) (h:ln=L.length/\len=ln/\0<=j/\j<=ln/\ln<=8:=by exact kn),Ok trees N ⟨[ln,len,j,g2,R,a2,p2,f2,r2,lo,z,v,B,O,H,J,rv,V],[P,A,x],[L,A2,Z,U,Q,X,Y,RA],[C]⟩ fun I=>(∃(q:Mp),I=(1,(⟨[],[],[],[q]⟩:Aj))/\(q=M++pm l))
theorem Aiz (n:Nat):AmQ 129 n:=by
 induction n with
 |zero=>intro l M ln len j g2 V a2 p2 f2 r2 lo A x C Q N O rv Z R B z L A2 P2 Y U FP FB RA mp P J hd h;exact absurd h.2.2.2.2.2 (Nat.not_lt_zero _)
 |succ n ih=>
 intro l M ln len j g2 V a2 p2 f2 r2 lo A x C Q N O rv Z R B z L A2 P2 Y U FP FB RA mp P J hd h
 subst P;subst J
 refine .of (t:=Zg) rfl ?_
 conv=>arg 3;reduce
 refine lt j len (fun t1=>?_) fun t1=>?_
 ·refine CO j 0 ?_
  refine B8 j ln ?_
  obtain ⟨H,q,I,v⟩:=FG (l:=l) j om om
  refine el I ?_
  refine lm (Qw hd v) ?_
  refine up [.int .i64 2,.int .i64 q,.int .i64 0] ?_
  obtain ⟨_,⟨aj,rfl,rfl⟩,X⟩:=ih l M ln len (j+1) g2 V a2 p2 f2 r2 lo A x C Q N O rv Z R B z (Ai l) A2 P2 Y U FP FB RA (Bw (M++pm (l.take j.toNat)) H [.int .i64 2,.int .i64 q,.int .i64 0]) rfl (AaF hd v om) hd kn
  refine cm X ?_
  refine ch X ?_
  exact Ag ⟨[],[],[],[(M++pm l)]⟩ (⟨_,rfl,(by first|rfl|exact Qx om)⟩)
 exact Ag ⟨[],[],[],[(M++pm (l.take j.toNat))]⟩ (⟨_,rfl,(by first|rfl|exact Qx om)⟩)
theorem Aed:Amu 129:=fun l M ln len j g2 P a2 p2 Y r2 lo x q A J C H Z R N z v L A2 X Q O U V RA mp I B hd h=>Aiz ((ln-j).toNat+1) l M ln len j g2 P a2 p2 Y r2 lo x q A J C H Z R N z v L A2 X Q O U V RA mp I B hd ⟨h.1,h.2.1,h.2.2.1,h.2.2.2.1,h.2.2.2.2,Nat.lt_succ_self _⟩
def Aco (N:Nat):Prop:=∀{av:List Ae} {fs:List Fe} {f:Fe} {Γ B:Ctx} (g sub:Int) (q pl:Int) (fl z n:Int) (x:List Nat) (v P:Rs) (j R:Rs) (C:v=Aq av) (H:j=Ak fs) (hf:fs[n.toNat]?=some f) (J:FnG av fs n.toNat f Γ B) (L:FnP f) (I:Yh [] av) (h:0<=n/\n<fl/\q=v.length/\fl=j.length/\q<=8/\fl<=8:=by exact kn),Ok trees N ⟨[g,sub,q,pl,fl,z,n],[x],[v,P,j,R],[]⟩ fun A=>(A=(0,(⟨[0],[],[],[]⟩:Aj)))
theorem AbH:Aco 111:=by
 intro av fs f Γ Q g sub al pl fl q n j Ar P Fs R L M hf v C N h
 subst L;subst M;obtain ⟨nm,ps,ty,fb,B,z,A,I,rw,x⟩:=f;have J:=Aaz hf;have hO:Ew 0 1 Γ fb Q:=v.ok;have V:T Q ty (.node B z A rw I x):=v.ty;have aq:(Ai ps).length<=2:=(by have:=C.pl;simpa [Ai]using this);have ao:S.Ay fb<=2:=C.dp;have ak:S.Ad fb<=160:=C.nd;have aj:=S.len fb;have an:=S.A0 fb;obtain ⟨h0,h1,rfl,rfl,au,ap⟩:=h
 refine .of (t:=VC) rfl ?_
 conv=>arg 3;reduce
 refine md [] ?_
 obtain ⟨_,⟨Y,rfl,rfl⟩,X⟩:=Aeg av n ((Aq av).length:Int) ((Aq av).length:Int) 0 g sub ((Aq av).length:Int) pl ((Ak fs).length:Int) q g sub ((Aq av).length:Int) pl ((Ak fs).length:Int) q 0 j j (Aq av) (Aq av) P (Ak fs) R (Aq av) P (Ak fs) R [] rfl rfl N
 refine ch X ?_
 refine dL ((Ak fs).take n.toNat) (fun W2 e2=>?_) (CE (pt n (Ak fs)))
 have f2:=cL e2;try simp only [lA,lC,lN,lT']at f2
 obtain ⟨_,⟨ad,rfl,rfl⟩,G3⟩:=Aef (fs.take n.toNat) (am av) n n n 0 g sub ((Aq av).length:Int) pl ((Ak fs).length:Int) q g sub ((Aq av).length:Int) pl ((Ak fs).length:Int) q 0 j j W2 (Aq av) P (Ak fs) R (Aq av) P (Ak fs) R (am av) (by subst_vars;exact Uh) (Rb _ _) v.fr
 refine ch G3 ?_
 refine CO n 0 ?_
 refine B8 n ((Ak fs).length:Int) ?_
 refine el J ?_
 obtain ⟨_,⟨Z,rfl,rfl⟩,O⟩:=Aed ps (am av++fm (fs.take n.toNat)) ((Ai ps).length:Int) ((Ai ps).length:Int) 0 g sub ((Aq av).length:Int) pl ((Ak fs).length:Int) q 0 ((Ai ps).length:Int) ty ((S.Aa fb).length:Int) B z A rw ((E.Aa x).length:Int) j nm I (Ai ps) (Aq av) P (Ak fs) R (Ai ps) (S.Aa fb) (E.Aa x) ((am av)++fm (fs.take n.toNat)) rfl (Qv _ _) v.fp
 refine cm O ?_
 refine ch O ?_
 obtain ⟨_,⟨ah,af,rfl,H,rfl⟩,U⟩:=Aec (JR.of (n:=1000) @AkV) ((S.Aa fb).length:Int) g sub ((Aq av).length:Int) pl ((Ak fs).length:Int) q 0 j (S.Aa fb) (Aq av) P (Ak fs) R ((am av++fm (fs.take n.toNat))++pm ps) v.ck hO rfl
 refine ch U ?_
 refine BB 0 0 ?_
 obtain ⟨_,rfl,G6⟩:=WM H B z A rw ((E.Aa x).length:Int) ty g sub pl q 0 I j (E.Aa x) P R V rfl
 refine ch G6 ?_
 exact Ag ⟨[0],[],[],[]⟩ (rfl)
def Acv (N n:Nat):Prop:=∀{av:List Ae} {fs:List Fe} (A q:Int) (j g:Int) (sub v:Int) (pl fl:Int) (J g2:Int) (I a2:Int) (X M:Int) (O lo:Int) (B C:List Nat) (z P:Rs) (x R:Rs) (Y L:Rs) (V H:Rs) (Q:Mp) (aa:z=Aq av) (ab:x=Ak fs) (hK:FsG av fs) (hp:NQ fs) (Z:Yh [] av) (h:0<=j/\j<=q/\A=0/\q=x.length/\fl=q/\v=z.length/\q<=8/\v<=8/\(q-j).toNat<n),Ok trees N ⟨[A,q,j,g,sub,v,pl,fl,J,g2,I,a2,X,M,O,lo],[B,C],[z,P,x,R,Y,L,V,H],[Q]⟩ fun U=>(U=(0,(⟨[0],[],[],[]⟩:Aj)))
def Tx (N:Nat):Prop:=∀{av:List Ae} {fs:List Fe} (A q:Int) (j g:Int) (sub x:Int) (pl fl:Int) (J g2:Int) (C a2:Int) (V Q:Int) (U lo:Int) (B Y:List Nat) (z P:Rs) (v R:Rs) (M O:Rs) (I H:Rs) (X:Mp) (Z:z=Aq av) (aa:v=Ak fs) (hK:FsG av fs) (hp:NQ fs) (ab:Yh [] av) (h:0<=j/\j<=q/\A=0/\q=v.length/\fl=q/\x=z.length/\q<=8/\x<=8:=by exact kn),Ok trees N ⟨[A,q,j,g,sub,x,pl,fl,J,g2,C,a2,V,Q,U,lo],[B,Y],[z,P,v,R,M,O,I,H],[X]⟩ fun L=>(L=(0,(⟨[0],[],[],[]⟩:Aj)))
theorem AaC (n:Nat):Acv 109 n:=by
 induction n with
 |zero=>intro av fs e0 C j g sub H pl fl I g2 O a2 Y V X lo q M Ar P Fs R A2 U Q N Z x A J B v h;exact absurd h.2.2.2.2.2.2.2.2 (Nat.not_lt_zero _)
 |succ n ih=>
 intro av fs e0 C j g sub H pl fl I g2 O a2 Y V X lo q M Ar P Fs R A2 U Q N Z x A J B v h
 subst x;subst A;obtain ⟨h0,h1,rfl,h3,h4,h5,h7,h8,h6⟩:=h
 refine .of (t:=RP) rfl ?_
 conv=>arg 3;reduce
 refine lt j C (fun t1=>?_) fun t1=>?_
 ·refine AH 0 0 ?_
  obtain ⟨f_,Γ_,ag,z,L⟩:=J.at j om om
  obtain ⟨_,rfl,G2⟩:=AbH g sub H pl fl I j q (Aq av) P (Ak fs) R rfl rfl z L (B _ _ z) v
  refine ch G2 ?_
  obtain ⟨_,rfl,G3⟩:=ih 0 C (j+1) g sub H pl fl I g2 O a2 Y V X lo q M (Aq av) P (Ak fs) R A2 U Q N Z rfl rfl J B v kn
  refine ch G3 ?_
  exact Ag ⟨[0],[],[],[]⟩ (rfl)
 exact Ag ⟨[0],[],[],[]⟩ (rfl)
theorem Ti:Tx 109:=fun {av} {fs} e0 nf j g sub al pl fl rl g2 s2 a2 p2 f2 r2 lo knm w2 Ar P Fs R A2 P2 F2 R2 mp hAr hFs hK hp hda h=>AaC ((nf-j).toNat+1) e0 nf j g sub al pl fl rl g2 s2 a2 p2 f2 r2 lo knm w2 Ar P Fs R A2 P2 F2 R2 mp hAr hFs hK hp hda ⟨h.1,h.2.1,h.2.2.1,h.2.2.2.1,h.2.2.2.2.1,h.2.2.2.2.2.1,h.2.2.2.2.2.2.1,h.2.2.2.2.2.2.2,Nat.lt_succ_self _⟩
end
end Go.Proofs.YtbmofjdmgjpfoaaGreatDoor.Am
