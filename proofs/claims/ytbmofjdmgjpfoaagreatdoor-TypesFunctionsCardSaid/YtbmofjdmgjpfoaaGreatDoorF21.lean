/- Part 21 of TypesFunctions. -/
import Derived.Test.YtbmofjdmgjpfoaaGreatDoorF17
import Derived.Test.YtbmofjdmgjpfoaaGreatDoorF18
import Derived.Test.YtbmofjdmgjpfoaaGreatDoorF19
import Derived.Test.YtbmofjdmgjpfoaaGreatDoorF20
set_option linter.all false
namespace Go.Proofs.YtbmofjdmgjpfoaaGreatDoor.Am
section
set_option maxHeartbeats 4000000
set_option maxRecDepth 100000
open Go.AM Go.AM.K
def AmX (N n:Nat):Prop:=∀{l:List Ae} (ln len j:Int) (L:Rs) (v:L=Aq l) (x:Yn l) (h:ln=L.length/\len=ln/\0<=j/\j<=ln/\ln<=8/\(ln-j).toNat<n),Ok trees N ⟨[ln,len,j],[],[L],[]⟩ fun q=>(q=(1,v0))
def AmC (N:Nat):Prop:=∀{l:List Ae} (ln len j:Int) (L:Rs) (v:L=Aq l) (x:Yn l) (h:ln=L.length/\len=ln/\0<=j/\j<=ln/\ln<=8:=by exact kn),Ok trees N ⟨[ln,len,j],[],[L],[]⟩ fun q=>(q=(1,v0))
theorem Ai8 (n:Nat):AmX 104 n:=by
 induction n with
 |zero=>intro l ln len j L O J h;exact absurd h.2.2.2.2.2 (Nat.not_lt_zero _)
 |succ n ih=>
 intro l ln len j L O J h
 subst O
 refine .of (t:=Z0) rfl ?_
 conv=>arg 3;reduce
 refine lt j len (fun t1=>?_) fun t1=>?_
 ·refine CO j 0 ?_
  refine B8 j ln ?_
  obtain ⟨Q,CR,U,v,M,I⟩:=HU (l:=l) j om om
  refine el M ?_
  obtain ⟨q,C,H,A,B,x,z⟩:=J _ _ I;simp only at q C H A B x z;have P:=q.len
  refine lt v 1 (fun V=>?_) fun V=>?_
  ·exact dead
  refine gt v 4096 (fun R=>?_) fun R=>?_
  ·exact dead
  obtain ⟨_,rfl,N⟩:=ih ln len (j+1) (Aq l) rfl J kn
  refine cm N ?_
  refine ch N ?_
  exact Ag v0 (rfl)
 exact Ag v0 (rfl)
theorem WN:AmC 104:=fun {l} ln len j L hL hp h=>Ai8 ((ln-j).toNat+1) ln len j L hL hp ⟨h.1,h.2.1,h.2.2.1,h.2.2.2.1,h.2.2.2.2,Nat.lt_succ_self _⟩
def AmD (N:Nat):Prop:=∀{av:List Ae} (g sub:Int) (j pl:Int) (fl z:Int) (v:List Nat) (q P:Rs) (x R:Rs) (C:q=Aq av) (B:Yn av) (hs:BJ g sub) (h:j=q.length/\j<=8/\(g=4∨g=1∨g=2∨g=8∨g=6):=by exact kn),Ok trees N ⟨[g,sub,j,pl,fl,z],[v],[q,P,x,R],[]⟩ fun A=>(A=(1,v0))
theorem Aei:AmD 103:=by
 intro av g sub j pl fl rl aa Ar P Fs R H q hs h
 subst H;obtain ⟨h1,Z,hg⟩:=h;obtain ⟨B,ab⟩:=hs
 rcases B with rfl|rfl|rfl|rfl
 ·refine .of (t:=O2) rfl ?_
  conv=>arg 3;reduce
  refine lt g 1 (fun t1=>?_) fun t1=>?_
  ·exact dead
  refine gt g 256 (fun O=>?_) fun O=>?_
  ·exact dead
  refine Hl 1 1 ?_
  refine gtN 1 32 ?_
  refine BB 0 0 ?_ (by decide) (Adr (x:=1) (y:=(1-1)) dn dn (by decide))
  refine Az 1 0 ?_
  refine ne (g%1) 0 (fun U=>?_) fun U=>?_
  ·exact dead
  obtain ⟨_,rfl,N⟩:=WN j j 0 (Aq av) rfl q
  refine cm N ?_
  refine ch N ?_
  exact Ag v0 (rfl)
 ·refine .of (t:=O2) rfl ?_
  conv=>arg 3;reduce
  refine lt g 1 (fun X=>?_) fun X=>?_
  ·exact dead
  refine gt g 256 (fun V=>?_) fun V=>?_
  ·exact dead
  refine Hl 2 1 ?_
  refine gtN 2 32 ?_
  refine BB 0 0 ?_ (by decide) (Adr (x:=2) (y:=(2-1)) dn dn (by decide))
  refine Az 2 0 ?_
  refine ne (g%2) 0 (fun Y=>?_) fun Y=>?_
  ·exact dead
  obtain ⟨_,rfl,C⟩:=WN j j 0 (Aq av) rfl q
  refine cm C ?_
  refine ch C ?_
  exact Ag v0 (rfl)
 ·refine .of (t:=O2) rfl ?_
  conv=>arg 3;reduce
  refine lt g 1 (fun Q=>?_) fun Q=>?_
  ·exact dead
  refine gt g 256 (fun A=>?_) fun A=>?_
  ·exact dead
  refine Hl 4 1 ?_
  refine gtN 4 32 ?_
  refine BB 0 0 ?_ (by decide) (Adr (x:=4) (y:=(4-1)) dn dn (by decide))
  refine Az 4 0 ?_
  refine ne (g%4) 0 (fun J=>?_) fun J=>?_
  ·exact dead
  obtain ⟨_,rfl,v⟩:=WN j j 0 (Aq av) rfl q
  refine cm v ?_
  refine ch v ?_
  exact Ag v0 (rfl)
 ·refine .of (t:=O2) rfl ?_
  conv=>arg 3;reduce
  refine lt g 1 (fun I=>?_) fun I=>?_
  ·exact dead
  refine gt g 256 (fun L=>?_) fun L=>?_
  ·exact dead
  refine Hl 8 1 ?_
  refine gtN 8 32 ?_
  refine BB 0 0 ?_ (by decide) (Adr (x:=8) (y:=(8-1)) dn dn (by decide))
  refine Az 8 0 ?_
  refine ne (g%8) 0 (fun M=>?_) fun M=>?_
  ·exact dead
  obtain ⟨_,rfl,z⟩:=WN j j 0 (Aq av) rfl q
  refine cm z ?_
  refine ch z ?_
  exact Ag v0 (rfl)
def Apv (N n:Nat):Prop:=∀{l:List Fe} (ln len:Int) (j g:Int) (sub A:Int) (pl fl:Int) (B v:Int) (x:List Nat) (L H:Rs) (P z R:Rs) (I:L=Ak l) (J:NQ l) (h:ln=L.length/\len=ln/\0<=j/\j<=ln/\ln<=8/\ln<=2/\0<=v/\v+180*(ln-j)<=400/\(ln-j).toNat<n),Ok trees N ⟨[ln,len,j,g,sub,A,pl,fl,B,v],[x],[L,H,P,z,R],[]⟩ fun C=>(∃(q:Int),C=(0,(⟨[q],[],[],[]⟩:Aj))/\(0<=q)/\(q<=400))
def AoZ (N:Nat):Prop:=∀{l:List Fe} (ln len:Int) (j g:Int) (sub A:Int) (pl fl:Int) (B v:Int) (x:List Nat) (L H:Rs) (P z R:Rs) (I:L=Ak l) (J:NQ l) (h:ln=L.length/\len=ln/\0<=j/\j<=ln/\ln<=8/\ln<=2/\0<=v/\v+180*(ln-j)<=400:=by exact kn),Ok trees N ⟨[ln,len,j,g,sub,A,pl,fl,B,v],[x],[L,H,P,z,R],[]⟩ fun C=>(∃(q:Int),C=(0,(⟨[q],[],[],[]⟩:Aj))/\(0<=q)/\(q<=400))
theorem An5 (n:Nat):Apv 51 n:=by
 induction n with
 |zero=>intro l ln len j g sub al pl fl rl O M L Ar P Fs R Z Q h;exact absurd h.2.2.2.2.2.2.2.2 (Nat.not_lt_zero _)
 |succ n ih=>
 intro l ln len j g sub al pl fl rl O M L Ar P Fs R Z Q h
 subst Z
 refine .of (t:=Afc) rfl ?_
 conv=>arg 3;reduce
 refine lt j len (fun t1=>?_) fun t1=>?_
 ·refine CO j 0 ?_
  refine B8 j ln ?_
  obtain ⟨ap,B,A,v,J,H,C,I,z,x,Y,U⟩:=FH (l:=l) j om om
  refine el Y ?_
  have q:=Q _ _ U;obtain ⟨aB,aC,aA⟩:=q.a;have ae:(Ai B).length<=2:=(by have:=q.pl;simpa [Ai]using this);have af:S.Ay v<=2:=q.dp;have an:S.Ad v<=160:=q.nd;have ak:(E.node J H C z I x).nodes<=13:=q.rn;have ag:(E.node J H C z I x).high<=5:=q.rh;have ai:1<=A/\A<=3:=q.ty;have aj:=S.len v;have ah:=S.A0 v;have ao:=E.A0 x
  refine gtN ((Ai B).length:Int) 8 ?_
  obtain ⟨_,⟨X,rfl,av⟩,G3⟩:=AkC ((S.Aa v).length:Int) 1 O (S.Aa v) q.fb rfl
  refine ch G3 ?_
  obtain ⟨_,⟨N,rfl,aq⟩,G4⟩:=AkB J H C z ((E.Aa x).length:Int) 1 X I (E.Aa x) asm rfl
  refine ch G4 ?_
  obtain ⟨_,⟨V,rfl,ax,az⟩,G5⟩:=ih ln len (j+1) g sub al pl fl rl N M (Ak l) Ar P Fs R rfl Q kn
  refine ch G5 ?_
  exact Ag ⟨[V],[],[],[]⟩ (⟨_,rfl,kn,kn⟩)
 exact Ag ⟨[O],[],[],[]⟩ (⟨_,rfl,kn,kn⟩)
theorem Aok:AoZ 51:=fun {l} ln len j g sub al pl fl rl nn knm L Ar P Fs R hL hp h=>An5 ((ln-j).toNat+1) ln len j g sub al pl fl rl nn knm L Ar P Fs R hL hp ⟨h.1,h.2.1,h.2.2.1,h.2.2.2.1,h.2.2.2.2.1,h.2.2.2.2.2.1,h.2.2.2.2.2.2.1,h.2.2.2.2.2.2.2,Nat.lt_succ_self _⟩
def Apa (N:Nat):Prop:=∀{fs:List Fe} {l:List S} (g sub:Int) (q pl:Int) (fl v:Int) (x:List Nat) (A P:Rs) (j R:Rs) (B:j=Ak fs) (I:NQ fs) (H:R=S.Aa l) (C:PL l) (h:q<=8/\pl<=8/\fl=j.length/\fl<=2/\v=R.length/\S.Ad l<=1600/\S.Ay l<=10:=by exact kn),Ok trees N ⟨[g,sub,q,pl,fl,v],[x],[A,P,j,R],[]⟩ fun z=>(z=(0,v0))
theorem AkD:Apa 50:=by
 intro fs l g sub z pl fl A x O P X R v J H B h
 subst v;subst H;have U:=S.len l;have V:=S.A0 l
 refine .of (t:=Afd) rfl ?_
 conv=>arg 3;reduce
 refine gtN z 8 ?_
 refine gtN pl 8 ?_
 refine gtN fl 8 ?_
 obtain ⟨_,⟨j,rfl,M,Q⟩,C⟩:=Aok fl fl 0 g sub z pl fl A 0 x (Ak fs) O P (Ak fs) (S.Aa l) rfl J
 refine ch C ?_
 obtain ⟨_,⟨q,rfl,L⟩,N⟩:=AkC A 1 j (S.Aa l) B rfl
 refine ch N ?_
 refine le q 2000 (fun I=>?_) fun I=>?_
 ·exact Ag v0 (rfl)
 exact dead
end
section
set_option maxHeartbeats 40000000
set_option maxRecDepth 100000
open Go.AM Go.AM.K
def Aex (N n:Nat):Prop:=∀{l:List Pe} (ln len:Int) (j p1:Int) (x B:Int) (R H:Int) (J P:Int) (I q:Int) (A C:List Nat) (L M:Rs) (O Q:Rs) (U:L=Ai l) (V:Yb l) (h:ln=L.length/\len=ln/\0<=j/\j<=ln/\ln<=8/\0<=q/\q+200*(ln-j)<=900000/\(ln-j).toNat<n),Ok trees N ⟨[ln,len,j,p1,x,B,R,H,J,P,I,q],[A,C],[L,M,O,Q],[]⟩ fun z=>(z=(0,v0))∨(∃(v:Int),z=(1,(⟨[v],[],[],[]⟩:Aj))/\(v<=q+200*(ln-j))/\(q<=v))
def Aer (N:Nat):Prop:=∀{l:List Pe} (ln len:Int) (j p1:Int) (x B:Int) (R H:Int) (M P:Int) (I q:Int) (A C:List Nat) (L J:Rs) (O Q:Rs) (U:L=Ai l) (V:Yb l) (h:ln=L.length/\len=ln/\0<=j/\j<=ln/\ln<=8/\0<=q/\q+200*(ln-j)<=900000:=by exact kn),Ok trees N ⟨[ln,len,j,p1,x,B,R,H,M,P,I,q],[A,C],[L,J,O,Q],[]⟩ fun z=>(z=(0,v0))∨(∃(v:Int),z=(1,(⟨[v],[],[],[]⟩:Aj))/\(v<=q+200*(ln-j))/\(q<=v))
theorem Ai9 (n:Nat):Aex 102 n:=by
 induction n with
 |zero=>intro l ln len j p1 z C J H I P M q B A L N O Q hL R h;exact absurd h.2.2.2.2.2.2.2 (Nat.not_lt_zero _)
 |succ n ih=>
 intro l ln len j p1 z C J H I P M q B A L N O Q hL R h
 subst hL
 refine .of (t:=Z1) rfl ?_
 conv=>arg 3;reduce
 refine lt j len (fun t1=>?_) fun t1=>?_
 ·refine CO j 0 ?_
  refine B8 j ln ?_
  obtain ⟨x,v,al,ak⟩:=FG (l:=l) j om om
  refine el al ?_
  obtain ⟨aa,ad,ae⟩:=R _ _ ak;simp only at aa ad ae;have aA:=aa.len
  refine gt j 0 (fun t3=>?_) fun t3=>?_
  ·refine bu q 2 ?_
   obtain ⟨_,rfl,G4⟩:=FU x asm
   refine ch G4 ?_
   refine sl x ?_
   refine bu (q+2) 64 ?_
   refine nv ⟨[ln,len,j,p1,z,C,J,H,I,P,M,q,v,(q+2),(x.length:Int),((q+2)+64)],[B,A,x],[(Ai l),N,O,Q],[]⟩ ?_
   refine bu ((q+2)+64) 1 ?_
   refine Hl (v-1) 0 ?_
   refine IG (v-1) 3 ?_
   refine eq (v-1) 0 (fun t5=>?_) fun t5=>?_
   ·refine bu (((q+2)+64)+1) 3 ?_
    refine nv ⟨[ln,len,j,p1,z,C,J,H,I,P,M,q,v,(q+2),(x.length:Int),((q+2)+64),(((q+2)+64)+1),((((q+2)+64)+1)+3)],[B,A,x],[(Ai l),N,O,Q],[]⟩ ?_
    obtain ⟨_,(rfl|⟨af,rfl,aC,aF⟩),G6⟩:=ih ln len (j+1) p1 z C J H I P M ((((q+2)+64)+1)+3) B A (Ai l) N O Q rfl R kn
    ·refine ch G6 ?_
     exact Ag ⟨[((((q+2)+64)+1)+3)],[],[],[]⟩ (.inr ((⟨_,rfl,kn,kn⟩)))
    refine cm G6 ?_
    refine ch G6 ?_
    exact Ag ⟨[af],[],[],[]⟩ (.inr ((⟨_,rfl,kn,kn⟩)))
   refine eq (v-1) 1 (fun t7=>?_) fun t7=>?_
   ·refine bu (((q+2)+64)+1) 3 ?_
    obtain ⟨_,(rfl|⟨ac,rfl,aE,aD⟩),G8⟩:=ih ln len (j+1) p1 z C J H I P M ((((q+2)+64)+1)+3) B A (Ai l) N O Q rfl R kn
    ·refine ch G8 ?_
     exact Ag ⟨[((((q+2)+64)+1)+3)],[],[],[]⟩ (.inr ((⟨_,rfl,kn,kn⟩)))
    refine cm G8 ?_
    refine ch G8 ?_
    exact Ag ⟨[ac],[],[],[]⟩ (.inr ((⟨_,rfl,kn,kn⟩)))
   refine AH (v-1) 2 ?_
   refine bu (((q+2)+64)+1) 4 ?_
   refine nv ⟨[ln,len,j,p1,z,C,J,H,I,P,M,q,v,(q+2),(x.length:Int),((q+2)+64),(((q+2)+64)+1),((((q+2)+64)+1)+4)],[B,A,x],[(Ai l),N,O,Q],[]⟩ ?_
   obtain ⟨_,(rfl|⟨ag,rfl,aB,aG⟩),G9⟩:=ih ln len (j+1) p1 z C J H I P M ((((q+2)+64)+1)+4) B A (Ai l) N O Q rfl R kn
   ·refine ch G9 ?_
    exact Ag ⟨[((((q+2)+64)+1)+4)],[],[],[]⟩ (.inr ((⟨_,rfl,kn,kn⟩)))
   refine cm G9 ?_
   refine ch G9 ?_
   exact Ag ⟨[ag],[],[],[]⟩ (.inr ((⟨_,rfl,kn,kn⟩)))
  obtain ⟨_,rfl,aw⟩:=FU x asm
  refine ch aw ?_
  refine sl x ?_
  refine bu q 64 ?_
  refine bu (q+64) 1 ?_
  refine nv ⟨[ln,len,j,p1,z,C,J,H,I,P,M,q,v,(x.length:Int),(q+64),((q+64)+1)],[B,A,x],[(Ai l),N,O,Q],[]⟩ ?_
  refine Hl (v-1) 0 ?_
  refine IG (v-1) 3 ?_
  refine eq (v-1) 0 (fun ax=>?_) fun ax=>?_
  ·refine bu ((q+64)+1) 3 ?_
   obtain ⟨_,(rfl|⟨Z,rfl,ao,aq⟩),X⟩:=ih ln len (j+1) p1 z C J H I P M (((q+64)+1)+3) B A (Ai l) N O Q rfl R kn
   ·refine ch X ?_
    exact Ag ⟨[(((q+64)+1)+3)],[],[],[]⟩ (.inr ((⟨_,rfl,kn,kn⟩)))
   refine cm X ?_
   refine ch X ?_
   exact Ag ⟨[Z],[],[],[]⟩ (.inr ((⟨_,rfl,kn,kn⟩)))
  refine eq (v-1) 1 (fun av=>?_) fun av=>?_
  ·refine bu ((q+64)+1) 3 ?_
   refine nv ⟨[ln,len,j,p1,z,C,J,H,I,P,M,q,v,(x.length:Int),(q+64),((q+64)+1),(((q+64)+1)+3)],[B,A,x],[(Ai l),N,O,Q],[]⟩ ?_
   obtain ⟨_,(rfl|⟨U,rfl,az,an⟩),ab⟩:=ih ln len (j+1) p1 z C J H I P M (((q+64)+1)+3) B A (Ai l) N O Q rfl R kn
   ·refine ch ab ?_
    exact Ag ⟨[(((q+64)+1)+3)],[],[],[]⟩ (.inr ((⟨_,rfl,kn,kn⟩)))
   refine cm ab ?_
   refine ch ab ?_
   exact Ag ⟨[U],[],[],[]⟩ (.inr ((⟨_,rfl,kn,kn⟩)))
  refine AH (v-1) 2 ?_
  refine bu ((q+64)+1) 4 ?_
  obtain ⟨_,(rfl|⟨V,rfl,ay,ap⟩),Y⟩:=ih ln len (j+1) p1 z C J H I P M (((q+64)+1)+4) B A (Ai l) N O Q rfl R kn
  ·refine ch Y ?_
   exact Ag ⟨[(((q+64)+1)+4)],[],[],[]⟩ (.inr ((⟨_,rfl,kn,kn⟩)))
  refine cm Y ?_
  refine ch Y ?_
  exact Ag ⟨[V],[],[],[]⟩ (.inr ((⟨_,rfl,kn,kn⟩)))
 exact Ag v0 (.inl rfl)
theorem Alw:Aer 102:=fun {l} ln len j p1 fty fbl rk ro ry rv rl sz fnm rnm L FP FB RA hL hp h=>Ai9 ((ln-j).toNat+1) ln len j p1 fty fbl rk ro ry rv rl sz fnm rnm L FP FB RA hL hp ⟨h.1,h.2.1,h.2.2.1,h.2.2.2.1,h.2.2.2.2.1,h.2.2.2.2.2.1,h.2.2.2.2.2.2,Nat.lt_succ_self _⟩
def Apm (N n:Nat):Prop:=∀{l:List Ae} (ln len:Int) (j g:Int) (sub B:Int) (pl fl:Int) (C q:Int) (z:List Nat) (L H:Rs) (P A R:Rs) (I:L=Aq l) (J:Yn l) (h:ln=L.length/\len=ln/\0<=j/\j<=ln/\ln<=8/\0<=q/\q+200*(ln-j)<=900000/\(ln-j).toNat<n),Ok trees N ⟨[ln,len,j,g,sub,B,pl,fl,C,q],[z],[L,H,P,A,R],[]⟩ fun x=>(x=(0,v0))∨(∃(v:Int),x=(1,(⟨[v],[],[],[]⟩:Aj))/\(v<=q+200*(ln-j))/\(q<=v))
def AoI (N:Nat):Prop:=∀{l:List Ae} (ln len:Int) (j g:Int) (sub B:Int) (pl fl:Int) (C q:Int) (z:List Nat) (L H:Rs) (P A R:Rs) (I:L=Aq l) (J:Yn l) (h:ln=L.length/\len=ln/\0<=j/\j<=ln/\ln<=8/\0<=q/\q+200*(ln-j)<=900000:=by exact kn),Ok trees N ⟨[ln,len,j,g,sub,B,pl,fl,C,q],[z],[L,H,P,A,R],[]⟩ fun x=>(x=(0,v0))∨(∃(v:Int),x=(1,(⟨[v],[],[],[]⟩:Aj))/\(v<=q+200*(ln-j))/\(q<=v))
theorem Anv (n:Nat):Apm 78 n:=by
 induction n with
 |zero=>intro l ln len j g sub B pl fl C q A L I P H R hL J h;exact absurd h.2.2.2.2.2.2.2 (Nat.not_lt_zero _)
 |succ n ih=>
 intro l ln len j g sub B pl fl C q A L I P H R hL J h
 subst hL
 refine .of (t:=AeK) rfl ?_
 conv=>arg 3;reduce
 refine lt j len (fun t1=>?_) fun t1=>?_
 ·refine CO j 0 ?_
  refine B8 j ln ?_
  obtain ⟨v,CR,z,x,aw,av⟩:=HU (l:=l) j om om
  refine el aw ?_
  obtain ⟨ad,ak,ao,aj,ah,af,ag⟩:=J _ _ av;simp only at ad ak ao aj ah af ag;have aX:=ad.len
  refine Hl (CR-1) 0 ?_
  refine IG (CR-1) 3 ?_
  refine eq (CR-1) 0 (fun t3=>?_) fun t3=>?_
  ·refine bu q 6 ?_
   refine nv ⟨[ln,len,j,g,sub,B,pl,fl,C,q,CR,z,x,(q+6)],[A,v],[(Aq l),I,P,H,R],[]⟩ ?_
   refine bu (q+6) 1 ?_
   obtain ⟨_,rfl,G4⟩:=FU v asm
   refine ch G4 ?_
   refine sl v ?_
   refine bu ((q+6)+1) 64 ?_
   refine nv ⟨[ln,len,j,g,sub,B,pl,fl,C,q,CR,z,x,(q+6),((q+6)+1),(v.length:Int),(((q+6)+1)+64)],[A,v],[(Aq l),I,P,H,R],[]⟩ ?_
   refine bu (((q+6)+1)+64) 1 ?_
   refine Hl (z-1) 0 ?_
   refine IG (z-1) 3 ?_
   refine eq (z-1) 0 (fun t5=>?_) fun t5=>?_
   ·refine bu ((((q+6)+1)+64)+1) 3 ?_
    refine nv ⟨[ln,len,j,g,sub,B,pl,fl,C,q,CR,z,x,(q+6),((q+6)+1),(v.length:Int),(((q+6)+1)+64),((((q+6)+1)+64)+1),(((((q+6)+1)+64)+1)+3)],[A,v],[(Aq l),I,P,H,R],[]⟩ ?_
    refine CO x (-9223372036854775808) ?_
    refine Er x 9223372036854775807 ?_
    refine bu (((((q+6)+1)+64)+1)+3) 1 ?_
    refine bu ((((((q+6)+1)+64)+1)+3)+1) 21 ?_
    refine nv ⟨[ln,len,j,g,sub,B,pl,fl,C,q,CR,z,x,(q+6),((q+6)+1),(v.length:Int),(((q+6)+1)+64),((((q+6)+1)+64)+1),(((((q+6)+1)+64)+1)+3),((((((q+6)+1)+64)+1)+3)+1),(((((((q+6)+1)+64)+1)+3)+1)+21)],[A,v],[(Aq l),I,P,H,R],[]⟩ ?_
    refine bu (((((((q+6)+1)+64)+1)+3)+1)+21) 1 ?_
    obtain ⟨_,(rfl|⟨ai,rfl,aU,aV⟩),G6⟩:=ih ln len (j+1) g sub B pl fl C ((((((((q+6)+1)+64)+1)+3)+1)+21)+1) A (Aq l) I P H R rfl J kn
    ·refine ch G6 ?_
     exact Ag ⟨[((((((((q+6)+1)+64)+1)+3)+1)+21)+1)],[],[],[]⟩ (.inr ((⟨_,rfl,kn,kn⟩)))
    refine cm G6 ?_
    refine ch G6 ?_
    exact Ag ⟨[ai],[],[],[]⟩ (.inr ((⟨_,rfl,kn,kn⟩)))
   refine eq (z-1) 1 (fun t7=>?_) fun t7=>?_
   ·refine bu ((((q+6)+1)+64)+1) 3 ?_
    refine nv ⟨[ln,len,j,g,sub,B,pl,fl,C,q,CR,z,x,(q+6),((q+6)+1),(v.length:Int),(((q+6)+1)+64),((((q+6)+1)+64)+1),(((((q+6)+1)+64)+1)+3)],[A,v],[(Aq l),I,P,H,R],[]⟩ ?_
    refine CO x (-9223372036854775808) ?_
    refine Er x 9223372036854775807 ?_
    refine bu (((((q+6)+1)+64)+1)+3) 1 ?_
    refine bu ((((((q+6)+1)+64)+1)+3)+1) 21 ?_
    refine nv ⟨[ln,len,j,g,sub,B,pl,fl,C,q,CR,z,x,(q+6),((q+6)+1),(v.length:Int),(((q+6)+1)+64),((((q+6)+1)+64)+1),(((((q+6)+1)+64)+1)+3),((((((q+6)+1)+64)+1)+3)+1),(((((((q+6)+1)+64)+1)+3)+1)+21)],[A,v],[(Aq l),I,P,H,R],[]⟩ ?_
    refine bu (((((((q+6)+1)+64)+1)+3)+1)+21) 1 ?_
    obtain ⟨_,(rfl|⟨ae,rfl,aZ,aY⟩),G8⟩:=ih ln len (j+1) g sub B pl fl C ((((((((q+6)+1)+64)+1)+3)+1)+21)+1) A (Aq l) I P H R rfl J kn
    ·refine ch G8 ?_
     exact Ag ⟨[((((((((q+6)+1)+64)+1)+3)+1)+21)+1)],[],[],[]⟩ (.inr ((⟨_,rfl,kn,kn⟩)))
    refine cm G8 ?_
    refine ch G8 ?_
    exact Ag ⟨[ae],[],[],[]⟩ (.inr ((⟨_,rfl,kn,kn⟩)))
   refine AH (z-1) 2 ?_
   refine bu ((((q+6)+1)+64)+1) 4 ?_
   refine nv ⟨[ln,len,j,g,sub,B,pl,fl,C,q,CR,z,x,(q+6),((q+6)+1),(v.length:Int),(((q+6)+1)+64),((((q+6)+1)+64)+1),(((((q+6)+1)+64)+1)+4)],[A,v],[(Aq l),I,P,H,R],[]⟩ ?_
   refine CO x (-9223372036854775808) ?_
   refine Er x 9223372036854775807 ?_
   refine bu (((((q+6)+1)+64)+1)+4) 1 ?_
   refine bu ((((((q+6)+1)+64)+1)+4)+1) 21 ?_
   refine nv ⟨[ln,len,j,g,sub,B,pl,fl,C,q,CR,z,x,(q+6),((q+6)+1),(v.length:Int),(((q+6)+1)+64),((((q+6)+1)+64)+1),(((((q+6)+1)+64)+1)+4),((((((q+6)+1)+64)+1)+4)+1),(((((((q+6)+1)+64)+1)+4)+1)+21)],[A,v],[(Aq l),I,P,H,R],[]⟩ ?_
   refine bu (((((((q+6)+1)+64)+1)+4)+1)+21) 1 ?_
   obtain ⟨_,(rfl|⟨an,rfl,aR,aW⟩),G9⟩:=ih ln len (j+1) g sub B pl fl C ((((((((q+6)+1)+64)+1)+4)+1)+21)+1) A (Aq l) I P H R rfl J kn
   ·refine ch G9 ?_
    exact Ag ⟨[((((((((q+6)+1)+64)+1)+4)+1)+21)+1)],[],[],[]⟩ (.inr ((⟨_,rfl,kn,kn⟩)))
   refine cm G9 ?_
   refine ch G9 ?_
   exact Ag ⟨[an],[],[],[]⟩ (.inr ((⟨_,rfl,kn,kn⟩)))
  refine eq (CR-1) 1 (fun ax=>?_) fun ax=>?_
  ·refine bu q 6 ?_
   refine nv ⟨[ln,len,j,g,sub,B,pl,fl,C,q,CR,z,x,(q+6)],[A,v],[(Aq l),I,P,H,R],[]⟩ ?_
   refine bu (q+6) 1 ?_
   obtain ⟨_,rfl,aL⟩:=FU v asm
   refine ch aL ?_
   refine sl v ?_
   refine bu ((q+6)+1) 64 ?_
   refine nv ⟨[ln,len,j,g,sub,B,pl,fl,C,q,CR,z,x,(q+6),((q+6)+1),(v.length:Int),(((q+6)+1)+64)],[A,v],[(Aq l),I,P,H,R],[]⟩ ?_
   refine bu (((q+6)+1)+64) 1 ?_
   refine Hl (z-1) 0 ?_
   refine IG (z-1) 3 ?_
   refine eq (z-1) 0 (fun ay=>?_) fun ay=>?_
   ·refine bu ((((q+6)+1)+64)+1) 3 ?_
    refine nv ⟨[ln,len,j,g,sub,B,pl,fl,C,q,CR,z,x,(q+6),((q+6)+1),(v.length:Int),(((q+6)+1)+64),((((q+6)+1)+64)+1),(((((q+6)+1)+64)+1)+3)],[A,v],[(Aq l),I,P,H,R],[]⟩ ?_
    refine CO x (-9223372036854775808) ?_
    refine Er x 9223372036854775807 ?_
    refine bu (((((q+6)+1)+64)+1)+3) 1 ?_
    refine bu ((((((q+6)+1)+64)+1)+3)+1) 21 ?_
    refine nv ⟨[ln,len,j,g,sub,B,pl,fl,C,q,CR,z,x,(q+6),((q+6)+1),(v.length:Int),(((q+6)+1)+64),((((q+6)+1)+64)+1),(((((q+6)+1)+64)+1)+3),((((((q+6)+1)+64)+1)+3)+1),(((((((q+6)+1)+64)+1)+3)+1)+21)],[A,v],[(Aq l),I,P,H,R],[]⟩ ?_
    refine bu (((((((q+6)+1)+64)+1)+3)+1)+21) 1 ?_
    obtain ⟨_,(rfl|⟨aa,rfl,aF,aP⟩),M⟩:=ih ln len (j+1) g sub B pl fl C ((((((((q+6)+1)+64)+1)+3)+1)+21)+1) A (Aq l) I P H R rfl J kn
    ·refine ch M ?_
     exact Ag ⟨[((((((((q+6)+1)+64)+1)+3)+1)+21)+1)],[],[],[]⟩ (.inr ((⟨_,rfl,kn,kn⟩)))
    refine cm M ?_
    refine ch M ?_
    exact Ag ⟨[aa],[],[],[]⟩ (.inr ((⟨_,rfl,kn,kn⟩)))
   refine eq (z-1) 1 (fun aK=>?_) fun aK=>?_
   ·refine bu ((((q+6)+1)+64)+1) 3 ?_
    refine nv ⟨[ln,len,j,g,sub,B,pl,fl,C,q,CR,z,x,(q+6),((q+6)+1),(v.length:Int),(((q+6)+1)+64),((((q+6)+1)+64)+1),(((((q+6)+1)+64)+1)+3)],[A,v],[(Aq l),I,P,H,R],[]⟩ ?_
    refine CO x (-9223372036854775808) ?_
    refine Er x 9223372036854775807 ?_
    refine bu (((((q+6)+1)+64)+1)+3) 1 ?_
    refine bu ((((((q+6)+1)+64)+1)+3)+1) 21 ?_
    refine nv ⟨[ln,len,j,g,sub,B,pl,fl,C,q,CR,z,x,(q+6),((q+6)+1),(v.length:Int),(((q+6)+1)+64),((((q+6)+1)+64)+1),(((((q+6)+1)+64)+1)+3),((((((q+6)+1)+64)+1)+3)+1),(((((((q+6)+1)+64)+1)+3)+1)+21)],[A,v],[(Aq l),I,P,H,R],[]⟩ ?_
    refine bu (((((((q+6)+1)+64)+1)+3)+1)+21) 1 ?_
    obtain ⟨_,(rfl|⟨Z,rfl,aD,aA⟩),ac⟩:=ih ln len (j+1) g sub B pl fl C ((((((((q+6)+1)+64)+1)+3)+1)+21)+1) A (Aq l) I P H R rfl J kn
    ·refine ch ac ?_
     exact Ag ⟨[((((((((q+6)+1)+64)+1)+3)+1)+21)+1)],[],[],[]⟩ (.inr ((⟨_,rfl,kn,kn⟩)))
    refine cm ac ?_
    refine ch ac ?_
    exact Ag ⟨[Z],[],[],[]⟩ (.inr ((⟨_,rfl,kn,kn⟩)))
   refine AH (z-1) 2 ?_
   refine bu ((((q+6)+1)+64)+1) 4 ?_
   refine nv ⟨[ln,len,j,g,sub,B,pl,fl,C,q,CR,z,x,(q+6),((q+6)+1),(v.length:Int),(((q+6)+1)+64),((((q+6)+1)+64)+1),(((((q+6)+1)+64)+1)+4)],[A,v],[(Aq l),I,P,H,R],[]⟩ ?_
   refine CO x (-9223372036854775808) ?_
   refine Er x 9223372036854775807 ?_
   refine bu (((((q+6)+1)+64)+1)+4) 1 ?_
   refine bu ((((((q+6)+1)+64)+1)+4)+1) 21 ?_
   refine nv ⟨[ln,len,j,g,sub,B,pl,fl,C,q,CR,z,x,(q+6),((q+6)+1),(v.length:Int),(((q+6)+1)+64),((((q+6)+1)+64)+1),(((((q+6)+1)+64)+1)+4),((((((q+6)+1)+64)+1)+4)+1),(((((((q+6)+1)+64)+1)+4)+1)+21)],[A,v],[(Aq l),I,P,H,R],[]⟩ ?_
   refine bu (((((((q+6)+1)+64)+1)+4)+1)+21) 1 ?_
   obtain ⟨_,(rfl|⟨Q,rfl,aB,aO⟩),O⟩:=ih ln len (j+1) g sub B pl fl C ((((((((q+6)+1)+64)+1)+4)+1)+21)+1) A (Aq l) I P H R rfl J kn
   ·refine ch O ?_
    exact Ag ⟨[((((((((q+6)+1)+64)+1)+4)+1)+21)+1)],[],[],[]⟩ (.inr ((⟨_,rfl,kn,kn⟩)))
   refine cm O ?_
   refine ch O ?_
   exact Ag ⟨[Q],[],[],[]⟩ (.inr ((⟨_,rfl,kn,kn⟩)))
  refine AH (CR-1) 2 ?_
  refine bu q 7 ?_
  refine nv ⟨[ln,len,j,g,sub,B,pl,fl,C,q,CR,z,x,(q+7)],[A,v],[(Aq l),I,P,H,R],[]⟩ ?_
  refine bu (q+7) 1 ?_
  obtain ⟨_,rfl,aN⟩:=FU v asm
  refine ch aN ?_
  refine sl v ?_
  refine bu ((q+7)+1) 64 ?_
  refine nv ⟨[ln,len,j,g,sub,B,pl,fl,C,q,CR,z,x,(q+7),((q+7)+1),(v.length:Int),(((q+7)+1)+64)],[A,v],[(Aq l),I,P,H,R],[]⟩ ?_
  refine bu (((q+7)+1)+64) 1 ?_
  refine Hl (z-1) 0 ?_
  refine IG (z-1) 3 ?_
  refine eq (z-1) 0 (fun aI=>?_) fun aI=>?_
  ·refine bu ((((q+7)+1)+64)+1) 3 ?_
   refine nv ⟨[ln,len,j,g,sub,B,pl,fl,C,q,CR,z,x,(q+7),((q+7)+1),(v.length:Int),(((q+7)+1)+64),((((q+7)+1)+64)+1),(((((q+7)+1)+64)+1)+3)],[A,v],[(Aq l),I,P,H,R],[]⟩ ?_
   refine CO x (-9223372036854775808) ?_
   refine Er x 9223372036854775807 ?_
   refine bu (((((q+7)+1)+64)+1)+3) 1 ?_
   refine bu ((((((q+7)+1)+64)+1)+3)+1) 21 ?_
   refine nv ⟨[ln,len,j,g,sub,B,pl,fl,C,q,CR,z,x,(q+7),((q+7)+1),(v.length:Int),(((q+7)+1)+64),((((q+7)+1)+64)+1),(((((q+7)+1)+64)+1)+3),((((((q+7)+1)+64)+1)+3)+1),(((((((q+7)+1)+64)+1)+3)+1)+21)],[A,v],[(Aq l),I,P,H,R],[]⟩ ?_
   refine bu (((((((q+7)+1)+64)+1)+3)+1)+21) 1 ?_
   obtain ⟨_,(rfl|⟨X,rfl,aE,aM⟩),V⟩:=ih ln len (j+1) g sub B pl fl C ((((((((q+7)+1)+64)+1)+3)+1)+21)+1) A (Aq l) I P H R rfl J kn
   ·refine ch V ?_
    exact Ag ⟨[((((((((q+7)+1)+64)+1)+3)+1)+21)+1)],[],[],[]⟩ (.inr ((⟨_,rfl,kn,kn⟩)))
   refine cm V ?_
   refine ch V ?_
   exact Ag ⟨[X],[],[],[]⟩ (.inr ((⟨_,rfl,kn,kn⟩)))
  refine eq (z-1) 1 (fun az=>?_) fun az=>?_
  ·refine bu ((((q+7)+1)+64)+1) 3 ?_
   refine nv ⟨[ln,len,j,g,sub,B,pl,fl,C,q,CR,z,x,(q+7),((q+7)+1),(v.length:Int),(((q+7)+1)+64),((((q+7)+1)+64)+1),(((((q+7)+1)+64)+1)+3)],[A,v],[(Aq l),I,P,H,R],[]⟩ ?_
   refine CO x (-9223372036854775808) ?_
   refine Er x 9223372036854775807 ?_
   refine bu (((((q+7)+1)+64)+1)+3) 1 ?_
   refine bu ((((((q+7)+1)+64)+1)+3)+1) 21 ?_
   refine nv ⟨[ln,len,j,g,sub,B,pl,fl,C,q,CR,z,x,(q+7),((q+7)+1),(v.length:Int),(((q+7)+1)+64),((((q+7)+1)+64)+1),(((((q+7)+1)+64)+1)+3),((((((q+7)+1)+64)+1)+3)+1),(((((((q+7)+1)+64)+1)+3)+1)+21)],[A,v],[(Aq l),I,P,H,R],[]⟩ ?_
   refine bu (((((((q+7)+1)+64)+1)+3)+1)+21) 1 ?_
   obtain ⟨_,(rfl|⟨Y,rfl,aH,aQ⟩),U⟩:=ih ln len (j+1) g sub B pl fl C ((((((((q+7)+1)+64)+1)+3)+1)+21)+1) A (Aq l) I P H R rfl J kn
   ·refine ch U ?_
    exact Ag ⟨[((((((((q+7)+1)+64)+1)+3)+1)+21)+1)],[],[],[]⟩ (.inr ((⟨_,rfl,kn,kn⟩)))
   refine cm U ?_
   refine ch U ?_
   exact Ag ⟨[Y],[],[],[]⟩ (.inr ((⟨_,rfl,kn,kn⟩)))
  refine AH (z-1) 2 ?_
  refine bu ((((q+7)+1)+64)+1) 4 ?_
  refine nv ⟨[ln,len,j,g,sub,B,pl,fl,C,q,CR,z,x,(q+7),((q+7)+1),(v.length:Int),(((q+7)+1)+64),((((q+7)+1)+64)+1),(((((q+7)+1)+64)+1)+4)],[A,v],[(Aq l),I,P,H,R],[]⟩ ?_
  refine CO x (-9223372036854775808) ?_
  refine Er x 9223372036854775807 ?_
  refine bu (((((q+7)+1)+64)+1)+4) 1 ?_
  refine bu ((((((q+7)+1)+64)+1)+4)+1) 21 ?_
  refine nv ⟨[ln,len,j,g,sub,B,pl,fl,C,q,CR,z,x,(q+7),((q+7)+1),(v.length:Int),(((q+7)+1)+64),((((q+7)+1)+64)+1),(((((q+7)+1)+64)+1)+4),((((((q+7)+1)+64)+1)+4)+1),(((((((q+7)+1)+64)+1)+4)+1)+21)],[A,v],[(Aq l),I,P,H,R],[]⟩ ?_
  refine bu (((((((q+7)+1)+64)+1)+4)+1)+21) 1 ?_
  obtain ⟨_,(rfl|⟨N,rfl,aJ,aG⟩),ab⟩:=ih ln len (j+1) g sub B pl fl C ((((((((q+7)+1)+64)+1)+4)+1)+21)+1) A (Aq l) I P H R rfl J kn
  ·refine ch ab ?_
   exact Ag ⟨[((((((((q+7)+1)+64)+1)+4)+1)+21)+1)],[],[],[]⟩ (.inr ((⟨_,rfl,kn,kn⟩)))
  refine cm ab ?_
  refine ch ab ?_
  exact Ag ⟨[N],[],[],[]⟩ (.inr ((⟨_,rfl,kn,kn⟩)))
 exact Ag v0 (.inl rfl)
theorem Ak4:AoI 78:=fun {l} ln len j g sub al pl fl rl sz knm L Ar P Fs R hL hp h=>Anv ((ln-j).toNat+1) ln len j g sub al pl fl rl sz knm L Ar P Fs R hL hp ⟨h.1,h.2.1,h.2.2.1,h.2.2.2.1,h.2.2.2.2.1,h.2.2.2.2.2.1,h.2.2.2.2.2.2,Nat.lt_succ_self _⟩
def Apl (N n:Nat):Prop:=∀{l:List Pe} (ln len:Int) (j g:Int) (sub B:Int) (pl fl:Int) (C q:Int) (z:List Nat) (L H:Rs) (P A R:Rs) (I:L=Ai l) (J:Yb l) (h:ln=L.length/\len=ln/\0<=j/\j<=ln/\ln<=8/\0<=q/\q+200*(ln-j)<=900000/\(ln-j).toNat<n),Ok trees N ⟨[ln,len,j,g,sub,B,pl,fl,C,q],[z],[L,H,P,A,R],[]⟩ fun x=>(x=(0,v0))∨(∃(v:Int),x=(1,(⟨[v],[],[],[]⟩:Aj))/\(v<=q+200*(ln-j))/\(q<=v))
def AoH (N:Nat):Prop:=∀{l:List Pe} (ln len:Int) (j g:Int) (sub B:Int) (pl fl:Int) (C q:Int) (z:List Nat) (L H:Rs) (P A R:Rs) (I:L=Ai l) (J:Yb l) (h:ln=L.length/\len=ln/\0<=j/\j<=ln/\ln<=8/\0<=q/\q+200*(ln-j)<=900000:=by exact kn),Ok trees N ⟨[ln,len,j,g,sub,B,pl,fl,C,q],[z],[L,H,P,A,R],[]⟩ fun x=>(x=(0,v0))∨(∃(v:Int),x=(1,(⟨[v],[],[],[]⟩:Aj))/\(v<=q+200*(ln-j))/\(q<=v))
theorem Anu (n:Nat):Apl 79 n:=by
 induction n with
 |zero=>intro l ln len j g sub B pl fl C q z L H P A R hL I h;exact absurd h.2.2.2.2.2.2.2 (Nat.not_lt_zero _)
 |succ n ih=>
 intro l ln len j g sub B pl fl C q z L H P A R hL I h
 subst hL
 refine .of (t:=AeJ) rfl ?_
 conv=>arg 3;reduce
 refine lt j len (fun t1=>?_) fun t1=>?_
 ·refine CO j 0 ?_
  refine B8 j ln ?_
  obtain ⟨v,x,aa,Z⟩:=FG (l:=l) j om om
  refine el aa ?_
  obtain ⟨J,O,Q⟩:=I _ _ Z;simp only at J O Q;have af:=J.len
  refine bu q 6 ?_
  refine nv ⟨[ln,len,j,g,sub,B,pl,fl,C,q,x,(q+6)],[z,v],[(Ai l),H,P,A,R],[]⟩ ?_
  obtain ⟨_,rfl,G3⟩:=FU v asm
  refine ch G3 ?_
  refine sl v ?_
  refine bu (q+6) 64 ?_
  refine bu ((q+6)+64) 1 ?_
  refine nv ⟨[ln,len,j,g,sub,B,pl,fl,C,q,x,(q+6),(v.length:Int),((q+6)+64),(((q+6)+64)+1)],[z,v],[(Ai l),H,P,A,R],[]⟩ ?_
  refine Hl (x-1) 0 ?_
  refine IG (x-1) 3 ?_
  refine eq (x-1) 0 (fun t4=>?_) fun t4=>?_
  ·refine bu (((q+6)+64)+1) 3 ?_
   refine bu ((((q+6)+64)+1)+3) 1 ?_
   refine nv ⟨[ln,len,j,g,sub,B,pl,fl,C,q,x,(q+6),(v.length:Int),((q+6)+64),(((q+6)+64)+1),((((q+6)+64)+1)+3),(((((q+6)+64)+1)+3)+1)],[z,v],[(Ai l),H,P,A,R],[]⟩ ?_
   obtain ⟨_,(rfl|⟨U,rfl,ae,ac⟩),V⟩:=ih ln len (j+1) g sub B pl fl C (((((q+6)+64)+1)+3)+1) z (Ai l) H P A R rfl I kn
   ·refine ch V ?_
    exact Ag ⟨[(((((q+6)+64)+1)+3)+1)],[],[],[]⟩ (.inr ((⟨_,rfl,kn,kn⟩)))
   refine cm V ?_
   refine ch V ?_
   exact Ag ⟨[U],[],[],[]⟩ (.inr ((⟨_,rfl,kn,kn⟩)))
  refine eq (x-1) 1 (fun t6=>?_) fun t6=>?_
  ·refine bu (((q+6)+64)+1) 3 ?_
   refine bu ((((q+6)+64)+1)+3) 1 ?_
   refine nv ⟨[ln,len,j,g,sub,B,pl,fl,C,q,x,(q+6),(v.length:Int),((q+6)+64),(((q+6)+64)+1),((((q+6)+64)+1)+3),(((((q+6)+64)+1)+3)+1)],[z,v],[(Ai l),H,P,A,R],[]⟩ ?_
   obtain ⟨_,(rfl|⟨N,rfl,ai,ad⟩),X⟩:=ih ln len (j+1) g sub B pl fl C (((((q+6)+64)+1)+3)+1) z (Ai l) H P A R rfl I kn
   ·refine ch X ?_
    exact Ag ⟨[(((((q+6)+64)+1)+3)+1)],[],[],[]⟩ (.inr ((⟨_,rfl,kn,kn⟩)))
   refine cm X ?_
   refine ch X ?_
   exact Ag ⟨[N],[],[],[]⟩ (.inr ((⟨_,rfl,kn,kn⟩)))
  refine AH (x-1) 2 ?_
  refine bu (((q+6)+64)+1) 4 ?_
  refine bu ((((q+6)+64)+1)+4) 1 ?_
  refine nv ⟨[ln,len,j,g,sub,B,pl,fl,C,q,x,(q+6),(v.length:Int),((q+6)+64),(((q+6)+64)+1),((((q+6)+64)+1)+4),(((((q+6)+64)+1)+4)+1)],[z,v],[(Ai l),H,P,A,R],[]⟩ ?_
  obtain ⟨_,(rfl|⟨M,rfl,ah,ag⟩),Y⟩:=ih ln len (j+1) g sub B pl fl C (((((q+6)+64)+1)+4)+1) z (Ai l) H P A R rfl I kn
  ·refine ch Y ?_
   exact Ag ⟨[(((((q+6)+64)+1)+4)+1)],[],[],[]⟩ (.inr ((⟨_,rfl,kn,kn⟩)))
  refine cm Y ?_
  refine ch Y ?_
  exact Ag ⟨[M],[],[],[]⟩ (.inr ((⟨_,rfl,kn,kn⟩)))
 exact Ag v0 (.inl rfl)
theorem Adz:AoH 79:=fun {l} ln len j g sub al pl fl rl sz knm L Ar P Fs R hL hp h=>Anu ((ln-j).toNat+1) ln len j g sub al pl fl rl sz knm L Ar P Fs R hL hp ⟨h.1,h.2.1,h.2.2.1,h.2.2.2.1,h.2.2.2.2.1,h.2.2.2.2.2.1,h.2.2.2.2.2.2,Nat.lt_succ_self _⟩
def Aes (N:Nat):Prop:=∀{ps:List Pe} {fb:List S} {I:List E} {Δ:Rl} {t:Int} (x q:Int) (L H:Int) (A B:Int) (C Q v:Int) (J j:List Nat) (M O P:Rs) (hF:M=Ai ps) (U:Yb ps) (Z:Nm J) (hB:O=S.Aa fb) (V:P=E.Aa I) (Y:PL fb) (X:TR Δ t (.node H A B C j I)) (h:x=M.length/\x<=2/\1<=q/\q<=3/\L=O.length/\Q=P.length/\0<=v/\v<=300000/\S.Ay fb<=2/\S.Ad fb<=160/\(E.node H A B C j I).nodes<=13/\(E.node H A B C j I).high<=5:=by exact kn),Ok trees N ⟨[x,q,L,H,A,B,C,Q,v],[J,j],[M,O,P],[]⟩ fun R=>(∃(z:Int),R=(0,(⟨[z],[],[],[]⟩:Aj))/\(z<=v+70000)/\(v<=z))
theorem Alx:Aes 101:=by
 intro ps fb J Δ t B z A M L C I H j v x FP FB RA hF aI hn hB hA hO Z h
 subst hF;subst hB;subst hA;have bB:=hn.len;have bC:=S.len fb;have bA:=S.A0 fb;have bD:([32,32]:List Nat).length=2:=rfl
 refine .of (t:=Z2) rfl ?_
 conv=>arg 3;reduce
 refine bu j 5 ?_
 obtain ⟨_,rfl,G1⟩:=FU v hn
 refine ch G1 ?_
 refine sl v ?_
 refine bu (j+5) 64 ?_
 refine nv ⟨[B,z,A,M,L,C,I,H,j,(j+5),(v.length:Int),((j+5)+64)],[v,x],[(Ai ps),(S.Aa fb),(E.Aa J)],[]⟩ ?_
 refine bu ((j+5)+64) 1 ?_
 obtain ⟨_,(rfl|⟨q,rfl,aR,ba⟩),G2⟩:=Alw B B 0 B z A M L C I H (((j+5)+64)+1) v x (Ai ps) (Ai ps) (S.Aa fb) (E.Aa J) rfl aI
 ·refine ch G2 ?_
  refine nv ⟨[B,z,A,M,L,C,I,H,j,(j+5),(v.length:Int),((j+5)+64),(((j+5)+64)+1)],[v,x],[(Ai ps),(S.Aa fb),(E.Aa J)],[]⟩ ?_
  refine bu (((j+5)+64)+1) 2 ?_
  refine nv ⟨[B,z,A,M,L,C,I,H,j,(j+5),(v.length:Int),((j+5)+64),(((j+5)+64)+1),((((j+5)+64)+1)+2)],[v,x],[(Ai ps),(S.Aa fb),(E.Aa J)],[]⟩ ?_
  refine Hl (z-1) 0 ?_
  refine IG (z-1) 3 ?_
  refine eq (z-1) 0 (fun t3=>?_) fun t3=>?_
  ·refine bu ((((j+5)+64)+1)+2) 3 ?_
   refine bu (((((j+5)+64)+1)+2)+3) 3 ?_
   refine nv ⟨[B,z,A,M,L,C,I,H,j,(j+5),(v.length:Int),((j+5)+64),(((j+5)+64)+1),((((j+5)+64)+1)+2),(((((j+5)+64)+1)+2)+3),((((((j+5)+64)+1)+2)+3)+3)],[v,x],[(Ai ps),(S.Aa fb),(E.Aa J)],[]⟩ ?_
   obtain ⟨_,(rfl|⟨U,rfl,a0,aU⟩),G4⟩:=Vo (IX.of (n:=1000) @JJ) A ((((((j+5)+64)+1)+2)+3)+3) [32,32] (S.Aa fb) hO rfl
   ·refine ch G4 ?_
    refine nv ⟨[B,z,A,M,L,C,I,H,j,(j+5),(v.length:Int),((j+5)+64),(((j+5)+64)+1),((((j+5)+64)+1)+2),(((((j+5)+64)+1)+2)+3),((((((j+5)+64)+1)+2)+3)+3)],[v,x],[(Ai ps),(S.Aa fb),(E.Aa J)],[]⟩ ?_
    refine bu ((((((j+5)+64)+1)+2)+3)+3) 9 ?_
    obtain ⟨_,⟨ab,rfl,bv,bo⟩,G5⟩:=Dj M L C I H (((((((j+5)+64)+1)+2)+3)+3)+9) x (E.Aa J) Z rfl
    refine ch G5 ?_
    refine nv ⟨[B,z,A,M,L,C,I,H,j,(j+5),(v.length:Int),((j+5)+64),(((j+5)+64)+1),((((j+5)+64)+1)+2),(((((j+5)+64)+1)+2)+3),((((((j+5)+64)+1)+2)+3)+3),(((((((j+5)+64)+1)+2)+3)+3)+9),ab],[v,x],[(Ai ps),(S.Aa fb),(E.Aa J)],[]⟩ ?_
    refine bu ab 3 ?_
    refine nv ⟨[B,z,A,M,L,C,I,H,j,(j+5),(v.length:Int),((j+5)+64),(((j+5)+64)+1),((((j+5)+64)+1)+2),(((((j+5)+64)+1)+2)+3),((((((j+5)+64)+1)+2)+3)+3),(((((((j+5)+64)+1)+2)+3)+3)+9),ab,(ab+3)],[v,x],[(Ai ps),(S.Aa fb),(E.Aa J)],[]⟩ ?_
    exact Ag ⟨[(ab+3)],[],[],[]⟩ (⟨_,rfl,kn,kn⟩)
   refine cm G4 ?_
   refine ch G4 ?_
   refine nv ⟨[B,z,A,M,L,C,I,H,j,(j+5),(v.length:Int),((j+5)+64),(((j+5)+64)+1),((((j+5)+64)+1)+2),(((((j+5)+64)+1)+2)+3),((((((j+5)+64)+1)+2)+3)+3),U],[v,x],[(Ai ps),(S.Aa fb),(E.Aa J)],[]⟩ ?_
   refine bu U 9 ?_
   obtain ⟨_,⟨ac,rfl,bl,bx⟩,G6⟩:=Dj M L C I H (U+9) x (E.Aa J) Z rfl
   refine ch G6 ?_
   refine nv ⟨[B,z,A,M,L,C,I,H,j,(j+5),(v.length:Int),((j+5)+64),(((j+5)+64)+1),((((j+5)+64)+1)+2),(((((j+5)+64)+1)+2)+3),((((((j+5)+64)+1)+2)+3)+3),U,(U+9),ac],[v,x],[(Ai ps),(S.Aa fb),(E.Aa J)],[]⟩ ?_
   refine bu ac 3 ?_
   refine nv ⟨[B,z,A,M,L,C,I,H,j,(j+5),(v.length:Int),((j+5)+64),(((j+5)+64)+1),((((j+5)+64)+1)+2),(((((j+5)+64)+1)+2)+3),((((((j+5)+64)+1)+2)+3)+3),U,(U+9),ac,(ac+3)],[v,x],[(Ai ps),(S.Aa fb),(E.Aa J)],[]⟩ ?_
   exact Ag ⟨[(ac+3)],[],[],[]⟩ (⟨_,rfl,kn,kn⟩)
  refine eq (z-1) 1 (fun t7=>?_) fun t7=>?_
  ·refine bu ((((j+5)+64)+1)+2) 3 ?_
   refine bu (((((j+5)+64)+1)+2)+3) 3 ?_
   refine nv ⟨[B,z,A,M,L,C,I,H,j,(j+5),(v.length:Int),((j+5)+64),(((j+5)+64)+1),((((j+5)+64)+1)+2),(((((j+5)+64)+1)+2)+3),((((((j+5)+64)+1)+2)+3)+3)],[v,x],[(Ai ps),(S.Aa fb),(E.Aa J)],[]⟩ ?_
   obtain ⟨_,(rfl|⟨R,rfl,a9,a5⟩),G8⟩:=Vo (IX.of (n:=1000) @JJ) A ((((((j+5)+64)+1)+2)+3)+3) [32,32] (S.Aa fb) hO rfl
   ·refine ch G8 ?_
    refine nv ⟨[B,z,A,M,L,C,I,H,j,(j+5),(v.length:Int),((j+5)+64),(((j+5)+64)+1),((((j+5)+64)+1)+2),(((((j+5)+64)+1)+2)+3),((((((j+5)+64)+1)+2)+3)+3)],[v,x],[(Ai ps),(S.Aa fb),(E.Aa J)],[]⟩ ?_
    refine bu ((((((j+5)+64)+1)+2)+3)+3) 9 ?_
    obtain ⟨_,⟨aa,rfl,bq,bw⟩,G9⟩:=Dj M L C I H (((((((j+5)+64)+1)+2)+3)+3)+9) x (E.Aa J) Z rfl
    refine ch G9 ?_
    refine nv ⟨[B,z,A,M,L,C,I,H,j,(j+5),(v.length:Int),((j+5)+64),(((j+5)+64)+1),((((j+5)+64)+1)+2),(((((j+5)+64)+1)+2)+3),((((((j+5)+64)+1)+2)+3)+3),(((((((j+5)+64)+1)+2)+3)+3)+9),aa],[v,x],[(Ai ps),(S.Aa fb),(E.Aa J)],[]⟩ ?_
    refine bu aa 3 ?_
    refine nv ⟨[B,z,A,M,L,C,I,H,j,(j+5),(v.length:Int),((j+5)+64),(((j+5)+64)+1),((((j+5)+64)+1)+2),(((((j+5)+64)+1)+2)+3),((((((j+5)+64)+1)+2)+3)+3),(((((((j+5)+64)+1)+2)+3)+3)+9),aa,(aa+3)],[v,x],[(Ai ps),(S.Aa fb),(E.Aa J)],[]⟩ ?_
    exact Ag ⟨[(aa+3)],[],[],[]⟩ (⟨_,rfl,kn,kn⟩)
   refine cm G8 ?_
   refine ch G8 ?_
   refine nv ⟨[B,z,A,M,L,C,I,H,j,(j+5),(v.length:Int),((j+5)+64),(((j+5)+64)+1),((((j+5)+64)+1)+2),(((((j+5)+64)+1)+2)+3),((((((j+5)+64)+1)+2)+3)+3),R],[v,x],[(Ai ps),(S.Aa fb),(E.Aa J)],[]⟩ ?_
   refine bu R 9 ?_
   obtain ⟨_,⟨Y,rfl,a7,aY⟩,aJ⟩:=Dj M L C I H (R+9) x (E.Aa J) Z rfl
   refine ch aJ ?_
   refine nv ⟨[B,z,A,M,L,C,I,H,j,(j+5),(v.length:Int),((j+5)+64),(((j+5)+64)+1),((((j+5)+64)+1)+2),(((((j+5)+64)+1)+2)+3),((((((j+5)+64)+1)+2)+3)+3),R,(R+9),Y],[v,x],[(Ai ps),(S.Aa fb),(E.Aa J)],[]⟩ ?_
   refine bu Y 3 ?_
   refine nv ⟨[B,z,A,M,L,C,I,H,j,(j+5),(v.length:Int),((j+5)+64),(((j+5)+64)+1),((((j+5)+64)+1)+2),(((((j+5)+64)+1)+2)+3),((((((j+5)+64)+1)+2)+3)+3),R,(R+9),Y,(Y+3)],[v,x],[(Ai ps),(S.Aa fb),(E.Aa J)],[]⟩ ?_
   exact Ag ⟨[(Y+3)],[],[],[]⟩ (⟨_,rfl,kn,kn⟩)
  refine AH (z-1) 2 ?_
  refine bu ((((j+5)+64)+1)+2) 4 ?_
  refine bu (((((j+5)+64)+1)+2)+4) 3 ?_
  refine nv ⟨[B,z,A,M,L,C,I,H,j,(j+5),(v.length:Int),((j+5)+64),(((j+5)+64)+1),((((j+5)+64)+1)+2),(((((j+5)+64)+1)+2)+4),((((((j+5)+64)+1)+2)+4)+3)],[v,x],[(Ai ps),(S.Aa fb),(E.Aa J)],[]⟩ ?_
  obtain ⟨_,(rfl|⟨N,rfl,aO,aL⟩),an⟩:=Vo (IX.of (n:=1000) @JJ) A ((((((j+5)+64)+1)+2)+4)+3) [32,32] (S.Aa fb) hO rfl
  ·refine ch an ?_
   refine nv ⟨[B,z,A,M,L,C,I,H,j,(j+5),(v.length:Int),((j+5)+64),(((j+5)+64)+1),((((j+5)+64)+1)+2),(((((j+5)+64)+1)+2)+4),((((((j+5)+64)+1)+2)+4)+3)],[v,x],[(Ai ps),(S.Aa fb),(E.Aa J)],[]⟩ ?_
   refine bu ((((((j+5)+64)+1)+2)+4)+3) 9 ?_
   obtain ⟨_,⟨V,rfl,aV,a3⟩,ax⟩:=Dj M L C I H (((((((j+5)+64)+1)+2)+4)+3)+9) x (E.Aa J) Z rfl
   refine ch ax ?_
   refine nv ⟨[B,z,A,M,L,C,I,H,j,(j+5),(v.length:Int),((j+5)+64),(((j+5)+64)+1),((((j+5)+64)+1)+2),(((((j+5)+64)+1)+2)+4),((((((j+5)+64)+1)+2)+4)+3),(((((((j+5)+64)+1)+2)+4)+3)+9),V],[v,x],[(Ai ps),(S.Aa fb),(E.Aa J)],[]⟩ ?_
   refine bu V 3 ?_
   refine nv ⟨[B,z,A,M,L,C,I,H,j,(j+5),(v.length:Int),((j+5)+64),(((j+5)+64)+1),((((j+5)+64)+1)+2),(((((j+5)+64)+1)+2)+4),((((((j+5)+64)+1)+2)+4)+3),(((((((j+5)+64)+1)+2)+4)+3)+9),V,(V+3)],[v,x],[(Ai ps),(S.Aa fb),(E.Aa J)],[]⟩ ?_
   exact Ag ⟨[(V+3)],[],[],[]⟩ (⟨_,rfl,kn,kn⟩)
  refine cm an ?_
  refine ch an ?_
  refine nv ⟨[B,z,A,M,L,C,I,H,j,(j+5),(v.length:Int),((j+5)+64),(((j+5)+64)+1),((((j+5)+64)+1)+2),(((((j+5)+64)+1)+2)+4),((((((j+5)+64)+1)+2)+4)+3),N],[v,x],[(Ai ps),(S.Aa fb),(E.Aa J)],[]⟩ ?_
  refine bu N 9 ?_
  obtain ⟨_,⟨X,rfl,a8,bh⟩,ay⟩:=Dj M L C I H (N+9) x (E.Aa J) Z rfl
  refine ch ay ?_
  refine nv ⟨[B,z,A,M,L,C,I,H,j,(j+5),(v.length:Int),((j+5)+64),(((j+5)+64)+1),((((j+5)+64)+1)+2),(((((j+5)+64)+1)+2)+4),((((((j+5)+64)+1)+2)+4)+3),N,(N+9),X],[v,x],[(Ai ps),(S.Aa fb),(E.Aa J)],[]⟩ ?_
  refine bu X 3 ?_
  refine nv ⟨[B,z,A,M,L,C,I,H,j,(j+5),(v.length:Int),((j+5)+64),(((j+5)+64)+1),((((j+5)+64)+1)+2),(((((j+5)+64)+1)+2)+4),((((((j+5)+64)+1)+2)+4)+3),N,(N+9),X,(X+3)],[v,x],[(Ai ps),(S.Aa fb),(E.Aa J)],[]⟩ ?_
  exact Ag ⟨[(X+3)],[],[],[]⟩ (⟨_,rfl,kn,kn⟩)
 refine cm G2 ?_
 refine ch G2 ?_
 refine nv ⟨[B,z,A,M,L,C,I,H,j,(j+5),(v.length:Int),((j+5)+64),(((j+5)+64)+1),q],[v,x],[(Ai ps),(S.Aa fb),(E.Aa J)],[]⟩ ?_
 refine bu q 2 ?_
 refine Hl (z-1) 0 ?_
 refine IG (z-1) 3 ?_
 refine eq (z-1) 0 (fun aK=>?_) fun aK=>?_
 ·refine bu (q+2) 3 ?_
  refine nv ⟨[B,z,A,M,L,C,I,H,j,(j+5),(v.length:Int),((j+5)+64),(((j+5)+64)+1),q,(q+2),((q+2)+3)],[v,x],[(Ai ps),(S.Aa fb),(E.Aa J)],[]⟩ ?_
  refine bu ((q+2)+3) 3 ?_
  obtain ⟨_,(rfl|⟨Q,rfl,aA,aw⟩),ao⟩:=Vo (IX.of (n:=1000) @JJ) A (((q+2)+3)+3) [32,32] (S.Aa fb) hO rfl
  ·refine ch ao ?_
   refine nv ⟨[B,z,A,M,L,C,I,H,j,(j+5),(v.length:Int),((j+5)+64),(((j+5)+64)+1),q,(q+2),((q+2)+3),(((q+2)+3)+3)],[v,x],[(Ai ps),(S.Aa fb),(E.Aa J)],[]⟩ ?_
   refine bu (((q+2)+3)+3) 9 ?_
   refine nv ⟨[B,z,A,M,L,C,I,H,j,(j+5),(v.length:Int),((j+5)+64),(((j+5)+64)+1),q,(q+2),((q+2)+3),(((q+2)+3)+3),((((q+2)+3)+3)+9)],[v,x],[(Ai ps),(S.Aa fb),(E.Aa J)],[]⟩ ?_
   obtain ⟨_,⟨ai,rfl,a1,be⟩,aB⟩:=Dj M L C I H ((((q+2)+3)+3)+9) x (E.Aa J) Z rfl
   refine ch aB ?_
   refine nv ⟨[B,z,A,M,L,C,I,H,j,(j+5),(v.length:Int),((j+5)+64),(((j+5)+64)+1),q,(q+2),((q+2)+3),(((q+2)+3)+3),((((q+2)+3)+3)+9),ai],[v,x],[(Ai ps),(S.Aa fb),(E.Aa J)],[]⟩ ?_
   refine bu ai 3 ?_
   exact Ag ⟨[(ai+3)],[],[],[]⟩ (⟨_,rfl,kn,kn⟩)
  refine cm ao ?_
  refine ch ao ?_
  refine nv ⟨[B,z,A,M,L,C,I,H,j,(j+5),(v.length:Int),((j+5)+64),(((j+5)+64)+1),q,(q+2),((q+2)+3),(((q+2)+3)+3),Q],[v,x],[(Ai ps),(S.Aa fb),(E.Aa J)],[]⟩ ?_
  refine bu Q 9 ?_
  refine nv ⟨[B,z,A,M,L,C,I,H,j,(j+5),(v.length:Int),((j+5)+64),(((j+5)+64)+1),q,(q+2),((q+2)+3),(((q+2)+3)+3),Q,(Q+9)],[v,x],[(Ai ps),(S.Aa fb),(E.Aa J)],[]⟩ ?_
  obtain ⟨_,⟨af,rfl,bc,a2⟩,aN⟩:=Dj M L C I H (Q+9) x (E.Aa J) Z rfl
  refine ch aN ?_
  refine nv ⟨[B,z,A,M,L,C,I,H,j,(j+5),(v.length:Int),((j+5)+64),(((j+5)+64)+1),q,(q+2),((q+2)+3),(((q+2)+3)+3),Q,(Q+9),af],[v,x],[(Ai ps),(S.Aa fb),(E.Aa J)],[]⟩ ?_
  refine bu af 3 ?_
  exact Ag ⟨[(af+3)],[],[],[]⟩ (⟨_,rfl,kn,kn⟩)
 refine eq (z-1) 1 (fun aG=>?_) fun aG=>?_
 ·refine bu (q+2) 3 ?_
  refine nv ⟨[B,z,A,M,L,C,I,H,j,(j+5),(v.length:Int),((j+5)+64),(((j+5)+64)+1),q,(q+2),((q+2)+3)],[v,x],[(Ai ps),(S.Aa fb),(E.Aa J)],[]⟩ ?_
  refine bu ((q+2)+3) 3 ?_
  obtain ⟨_,(rfl|⟨P,rfl,aD,aM⟩),ak⟩:=Vo (IX.of (n:=1000) @JJ) A (((q+2)+3)+3) [32,32] (S.Aa fb) hO rfl
  ·refine ch ak ?_
   refine nv ⟨[B,z,A,M,L,C,I,H,j,(j+5),(v.length:Int),((j+5)+64),(((j+5)+64)+1),q,(q+2),((q+2)+3),(((q+2)+3)+3)],[v,x],[(Ai ps),(S.Aa fb),(E.Aa J)],[]⟩ ?_
   refine bu (((q+2)+3)+3) 9 ?_
   refine nv ⟨[B,z,A,M,L,C,I,H,j,(j+5),(v.length:Int),((j+5)+64),(((j+5)+64)+1),q,(q+2),((q+2)+3),(((q+2)+3)+3),((((q+2)+3)+3)+9)],[v,x],[(Ai ps),(S.Aa fb),(E.Aa J)],[]⟩ ?_
   obtain ⟨_,⟨ah,rfl,aZ,aQ⟩,aP⟩:=Dj M L C I H ((((q+2)+3)+3)+9) x (E.Aa J) Z rfl
   refine ch aP ?_
   refine nv ⟨[B,z,A,M,L,C,I,H,j,(j+5),(v.length:Int),((j+5)+64),(((j+5)+64)+1),q,(q+2),((q+2)+3),(((q+2)+3)+3),((((q+2)+3)+3)+9),ah],[v,x],[(Ai ps),(S.Aa fb),(E.Aa J)],[]⟩ ?_
   refine bu ah 3 ?_
   exact Ag ⟨[(ah+3)],[],[],[]⟩ (⟨_,rfl,kn,kn⟩)
  refine cm ak ?_
  refine ch ak ?_
  refine nv ⟨[B,z,A,M,L,C,I,H,j,(j+5),(v.length:Int),((j+5)+64),(((j+5)+64)+1),q,(q+2),((q+2)+3),(((q+2)+3)+3),P],[v,x],[(Ai ps),(S.Aa fb),(E.Aa J)],[]⟩ ?_
  refine bu P 9 ?_
  refine nv ⟨[B,z,A,M,L,C,I,H,j,(j+5),(v.length:Int),((j+5)+64),(((j+5)+64)+1),q,(q+2),((q+2)+3),(((q+2)+3)+3),P,(P+9)],[v,x],[(Ai ps),(S.Aa fb),(E.Aa J)],[]⟩ ?_
  obtain ⟨_,⟨ad,rfl,a6,aX⟩,aC⟩:=Dj M L C I H (P+9) x (E.Aa J) Z rfl
  refine ch aC ?_
  refine nv ⟨[B,z,A,M,L,C,I,H,j,(j+5),(v.length:Int),((j+5)+64),(((j+5)+64)+1),q,(q+2),((q+2)+3),(((q+2)+3)+3),P,(P+9),ad],[v,x],[(Ai ps),(S.Aa fb),(E.Aa J)],[]⟩ ?_
  refine bu ad 3 ?_
  exact Ag ⟨[(ad+3)],[],[],[]⟩ (⟨_,rfl,kn,kn⟩)
 refine AH (z-1) 2 ?_
 refine bu (q+2) 4 ?_
 refine nv ⟨[B,z,A,M,L,C,I,H,j,(j+5),(v.length:Int),((j+5)+64),(((j+5)+64)+1),q,(q+2),((q+2)+4)],[v,x],[(Ai ps),(S.Aa fb),(E.Aa J)],[]⟩ ?_
 refine bu ((q+2)+4) 3 ?_
 obtain ⟨_,(rfl|⟨O,rfl,aH,aE⟩),al⟩:=Vo (IX.of (n:=1000) @JJ) A (((q+2)+4)+3) [32,32] (S.Aa fb) hO rfl
 ·refine ch al ?_
  refine nv ⟨[B,z,A,M,L,C,I,H,j,(j+5),(v.length:Int),((j+5)+64),(((j+5)+64)+1),q,(q+2),((q+2)+4),(((q+2)+4)+3)],[v,x],[(Ai ps),(S.Aa fb),(E.Aa J)],[]⟩ ?_
  refine bu (((q+2)+4)+3) 9 ?_
  refine nv ⟨[B,z,A,M,L,C,I,H,j,(j+5),(v.length:Int),((j+5)+64),(((j+5)+64)+1),q,(q+2),((q+2)+4),(((q+2)+4)+3),((((q+2)+4)+3)+9)],[v,x],[(Ai ps),(S.Aa fb),(E.Aa J)],[]⟩ ?_
  obtain ⟨_,⟨ag,rfl,a4,aW⟩,aF⟩:=Dj M L C I H ((((q+2)+4)+3)+9) x (E.Aa J) Z rfl
  refine ch aF ?_
  refine nv ⟨[B,z,A,M,L,C,I,H,j,(j+5),(v.length:Int),((j+5)+64),(((j+5)+64)+1),q,(q+2),((q+2)+4),(((q+2)+4)+3),((((q+2)+4)+3)+9),ag],[v,x],[(Ai ps),(S.Aa fb),(E.Aa J)],[]⟩ ?_
  refine bu ag 3 ?_
  exact Ag ⟨[(ag+3)],[],[],[]⟩ (⟨_,rfl,kn,kn⟩)
 refine cm al ?_
 refine ch al ?_
 refine nv ⟨[B,z,A,M,L,C,I,H,j,(j+5),(v.length:Int),((j+5)+64),(((j+5)+64)+1),q,(q+2),((q+2)+4),(((q+2)+4)+3),O],[v,x],[(Ai ps),(S.Aa fb),(E.Aa J)],[]⟩ ?_
 refine bu O 9 ?_
 refine nv ⟨[B,z,A,M,L,C,I,H,j,(j+5),(v.length:Int),((j+5)+64),(((j+5)+64)+1),q,(q+2),((q+2)+4),(((q+2)+4)+3),O,(O+9)],[v,x],[(Ai ps),(S.Aa fb),(E.Aa J)],[]⟩ ?_
 obtain ⟨_,⟨ae,rfl,bb,bg⟩,av⟩:=Dj M L C I H (O+9) x (E.Aa J) Z rfl
 refine ch av ?_
 refine nv ⟨[B,z,A,M,L,C,I,H,j,(j+5),(v.length:Int),((j+5)+64),(((j+5)+64)+1),q,(q+2),((q+2)+4),(((q+2)+4)+3),O,(O+9),ae],[v,x],[(Ai ps),(S.Aa fb),(E.Aa J)],[]⟩ ?_
 refine bu ae 3 ?_
 exact Ag ⟨[(ae+3)],[],[],[]⟩ (⟨_,rfl,kn,kn⟩)
def Apk (N n:Nat):Prop:=∀{l:List Fe} (ln len:Int) (j g:Int) (sub B:Int) (pl fl:Int) (C v:Int) (z:List Nat) (L H:Rs) (P A R:Rs) (J:L=Ak l) (M:NQ l) (I:FsU l) (h:ln=L.length/\len=ln/\0<=j/\j<=ln/\ln<=8/\ln<=2/\0<=v/\v+80000*(ln-j)<=200000/\(ln-j).toNat<n),Ok trees N ⟨[ln,len,j,g,sub,B,pl,fl,C,v],[z],[L,H,P,A,R],[]⟩ fun x=>(x=(0,v0))∨(∃(q:Int),x=(1,(⟨[q],[],[],[]⟩:Aj))/\(q<=200000)/\(v<=q))
def Ahz (N:Nat):Prop:=∀{l:List Fe} (ln len:Int) (j g:Int) (sub B:Int) (pl fl:Int) (C v:Int) (z:List Nat) (L H:Rs) (P A R:Rs) (J:L=Ak l) (M:NQ l) (I:FsU l) (h:ln=L.length/\len=ln/\0<=j/\j<=ln/\ln<=8/\ln<=2/\0<=v/\v+80000*(ln-j)<=200000:=by exact kn),Ok trees N ⟨[ln,len,j,g,sub,B,pl,fl,C,v],[z],[L,H,P,A,R],[]⟩ fun x=>(x=(0,v0))∨(∃(q:Int),x=(1,(⟨[q],[],[],[]⟩:Aj))/\(q<=200000)/\(v<=q))
theorem Ant (n:Nat):Apk 80 n:=by
 induction n with
 |zero=>intro l ln len j g sub al pl fl rl sz U L Ar P Fs R hL Y C h;exact absurd h.2.2.2.2.2.2.2.2 (Nat.not_lt_zero _)
 |succ n ih=>
 intro l ln len j g sub al pl fl rl sz U L Ar P Fs R hL Y C h
 subst hL
 refine .of (t:=AcC) rfl ?_
 conv=>arg 3;reduce
 refine lt j len (fun t1=>?_) fun t1=>?_
 ·refine CO j 0 ?_
  refine B8 j ln ?_
  obtain ⟨V,A,z,v,O,J,I,M,B,x,Z,N⟩:=FH (l:=l) j om om
  refine el Z ?_
  have q:=Y _ _ N;obtain ⟨aE,aG,aC⟩:=q.a;have aj:(Ai A).length<=2:=(by have:=q.pl;simpa [Ai]using this);have ak:S.Ay v<=2:=q.dp;have av:S.Ad v<=160:=q.nd;have au:(E.node O J I B M x).nodes<=13:=q.rn;have an:(E.node O J I B M x).high<=5:=q.rh;have ap:1<=z/\z<=3:=q.ty;have aq:=S.len v;have ao:=S.A0 v;have aw:=E.A0 x;obtain ⟨aA,aF,az,ay⟩:=C _ _ N
  obtain ⟨_,rfl,G3⟩:=Aoc ((S.Aa v).length:Int) (S.Aa v) asm rfl
  refine cm G3 ?_
  refine ch G3 ?_
  obtain ⟨_,⟨H,rfl,ax,aD⟩,G4⟩:=Alx ((Ai A).length:Int) z ((S.Aa v).length:Int) O J I B ((E.Aa x).length:Int) sz V M (Ai A) (S.Aa v) (E.Aa x) rfl q.ps q.nm rfl rfl q.fb asm
  refine ch G4 ?_
  obtain ⟨_,(rfl|⟨Q,rfl,ai,ah⟩),X⟩:=ih ln len (j+1) g sub al pl fl rl H U (Ak l) Ar P Fs R rfl Y C kn
  ·refine ch X ?_
   exact Ag ⟨[H],[],[],[]⟩ (.inr ((⟨_,rfl,kn,kn⟩)))
  refine cm X ?_
  refine ch X ?_
  exact Ag ⟨[Q],[],[],[]⟩ (.inr ((⟨_,rfl,kn,kn⟩)))
 exact Ag v0 (.inl rfl)
theorem Ry:Ahz 80:=fun {l} ln len j g sub al pl fl rl sz knm L Ar P Fs R hL hp hpu h=>Ant ((ln-j).toNat+1) ln len j g sub al pl fl rl sz knm L Ar P Fs R hL hp hpu ⟨h.1,h.2.1,h.2.2.1,h.2.2.2.1,h.2.2.2.2.1,h.2.2.2.2.2.1,h.2.2.2.2.2.2.1,h.2.2.2.2.2.2.2,Nat.lt_succ_self _⟩
end
section
set_option maxHeartbeats 4000000
set_option maxRecDepth 100000
open Go.AM Go.AM.K
def Ah0 (N:Nat):Prop:=∀{av:List Ae} {pv:List Pe} {fs:List Fe} {l:List S} (g sub:Int) (v pl:Int) (fl z:Int) (j:List Nat) (x P:Rs) (q R:Rs) (M:Nm j) (H:x=Aq av) (U:P=Ai pv) (J:q=Ak fs) (B:Yn av) (I:Yb pv) (Q:NQ fs) (C:FsU fs) (O:R=S.Aa l) (L:PL l) (h:v=x.length/\v<=8/\pl=P.length/\pl<=8/\fl=q.length/\fl<=2/\z=R.length/\S.Ad l<=1600/\S.Ay l<=10/\(g=4∨g=1∨g=2∨g=8∨g=6)/\0<=sub/\sub<=32:=by exact kn),Ok trees N ⟨[g,sub,v,pl,fl,z],[j],[x,P,q,R],[]⟩ fun A=>(A=(1,v0))
theorem Ahi:Ah0 49:=by
 intro av pv fs l g sub x pl fl j q Ar P Fs R aa ax hP az au ab L B hR v h
 subst ax;subst hP;subst az;subst hR;have bc:=S.len l;have ba:=S.A0 l;have be:([]:List Nat).length=0:=rfl;have bb:=aa.len
 refine .of (t:=AcE) rfl ?_
 conv=>arg 3;reduce
 obtain ⟨_,rfl,G1⟩:=AkD g sub x pl fl j q (Aq av) (Ai pv) (Ak fs) (S.Aa l) rfl L rfl v
 refine ch G1 ?_
 obtain ⟨_,rfl,G2⟩:=FU q aa
 refine ch G2 ?_
 refine sl q ?_
 refine CO g (-9223372036854775808) ?_
 refine Er g 9223372036854775807 ?_
 refine CO sub (-9223372036854775808) ?_
 refine Er sub 9223372036854775807 ?_
 obtain ⟨_,(rfl|⟨z,rfl,aQ,aM⟩),G3⟩:=Ak4 x x 0 g sub x pl fl j 126 q (Aq av) (Aq av) (Ai pv) (Ak fs) (S.Aa l) rfl au
 ·refine ch G3 ?_
  obtain ⟨_,(rfl|⟨C,rfl,aJ,aG⟩),G4⟩:=Adz pl pl 0 g sub x pl fl j 126 q (Ai pv) (Aq av) (Ai pv) (Ak fs) (S.Aa l) rfl ab
  ·refine ch G4 ?_
   obtain ⟨_,(rfl|⟨Y,rfl,aE,aD⟩),G5⟩:=Ry fl fl 0 g sub x pl fl j 126 q (Ak fs) (Aq av) (Ai pv) (Ak fs) (S.Aa l) rfl L B
   ·refine ch G5 ?_
    obtain ⟨_,⟨ai,rfl,a0,a9⟩,G6⟩:=JJ j 126 [] (S.Aa l) v rfl
    refine ch G6 ?_
    refine bu ai 1 ?_
    exact Ag v0 (rfl)
   refine cm G5 ?_
   refine ch G5 ?_
   obtain ⟨_,⟨ae,rfl,a3,a2⟩,G7⟩:=JJ j Y [] (S.Aa l) v rfl
   refine ch G7 ?_
   refine bu ae 1 ?_
   exact Ag v0 (rfl)
  refine cm G4 ?_
  refine ch G4 ?_
  obtain ⟨_,(rfl|⟨O,rfl,aR,aN⟩),G8⟩:=Ry fl fl 0 g sub x pl fl j C q (Ak fs) (Aq av) (Ai pv) (Ak fs) (S.Aa l) rfl L B
  ·refine ch G8 ?_
   obtain ⟨_,⟨ag,rfl,a5,a7⟩,G9⟩:=JJ j C [] (S.Aa l) v rfl
   refine ch G9 ?_
   refine bu ag 1 ?_
   exact Ag v0 (rfl)
  refine cm G8 ?_
  refine ch G8 ?_
  obtain ⟨_,⟨V,rfl,aO,aH⟩,ay⟩:=JJ j O [] (S.Aa l) v rfl
  refine ch ay ?_
  refine bu V 1 ?_
  exact Ag v0 (rfl)
 refine cm G3 ?_
 refine ch G3 ?_
 obtain ⟨_,(rfl|⟨A,rfl,aC,aA⟩),J⟩:=Adz pl pl 0 g sub x pl fl j z q (Ai pv) (Aq av) (Ai pv) (Ak fs) (S.Aa l) rfl ab
 ·refine ch J ?_
  obtain ⟨_,(rfl|⟨N,rfl,aw,ak⟩),H⟩:=Ry fl fl 0 g sub x pl fl j z q (Ak fs) (Aq av) (Ai pv) (Ak fs) (S.Aa l) rfl L B
  ·refine ch H ?_
   obtain ⟨_,⟨U,rfl,aP,aW⟩,an⟩:=JJ j z [] (S.Aa l) v rfl
   refine ch an ?_
   refine bu U 1 ?_
   exact Ag v0 (rfl)
  refine cm H ?_
  refine ch H ?_
  obtain ⟨_,⟨Q,rfl,aF,aI⟩,aq⟩:=JJ j N [] (S.Aa l) v rfl
  refine ch aq ?_
  refine bu Q 1 ?_
  exact Ag v0 (rfl)
 refine cm J ?_
 refine ch J ?_
 obtain ⟨_,(rfl|⟨I,rfl,ao,aj⟩),M⟩:=Ry fl fl 0 g sub x pl fl j A q (Ak fs) (Aq av) (Ai pv) (Ak fs) (S.Aa l) rfl L B
 ·refine ch M ?_
  obtain ⟨_,⟨Z,rfl,aK,aV⟩,ap⟩:=JJ j A [] (S.Aa l) v rfl
  refine ch ap ?_
  refine bu Z 1 ?_
  exact Ag v0 (rfl)
 refine cm M ?_
 refine ch M ?_
 obtain ⟨_,⟨X,rfl,aU,aL⟩,aB⟩:=JJ j I [] (S.Aa l) v rfl
 refine ch aB ?_
 refine bu X 1 ?_
 exact Ag v0 (rfl)
def Ah1 (N:Nat):Prop:=∀{av:List Ae} {pv:List Pe} {fs:List Fe} {l:List S} (g sub:Int) (v pl:Int) (fl z:Int) (j:List Nat) (x P:Rs) (q R:Rs) (M:Nm j) (H:x=Aq av) (U:P=Ai pv) (J:q=Ak fs) (B:Yn av) (I:Yb pv) (Q:NQ fs) (C:FsU fs) (O:R=S.Aa l) (L:PL l) (h:v=x.length/\v<=8/\pl=P.length/\pl<=8/\fl=q.length/\fl<=2/\z=R.length/\S.Ad l<=1600/\S.Ay l<=10/\(g=4∨g=1∨g=2∨g=8∨g=6)/\0<=sub/\sub<=32:=by exact kn),Ok trees N ⟨[g,sub,v,pl,fl,z],[j],[x,P,q,R],[]⟩ fun A=>(A=(1,v0))
theorem AbD:Ah1 48:=by
 intro av pv fs l g sub L pl fl M C Y P X R j z N B q A J v I H h
 subst z;subst N;subst B;subst I;have O:=S.len l;have Q:=S.A0 l;have U:([]:List Nat).length=0:=rfl;have V:=j.len
 refine .of (t:=AcF) rfl ?_
 conv=>arg 3;reduce
 obtain ⟨_,rfl,x⟩:=Ahi g sub L pl fl M C (Aq av) (Ai pv) (Ak fs) (S.Aa l) j rfl rfl rfl q A J v rfl H
 refine cm x ?_
 refine ch x ?_
 exact Ag v0 (rfl)
def Acg (N:Nat):Prop:=∀{A C:Ctx} {l:List S} (av:List Ae) (pv:List Pe) (fs:List Fe) (g sub:Int) (v pl:Int) (fl z:Int) (j:List Nat) (x P:Rs) (q R:Rs) (X:Nm j) (M:x=Aq av) (hP:P=Ai pv) (U:q=Ak fs) (H:Yn av) (O:Yb pv) (hp:NQ fs) (I:FsU fs) (Y:R=S.Aa l) (hs:BJ g sub) (hK:FsG av fs) (Q:Yh [] av) (J:FrP (am av) pv) (L:Xb (am av++pm pv) fs) (V:Ew 0 0 A l C) (Z:Ck A ((Aq av).length:Int) ((Ak fs).length:Int) (Aq av) (Ak fs) (am av++pm pv++fm fs)) (h:v=x.length/\v<=8/\pl=P.length/\pl<=8/\fl=q.length/\fl<=2/\z=R.length/\S.Ad l<=1600/\S.Ay l<=10/\(g=4∨g=1∨g=2∨g=8∨g=6)/\0<=sub/\sub<=32:=by exact kn),Ok trees N ⟨[g,sub,v,pl,fl,z],[j],[x,P,q,R],[]⟩ fun B=>(B=(1,(⟨[0,g,sub,v,pl,fl,z,0],[j],[x,P,q,R],[(am av++pm pv++fm fs)]⟩:Aj)))
theorem XT:Acg 46:=by
 intro Γb Γz l av pv fs g sub al pl fl q j Ar P Fs R z I hP L v J M B U hs hK x N C A V h
 subst I;subst hP;subst L;subst U;have ae:=S.len l;have af:=S.A0 l;have ag:([]:List Nat).length=0:=rfl;have ai:=z.len;obtain ⟨rfl,ad,rfl,ah,rfl,aj,ak⟩:=h
 refine .of (t:=Y4) rfl ?_
 conv=>arg 3;reduce
 obtain ⟨_,rfl,H⟩:=AbD g sub ((Aq av).length:Int) ((Ai pv).length:Int) ((Ak fs).length:Int) q j (Aq av) (Ai pv) (Ak fs) (S.Aa l) z rfl rfl rfl v J M B rfl A.pl
 refine cm H ?_
 refine ch H ?_
 obtain ⟨_,rfl,O⟩:=Aei g sub ((Aq av).length:Int) ((Ai pv).length:Int) ((Ak fs).length:Int) q j (Aq av) (Ai pv) (Ak fs) (S.Aa l) rfl v hs
 refine cm O ?_
 refine ch O ?_
 obtain ⟨_,⟨X,rfl,rfl⟩,Y⟩:=Aeh av pv fs g sub ((Aq av).length:Int) ((Ai pv).length:Int) ((Ak fs).length:Int) q j (Aq av) (Ai pv) (Ak fs) (S.Aa l) rfl rfl rfl x N C
 refine ch Y ?_
 obtain ⟨_,rfl,Z⟩:=Ti 0 ((Ak fs).length:Int) 0 g sub ((Aq av).length:Int) ((Ai pv).length:Int) ((Ak fs).length:Int) q g sub ((Aq av).length:Int) ((Ai pv).length:Int) ((Ak fs).length:Int) q 0 j j (Aq av) (Ai pv) (Ak fs) (S.Aa l) (Aq av) (Ai pv) (Ak fs) (S.Aa l) (am av++pm pv++fm fs) rfl rfl hK M x
 refine ch Z ?_
 refine AH 0 0 ?_
 obtain ⟨_,⟨ac,rfl,rfl⟩,Q⟩:=Alr q g sub ((Aq av).length:Int) ((Ai pv).length:Int) ((Ak fs).length:Int) q 0 j (S.Aa l) (Aq av) (Ai pv) (Ak fs) (S.Aa l) (am av++pm pv++fm fs) V A rfl
 refine ch Q ?_
 exact Ag ⟨[0,g,sub,((Aq av).length:Int),((Ai pv).length:Int),((Ak fs).length:Int),q,0],[j],[(Aq av),(Ai pv),(Ak fs),(S.Aa l)],[(am av++pm pv++fm fs)]⟩ (rfl)
def Ach (N:Nat):Prop:=∀{A C:Ctx} {l:List S} (av:List Ae) (pv:List Pe) (fs:List Fe) (g sub:Int) (v pl:Int) (fl z:Int) (j:List Nat) (x P:Rs) (q R:Rs) (X:Nm j) (M:x=Aq av) (hP:P=Ai pv) (U:q=Ak fs) (H:Yn av) (O:Yb pv) (hp:NQ fs) (I:FsU fs) (Y:R=S.Aa l) (hs:BJ g sub) (hK:FsG av fs) (Q:Yh [] av) (J:FrP (am av) pv) (L:Xb (am av++pm pv) fs) (V:Ew 0 0 A l C) (Z:Ck A ((Aq av).length:Int) ((Ak fs).length:Int) (Aq av) (Ak fs) (am av++pm pv++fm fs)) (h:v=x.length/\v<=8/\pl=P.length/\pl<=8/\fl=q.length/\fl<=2/\z=R.length/\S.Ad l<=1600/\S.Ay l<=10/\(g=4∨g=1∨g=2∨g=8∨g=6)/\0<=sub/\sub<=32:=by exact kn),Ok trees N ⟨[g,sub,v,pl,fl,z],[j],[x,P,q,R],[]⟩ fun B=>(B=(0,(⟨[0],[],[],[]⟩:Aj)))
theorem AbE:Ach 44:=by
 intro Γb Γz l av pv fs g sub Q pl fl U H Ar P Fs R j A X C q B O v M hs V I J x L N h
 subst A;subst X;subst C;subst M;have Y:=S.len l;have Z:=S.A0 l;have aa:([]:List Nat).length=0:=rfl;have ab:=j.len
 refine .of (t:=Y5) rfl ?_
 conv=>arg 3;reduce
 obtain ⟨_,rfl,z⟩:=XT av pv fs g sub Q pl fl U H (Aq av) (Ai pv) (Ak fs) (S.Aa l) j rfl rfl rfl q B O v rfl hs V I J x L N
 refine cm z ?_
 refine ch z ?_
 exact Ag ⟨[0],[],[],[]⟩ (rfl)
end
end Go.Proofs.YtbmofjdmgjpfoaaGreatDoor.Am
