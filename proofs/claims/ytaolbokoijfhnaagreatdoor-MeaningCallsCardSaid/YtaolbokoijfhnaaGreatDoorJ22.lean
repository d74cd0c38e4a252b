/- Part 22 of MeaningCalls. -/
import Derived.Test.YtaolbokoijfhnaaGreatDoorJ16
import Derived.Test.YtaolbokoijfhnaaGreatDoorJ21
set_option linter.all false
namespace Go.Proofs.YtaolbokoijfhnaaGreatDoor.Am
section
set_option maxHeartbeats 4000000
set_option maxRecDepth 100000
open Go.AM Go.AM.K
def Aq0 (N n:Nat):Prop:=∀{Δ:Rl} (a:List E) (dd V:Int) (X c3:Int) (z j:Int) (q Q:Int) (q2 R:Int) (Z Y:Int) (P J:Int) (q8 I:Int) (q10 q11:Int) (q12 B:Int) (C A H:Int) (u1 u2 U:List Nat) (D1 x:Rs) (D2 L:Rs) (D4 M:Rs) (hE:∀e∈a,EOR Δ e) (af:x=E.Ab a) (h:z=x.length/\z=2/\0<=j/\0<=q/\q+E.Ad (a.drop j.toNat)<=100000/\(2-j).toNat<n),Ok trees N ⟨[dd,V,X,c3,z,j,q,Q,q2,R,Z,Y,P,J,q8,I,q10,q11,q12,B,C,A,H],[u1,u2,U],[D1,x,D2,L,D4,M],[]⟩ fun O=>(∃(v:Int),O=(0,(⟨[v],[],[],[]⟩:Aj))/\(v=q+E.Ad (a.drop j.toNat)))
def ApX (N:Nat):Prop:=∀{Δ:Rl} (a:List E) (dd V:Int) (X c3:Int) (z j:Int) (q Q:Int) (q2 R:Int) (Z Y:Int) (P J:Int) (q8 I:Int) (q10 q11:Int) (q12 B:Int) (C A H:Int) (u1 u2 U:List Nat) (D1 x:Rs) (D2 L:Rs) (D4 M:Rs) (hE:∀e∈a,EOR Δ e) (af:x=E.Ab a) (h:z=x.length/\z=2/\0<=j/\0<=q/\q+E.Ad (a.drop j.toNat)<=100000:=by exact kn),Ok trees N ⟨[dd,V,X,c3,z,j,q,Q,q2,R,Z,Y,P,J,q8,I,q10,q11,q12,B,C,A,H],[u1,u2,U],[D1,x,D2,L,D4,M],[]⟩ fun O=>(∃(v:Int),O=(0,(⟨[v],[],[],[]⟩:Aj))/\(v=q+E.Ad (a.drop j.toNat)))
theorem X6 (n:Nat):Aq0 54 n:=by
 induction n with
 |zero=>intro Δ a dd c1 c2 c3 H j B X q2 Y q4 Z V N q8 M q10 q11 q12 v x q A u1 u2 u3 D1 XY D2 P D4 Q C I h;exact absurd h.2.2.2.2.2 (Nat.not_lt_zero _)
 |succ n ih=>
 intro Δ a dd c1 c2 c3 H j B X q2 Y q4 Z V N q8 M q10 q11 q12 v x q A u1 u2 u3 D1 XY D2 P D4 Q C I h
 subst I;have hz:=JN (a:=a) (j:=j)
 refine .of (t:=Af1) rfl ?_
 conv=>arg 3;reduce
 refine lt j 2 (fun t1=>?_) fun t1=>?_
 ·refine Dv j 0 ?_
  refine CF j H ?_
  obtain ⟨J,al,ap,ao,an,L,aF,R,U,z,aw,av⟩:=EL.get C j om om
  refine el R ?_
  have aq:=z
  refine ne J 0 (fun t3=>?_) fun t3=>?_
  ·have aG:=z om
   obtain ⟨_,⟨af,rfl,aE⟩,G4⟩:=Aln J al ap ao ((E.Ab L).length:Int) 1 B an (E.Ab L) (by exact U om) rfl
   refine ch G4 ?_
   obtain ⟨_,⟨O,rfl,aC⟩,G5⟩:=ih a dd c1 c2 c3 H (j+1) af X q2 Y q4 Z V N q8 M q10 q11 q12 v x q A u1 u2 u3 D1 (E.Ab a) D2 P D4 Q C rfl kn
   refine ch G5 ?_
   exact Ah ⟨[O],[],[],[]⟩ (⟨_,rfl,kn⟩)
  obtain ⟨_,⟨ae,rfl,aD⟩,G6⟩:=ih a dd c1 c2 c3 H (j+1) B X q2 Y q4 Z V N q8 M q10 q11 q12 v x q A u1 u2 u3 D1 (E.Ab a) D2 P D4 Q C rfl kn
  refine ch G6 ?_
  exact Ah ⟨[ae],[],[],[]⟩ (⟨_,rfl,kn⟩)
 exact Ah ⟨[B],[],[],[]⟩ (⟨_,rfl,kn⟩)
theorem AoU:ApX 54:=fun {Δ} a dd c1 c2 c3 xl j nn q1 q2 q3 q4 q5 q6 q7 q8 q9 q10 q11 q12 q13 q14 q15 q16 u1 u2 u3 D1 XY D2 D3 D4 D5 hE hXY h=>X6 ((2-j).toNat+1) a dd c1 c2 c3 xl j nn q1 q2 q3 q4 q5 q6 q7 q8 q9 q10 q11 q12 q13 q14 q15 q16 u1 u2 u3 D1 XY D2 D3 D4 D5 hE hXY ⟨h.1,h.2.1,h.2.2.1,h.2.2.2.1,h.2.2.2.2,Nat.lt_succ_self _⟩
def AhS (N n:Nat):Prop:=∀{l:List S} (ln v j:Int) (L:Rs) (A:PL l) (z:L=S.Ab l) (h:ln=L.length/\0<=v/\v+S.Az l<=31/\0<=j/\j+S.Ad l<=100000/\S.Az l<n),Ok trees N ⟨[ln,v,j],[],[L],[]⟩ fun x=>(∃(q:Int),x=(0,(⟨[q],[],[],[]⟩:Aj))/\(q=j+S.Ad l))
def ApZ (N:Nat):Prop:=∀{l:List S} (ln v j:Int) (L:Rs) (A:PL l) (z:L=S.Ab l) (h:ln=L.length/\0<=v/\v+S.Az l<=31/\0<=j/\j+S.Ad l<=100000:=by exact kn),Ok trees N ⟨[ln,v,j],[],[L],[]⟩ fun x=>(∃(q:Int),x=(0,(⟨[q],[],[],[]⟩:Aj))/\(q=j+S.Ad l))
def Aq1 (A N:Nat) (m n:Nat):Prop:=∀{l:List S} (x ln:Int) (len j q:Int) (L:Rs) (C:PL (l.drop j.toNat)) (B:L=S.Ab l) (h:ln=L.length/\ln<=200000/\len=ln/\0<=j/\0<=x/\x+S.Az (l.drop j.toNat)<=31/\0<=q/\q+S.Ad (l.drop j.toNat)<=100000/\S.Az (l.drop j.toNat)<=m/\(len-j).toNat<n),Ok trees N ⟨[x,ln,len,j,q],[],[L],[]⟩ fun z=>(∃(v:Int),z=(0,(⟨[v],[],[],[]⟩:Aj))/\(v=q+S.Ad (l.drop j.toNat)))
def ApY (z N:Nat):Prop:=∀{m:Nat} (B:AhS z m) {l:List S} (x ln:Int) (len j q:Int) (L:Rs) (H:PL (l.drop j.toNat)) (C:L=S.Ab l) (h:ln=L.length/\ln<=200000/\len=ln/\0<=j/\0<=x/\x+S.Az (l.drop j.toNat)<=31/\0<=q/\q+S.Ad (l.drop j.toNat)<=100000/\S.Az (l.drop j.toNat)<=m:=by exact kn),Ok trees N ⟨[x,ln,len,j,q],[],[L],[]⟩ fun A=>(∃(v:Int),A=(0,(⟨[v],[],[],[]⟩:Aj))/\(v=q+S.Ad (l.drop j.toNat)))
theorem Aof {m:Nat} (U:AhS 52 m) (n:Nat):Aq1 52 53 m n:=by
 induction n with
 |zero=>intro l R ln len j nn L hO V h;exact absurd h.2.2.2.2.2.2.2.2.2 (Nat.not_lt_zero _)
 |succ n ih=>
 intro l R ln len j nn L hO V h
 subst V;have hz:=Bf (l:=l) (j:=j)
 refine .of (t:=Af2) rfl ?_
 conv=>arg 3;reduce
 refine lt j len (fun t1=>?_) fun t1=>?_
 ·refine Dv j 0 ?_
  refine CF j ln ?_
  obtain ⟨aj,ag,al,ak,af,I,N,O,z,J,q,H,C,B,A,M,v,Q,P,Y,ae,ax,ap,aC⟩:=PL.get j hO om om
  refine el Y ?_
  obtain ⟨aD,an,aw,ao⟩:=ae.parts;have ab:=n2 (x:=.node I N O z J q) (y:=.node H C B A M v)
  refine gtN R 30 ?_
  refine dL [[.int .i64 I,.int .i64 N,.int .i64 O,.str J,.int .i32 z,.list 6 (E.Ab q)],[.int .i64 H,.int .i64 C,.int .i64 B,.str M,.int .i32 A,.list 6 (E.Ab v)]] (fun W3 e3=>?_)
  have f3:=cL e3;try simp only [lA,lC,lN,lT']at f3
  refine ll 2 W3 ?_
  refine fr ?_
  have e0:E.Ad ([E.node I N O z J q,.node H C B A M v].drop (0:Int).toNat)=_:=ab
  obtain ⟨_,⟨ad,rfl,aG⟩,G4⟩:=AoU [.node I N O z J q,.node H C B A M v] R ln len j 2 0 (nn+1) aj ag al ak I N O z ((E.Ab q).length:Int) H C B A ((E.Ab v).length:Int) ((S.Ab Q).length:Int) ((S.Ab P).length:Int) af J M (S.Ab l) W3 (E.Ab q) (E.Ab v) (S.Ab Q) (S.Ab P) asm (by subst_vars;rfl)
  refine ch G4 ?_
  obtain ⟨_,⟨X,rfl,aB⟩,G5⟩:=U ((S.Ab Q).length:Int) (R+1) ad (S.Ab Q) asm rfl kn
  refine ch G5 ?_
  obtain ⟨_,⟨ac,rfl,ay⟩,G6⟩:=U ((S.Ab P).length:Int) (R+1) X (S.Ab P) asm rfl kn
  refine ch G6 ?_
  obtain ⟨_,⟨Z,rfl,aH⟩,G7⟩:=ih R ln len (j+1) ac (S.Ab l) asm rfl kn
  refine ch G7 ?_
  exact Ah ⟨[Z],[],[],[]⟩ (⟨_,rfl,kn⟩)
 exact Ah ⟨[nn],[],[],[]⟩ (⟨_,rfl,kn⟩)
theorem AoV:ApY 52 53:=fun {m} hC52 {l} dd ln len j nn L hO hLs h=>Aof @hC52 ((len-j).toNat+1) dd ln len j nn L hO hLs ⟨h.1,h.2.1,h.2.2.1,h.2.2.2.1,h.2.2.2.2.1,h.2.2.2.2.2.1,h.2.2.2.2.2.2.1,h.2.2.2.2.2.2.2.1,h.2.2.2.2.2.2.2.2,Nat.lt_succ_self _⟩
theorem Aog (n:Nat):AhS 52 n:=by
 induction n with
 |zero=>intro l ln z v L x j h;exact absurd h.2.2.2.2.2 (Nat.not_lt_zero _)
 |succ n ih=>
 intro l ln z v L x j h
 subst j;have H:=S.len l;have I:=S.A7 l
 refine .of (t:=Af3) rfl ?_
 conv=>arg 3;reduce
 have A:S.Ad (l.drop (0:Int).toNat)=S.Ad l:=rfl;have J:S.Az (l.drop (0:Int).toNat)=S.Az l:=rfl
 obtain ⟨_,⟨q,rfl,C⟩,B⟩:=AoV @ih z ln ln 0 v (S.Ab l) x rfl
 refine ch B ?_
 exact Ah ⟨[q],[],[],[]⟩ (⟨_,rfl,(by have A:S.Ad (l.drop (0:Int).toNat)=S.Ad l:=rfl;omega)⟩)
theorem Alo:ApZ 52:=fun {l} ln dd nn L hO hLs h=>Aog (S.Az l+1) ln dd nn L hO hLs ⟨h.1,h.2.1,h.2.2.1,h.2.2.2.1,h.2.2.2.2,Nat.lt_succ_self _⟩
def An8 (N n:Nat):Prop:=∀{l:List Ae} (ln len j:Int) (L:Rs) (x:L=Ay l) (v:YB l) (h:ln=L.length/\len=ln/\0<=j/\j<=ln/\ln<=8/\(ln-j).toNat<n),Ok trees N ⟨[ln,len,j],[],[L],[]⟩ fun q=>(q=(1,v0))
def Anj (N:Nat):Prop:=∀{l:List Ae} (ln len j:Int) (L:Rs) (x:L=Ay l) (v:YB l) (h:ln=L.length/\len=ln/\0<=j/\j<=ln/\ln<=8:=by exact kn),Ok trees N ⟨[ln,len,j],[],[L],[]⟩ fun q=>(q=(1,v0))
theorem Ajf (n:Nat):An8 104 n:=by
 induction n with
 |zero=>intro l ln len j L O I h;exact absurd h.2.2.2.2.2 (Nat.not_lt_zero _)
 |succ n ih=>
 intro l ln len j L O I h
 subst O
 refine .of (t:=ZJ) rfl ?_
 conv=>arg 3;reduce
 refine lt j len (fun R=>?_) fun R=>?_
 ·refine Dv j 0 ?_
  refine CF j ln ?_
  obtain ⟨X,U,Y,v,J,M⟩:=Ia (l:=l) j om om
  refine el J ?_
  obtain ⟨q,H,B,x,C,A,z⟩:=I _ _ M;simp only at q H B x C A z;have P:=q.len
  refine lt v 1 (fun Q=>?_) fun Q=>?_
  ·exact dead
  refine gt v 4096 (fun V=>?_) fun V=>?_
  ·exact dead
  obtain ⟨_,rfl,N⟩:=ih ln len (j+1) (Ay l) rfl I kn
  refine cm N ?_
  refine ch N ?_
  exact Ah v0 (rfl)
 exact Ah v0 (rfl)
theorem Xf:Anj 104:=fun {l} ln len j L hL hp h=>Ajf ((ln-j).toNat+1) ln len j L hL hp ⟨h.1,h.2.1,h.2.2.1,h.2.2.2.1,h.2.2.2.2,Nat.lt_succ_self _⟩
def Ank (N:Nat):Prop:=∀{x:List Ae} (g sub:Int) (q pl:Int) (fl B:Int) (v:List Nat) (j P:Rs) (A R:Rs) (C:j=Ay x) (H:YB x) (hs:Cz g sub) (h:q=j.length/\q<=8/\(g=4∨g=1∨g=2∨g=8∨g=6):=by exact kn),Ok trees N ⟨[g,sub,q,pl,fl,B],[v],[j,P,A,R],[]⟩ fun z=>(z=(1,v0))
theorem Amb:Ank 103:=by
 intro v g sub j pl fl rl ad Ar P Fs R H q hs h
 subst H;obtain ⟨h1,ac,hg⟩:=h;obtain ⟨L,ab⟩:=hs
 rcases L with rfl|rfl|rfl|rfl
 ·refine .of (t:=Oz) rfl ?_
  conv=>arg 3;reduce
  refine lt g 1 (fun Z=>?_) fun Z=>?_
  ·exact dead
  refine gt g 256 (fun Q=>?_) fun Q=>?_
  ·exact dead
  refine JY 1 1 ?_
  refine gtN 1 32 ?_
  refine BJ 0 0 ?_ (by decide) (AdK (x:=1) (y:=(1-1)) dn dn (by decide))
  refine AB 1 0 ?_
  refine ne (g%1) 0 (fun U=>?_) fun U=>?_
  ·exact dead
  obtain ⟨_,rfl,C⟩:=Xf j j 0 (Ay v) rfl q
  refine cm C ?_
  refine ch C ?_
  exact Ah v0 (rfl)
 ·refine .of (t:=Oz) rfl ?_
  conv=>arg 3;reduce
  refine lt g 1 (fun t5=>?_) fun t5=>?_
  ·exact dead
  refine gt g 256 (fun X=>?_) fun X=>?_
  ·exact dead
  refine JY 2 1 ?_
  refine gtN 2 32 ?_
  refine BJ 0 0 ?_ (by decide) (AdK (x:=2) (y:=(2-1)) dn dn (by decide))
  refine AB 2 0 ?_
  refine ne (g%2) 0 (fun V=>?_) fun V=>?_
  ·exact dead
  obtain ⟨_,rfl,O⟩:=Xf j j 0 (Ay v) rfl q
  refine cm O ?_
  refine ch O ?_
  exact Ah v0 (rfl)
 ·refine .of (t:=Oz) rfl ?_
  conv=>arg 3;reduce
  refine lt g 1 (fun Y=>?_) fun Y=>?_
  ·exact dead
  refine gt g 256 (fun B=>?_) fun B=>?_
  ·exact dead
  refine JY 4 1 ?_
  refine gtN 4 32 ?_
  refine BJ 0 0 ?_ (by decide) (AdK (x:=4) (y:=(4-1)) dn dn (by decide))
  refine AB 4 0 ?_
  refine ne (g%4) 0 (fun N=>?_) fun N=>?_
  ·exact dead
  obtain ⟨_,rfl,A⟩:=Xf j j 0 (Ay v) rfl q
  refine cm A ?_
  refine ch A ?_
  exact Ah v0 (rfl)
 ·refine .of (t:=Oz) rfl ?_
  conv=>arg 3;reduce
  refine lt g 1 (fun J=>?_) fun J=>?_
  ·exact dead
  refine gt g 256 (fun M=>?_) fun M=>?_
  ·exact dead
  refine JY 8 1 ?_
  refine gtN 8 32 ?_
  refine BJ 0 0 ?_ (by decide) (AdK (x:=8) (y:=(8-1)) dn dn (by decide))
  refine AB 8 0 ?_
  refine ne (g%8) 0 (fun I=>?_) fun I=>?_
  ·exact dead
  obtain ⟨_,rfl,z⟩:=Xf j j 0 (Ay v) rfl q
  refine cm z ?_
  refine ch z ?_
  exact Ah v0 (rfl)
def Aq2 (N n:Nat):Prop:=∀{l:List Fe} (ln len:Int) (j g:Int) (sub A:Int) (pl fl:Int) (H v:Int) (x:List Nat) (L C:Rs) (P z R:Rs) (J:L=A5 l) (I:YA l) (h:ln=L.length/\len=ln/\0<=j/\j<=ln/\ln<=8/\ln<=2/\0<=v/\v+180*(ln-j)<=400/\(ln-j).toNat<n),Ok trees N ⟨[ln,len,j,g,sub,A,pl,fl,H,v],[x],[L,C,P,z,R],[]⟩ fun B=>(∃(q:Int),B=(0,(⟨[q],[],[],[]⟩:Aj))/\(0<=q)/\(q<=400))
def Aqa (N:Nat):Prop:=∀{l:List Fe} (ln len:Int) (j g:Int) (sub A:Int) (pl fl:Int) (H v:Int) (x:List Nat) (L C:Rs) (P z R:Rs) (J:L=A5 l) (I:YA l) (h:ln=L.length/\len=ln/\0<=j/\j<=ln/\ln<=8/\ln<=2/\0<=v/\v+180*(ln-j)<=400:=by exact kn),Ok trees N ⟨[ln,len,j,g,sub,A,pl,fl,H,v],[x],[L,C,P,z,R],[]⟩ fun B=>(∃(q:Int),B=(0,(⟨[q],[],[],[]⟩:Aj))/\(0<=q)/\(q<=400))
theorem Aoh (n:Nat):Aq2 51 n:=by
 induction n with
 |zero=>intro l ln len j g sub al pl fl rl U M L Ar P Z R hL V h;exact absurd h.2.2.2.2.2.2.2.2 (Nat.not_lt_zero _)
 |succ n ih=>
 intro l ln len j g sub al pl fl rl U M L Ar P Z R hL V h
 subst hL
 refine .of (t:=Af4) rfl ?_
 conv=>arg 3;reduce
 refine lt j len (fun t1=>?_) fun t1=>?_
 ·refine Dv j 0 ?_
  refine CF j ln ?_
  obtain ⟨aB,C,B,v,H,z,J,A,I,x,O,Q⟩:=HZ (l:=l) j om om
  refine el O ?_
  have q:=V _ _ Q;obtain ⟨aD,aC,av⟩:=q.a;have ak:(Ax C).length<=2:=(by have:=q.pl;simpa [Ax]using this);have ah:S.Az v<=2:=q.dp;have ai:S.Ad v<=160:=q.nd;have ao:(E.node H z J I A x).nodes<=13:=q.rn;have ae:(E.node H z J I A x).high<=5:=q.rh;have ag:1<=B/\B<=3:=q.ty;have aj:=S.len v;have an:=S.A7 v;have af:=E.A7 x
  refine gtN ((Ax C).length:Int) 8 ?_
  obtain ⟨_,⟨Y,rfl,ap⟩,G3⟩:=Alo ((S.Ab v).length:Int) 1 U (S.Ab v) q.fb rfl
  refine ch G3 ?_
  obtain ⟨_,⟨X,rfl,aA⟩,G4⟩:=Aln H z J I ((E.Ab x).length:Int) 1 Y A (E.Ab x) asm rfl
  refine ch G4 ?_
  obtain ⟨_,⟨N,rfl,az,au⟩,G5⟩:=ih ln len (j+1) g sub al pl fl rl X M (A5 l) Ar P Z R rfl V kn
  refine ch G5 ?_
  exact Ah ⟨[N],[],[],[]⟩ (⟨_,rfl,kn,kn⟩)
 exact Ah ⟨[U],[],[],[]⟩ (⟨_,rfl,kn,kn⟩)
theorem AoW:Aqa 51:=fun {l} ln len j g sub al pl fl rl nn knm L Ar P Fs R hL hp h=>Aoh ((ln-j).toNat+1) ln len j g sub al pl fl rl nn knm L Ar P Fs R hL hp ⟨h.1,h.2.1,h.2.2.1,h.2.2.2.1,h.2.2.2.2.1,h.2.2.2.2.2.1,h.2.2.2.2.2.2.1,h.2.2.2.2.2.2.2,Nat.lt_succ_self _⟩
def Aqb (N:Nat):Prop:=∀{fs:List Fe} {l:List S} (g sub:Int) (q pl:Int) (fl v:Int) (x:List Nat) (A P:Rs) (j R:Rs) (B:j=A5 fs) (H:YA fs) (I:R=S.Ab l) (C:PL l) (h:q<=8/\pl<=8/\fl=j.length/\fl<=2/\v=R.length/\S.Ad l<=1600/\S.Az l<=10:=by exact kn),Ok trees N ⟨[g,sub,q,pl,fl,v],[x],[A,P,j,R],[]⟩ fun z=>(z=(0,v0))
theorem AoX:Aqb 50:=by
 intro fs l g sub x pl fl A B N P X R v J O z h
 subst v;subst O;have V:=S.len l;have U:=S.A7 l
 refine .of (t:=Af5) rfl ?_
 conv=>arg 3;reduce
 refine gtN x 8 ?_
 refine gtN pl 8 ?_
 refine gtN fl 8 ?_
 obtain ⟨_,⟨q,rfl,H,I⟩,Q⟩:=AoW fl fl 0 g sub x pl fl A 0 B (A5 fs) N P (A5 fs) (S.Ab l) rfl J
 refine ch Q ?_
 obtain ⟨_,⟨j,rfl,M⟩,L⟩:=Alo A 1 q (S.Ab l) z rfl
 refine ch L ?_
 refine le j 2000 (fun C=>?_) fun C=>?_
 ·exact Ah v0 (rfl)
 exact dead
def Aee (N n:Nat):Prop:=∀{q:Int} {Γ v:Ctx} {l:List S} (ln:Int) (L:Rs) (z:EK q 1 Γ l v) (x:L=S.Ab l) (h:ln=L.length/\ln<=200000/\S.Ad l<=200000/\S.Az l<n),Ok trees N ⟨[ln],[],[L],[]⟩ fun j=>(j=(1,v0))
def ApG (N:Nat):Prop:=∀{q:Int} {Γ v:Ctx} {l:List S} (ln:Int) (L:Rs) (z:EK q 1 Γ l v) (x:L=S.Ab l) (h:ln=L.length/\ln<=200000/\S.Ad l<=200000:=by exact kn),Ok trees N ⟨[ln],[],[L],[]⟩ fun j=>(j=(1,v0))
def Aqr (z N:Nat) (m n:Nat):Prop:=∀{v:Int} {Γ x:Ctx} {l:List S} (ln len j:Int) (L:Rs) (B:EK v 1 Γ (l.drop j.toNat) x) (A:L=S.Ab l) (h:ln=L.length/\ln<=200000/\len=ln/\0<=j/\S.Az (l.drop j.toNat)<=m/\S.Ad (l.drop j.toNat)<=200000/\(len-j).toNat<n),Ok trees N ⟨[ln,len,j],[],[L],[]⟩ fun q=>(q=(1,v0))
def ApE (q N:Nat):Prop:=∀{m:Nat} (x:Aee q m) {z:Int} {Γ A:Ctx} {l:List S} (ln len j:Int) (L:Rs) (C:EK z 1 Γ (l.drop j.toNat) A) (B:L=S.Ab l) (h:ln=L.length/\ln<=200000/\len=ln/\0<=j/\S.Az (l.drop j.toNat)<=m/\S.Ad (l.drop j.toNat)<=200000:=by exact kn),Ok trees N ⟨[ln,len,j],[],[L],[]⟩ fun v=>(v=(1,v0))
theorem AnU {m:Nat} (x:Aee 81 m) (n:Nat):Aqr 81 83 m n:=by
 induction n with
 |zero=>intro lp Γ Γe l ln len j L hO O h;exact absurd h.2.2.2.2.2.2 (Nat.not_lt_zero _)
 |succ n ih=>
 intro lp Γ Γe l ln len j L hO O h
 subst O
 refine .of (t:=Afh) rfl ?_
 conv=>arg 3;reduce
 refine lt j len (fun t1=>?_) fun t1=>?_
 ·refine Dv j 0 ?_
  refine CF j ln ?_
  obtain ⟨z,aY,aZ,aX,aI,ay,aH,aM,ao,aF,aO,aL,aW,aP,aD,aG,aQ,v,q,au,Y,A,ax,aB,aE⟩:=EK.get j hO om om
  refine el Y ?_
  have aC:=A.pure;have az:=A.kinds;have aj:=S.len v;have al:=S.len q;have an:=S.A7 v;have ak:=S.A7 q;obtain ⟨_,aV,av,aU,aA,aw,ap⟩:=A.parts
  refine eq z 1 (fun t3=>?_) fun t3=>?_
  ·obtain ⟨_,rfl,G4⟩:=x ((S.Ab v).length:Int) (S.Ab v) asm rfl kn
   refine cm G4 ?_
   refine ch G4 ?_
   obtain ⟨_,rfl,G5⟩:=x ((S.Ab q).length:Int) (S.Ab q) asm rfl kn
   refine cm G5 ?_
   refine ch G5 ?_
   obtain ⟨_,rfl,Z⟩:=ih ln len (j+1) (S.Ab l) asm rfl kn
   refine cm Z ?_
   refine ch Z ?_
   exact Ah v0 (rfl)
  refine eq z 2 (fun t7=>?_) fun t7=>?_
  ·obtain ⟨_,rfl,G8⟩:=x ((S.Ab v).length:Int) (S.Ab v) asm rfl kn
   refine cm G8 ?_
   refine ch G8 ?_
   obtain ⟨_,rfl,G9⟩:=x ((S.Ab q).length:Int) (S.Ab q) asm rfl kn
   refine cm G9 ?_
   refine ch G9 ?_
   obtain ⟨_,rfl,R⟩:=ih ln len (j+1) (S.Ab l) asm rfl kn
   refine cm R ?_
   refine ch R ?_
   exact Ah v0 (rfl)
  refine eq z 5 (fun ac=>?_) fun ac=>?_
  ·obtain ⟨_,rfl,U⟩:=x ((S.Ab v).length:Int) (S.Ab v) asm rfl kn
   refine cm U ?_
   refine ch U ?_
   obtain ⟨_,rfl,M⟩:=x ((S.Ab q).length:Int) (S.Ab q) asm rfl kn
   refine cm M ?_
   refine ch M ?_
   obtain ⟨_,rfl,X⟩:=ih ln len (j+1) (S.Ab l) asm rfl kn
   refine cm X ?_
   refine ch X ?_
   exact Ah v0 (rfl)
  refine eq z 6 (fun af=>?_) fun af=>?_
  ·obtain ⟨_,rfl,N⟩:=x ((S.Ab v).length:Int) (S.Ab v) asm rfl kn
   refine cm N ?_
   refine ch N ?_
   obtain ⟨_,rfl,I⟩:=x ((S.Ab q).length:Int) (S.Ab q) asm rfl kn
   refine cm I ?_
   refine ch I ?_
   obtain ⟨_,rfl,J⟩:=ih ln len (j+1) (S.Ab l) asm rfl kn
   refine cm J ?_
   refine ch J ?_
   exact Ah v0 (rfl)
  refine eq z 7 (fun ag=>?_) fun ag=>?_
  ·obtain ⟨_,rfl,C⟩:=x ((S.Ab v).length:Int) (S.Ab v) asm rfl kn
   refine cm C ?_
   refine ch C ?_
   obtain ⟨_,rfl,B⟩:=x ((S.Ab q).length:Int) (S.Ab q) asm rfl kn
   refine cm B ?_
   refine ch B ?_
   obtain ⟨_,rfl,V⟩:=ih ln len (j+1) (S.Ab l) asm rfl kn
   refine cm V ?_
   refine ch V ?_
   exact Ah v0 (rfl)
  refine eq z 8 (fun ai=>?_) fun ai=>?_
  ·obtain ⟨_,rfl,Q⟩:=x ((S.Ab v).length:Int) (S.Ab v) asm rfl kn
   refine cm Q ?_
   refine ch Q ?_
   obtain ⟨_,rfl,H⟩:=x ((S.Ab q).length:Int) (S.Ab q) asm rfl kn
   refine cm H ?_
   refine ch H ?_
   obtain ⟨_,rfl,P⟩:=ih ln len (j+1) (S.Ab l) asm rfl kn
   refine cm P ?_
   refine ch P ?_
   exact Ah v0 (rfl)
  exact dead
 exact Ah v0 (rfl)
theorem AoL:ApE 81 83:=fun {m} hC81 {lp} {Γ} {Γe} {l} ln len j L hO hLs h=>AnU @hC81 ((len-j).toNat+1) ln len j L hO hLs ⟨h.1,h.2.1,h.2.2.1,h.2.2.2.1,h.2.2.2.2.1,h.2.2.2.2.2,Nat.lt_succ_self _⟩
def ApF (j N:Nat):Prop:=∀{m:Nat} (v:Aee j m) {x:Int} {Γ z:Ctx} {l:List S} (ln:Int) (L:Rs) (B:EK x 1 Γ l z) (A:L=S.Ab l) (h:ln=L.length/\ln<=200000/\S.Ad l<=200000/\S.Az l<=m:=by exact kn),Ok trees N ⟨[ln],[],[L],[]⟩ fun q=>(q=(0,(⟨[(-1)],[],[],[]⟩:Aj)))
theorem AoM:ApF 81 82:=by
 intro m j A Γ B l ln L x v h
 subst v;have z:S.Az (l.drop (0:Int).toNat)=S.Az l:=rfl;have C:S.Ad (l.drop (0:Int).toNat)=S.Ad l:=rfl
 refine .of (t:=Afi) rfl ?_
 conv=>arg 3;reduce
 obtain ⟨_,rfl,q⟩:=AoL @j ln ln 0 (S.Ab l) x rfl
 refine cm q ?_
 refine ch q ?_
 exact Ah ⟨[(-1)],[],[],[]⟩ (rfl)
theorem AnV (n:Nat):Aee 81 n:=by
 induction n with
 |zero=>intro x Γ z l ln L q j h;exact absurd h.2.2.2 (Nat.not_lt_zero _)
 |succ n ih=>
 intro x Γ z l ln L q j h
 refine .of (t:=Afj) rfl ?_
 conv=>arg 3;reduce
 obtain ⟨_,rfl,v⟩:=AoM @ih ln L q j
 refine ch v ?_
 refine LA (-1) 0 ?_
 exact Ah v0 (rfl)
theorem AoN:ApG 81:=fun {lp} {Γ} {Γe} {l} ln L hO hLs h=>AnV (S.Az l+1) ln L hO hLs ⟨h.1,h.2.1,h.2.2,Nat.lt_succ_self _⟩
end
end Go.Proofs.YtaolbokoijfhnaaGreatDoor.Am
