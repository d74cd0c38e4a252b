/- Part 22 of TypesFunctions. -/
import Derived.Test.YtbmofjdmgjpfoaaGreatDoorF17
import Derived.Test.YtbmofjdmgjpfoaaGreatDoorF20
set_option linter.all false
namespace Go.Proofs.YtbmofjdmgjpfoaaGreatDoor.Am
section
set_option maxHeartbeats 4000000
set_option maxRecDepth 100000
open Go.AM Go.AM.K
abbrev Fu:=@IW
abbrev Ael:=@Ahx
theorem Fu.of {N n:Nat} (H:Ael N):Fu N n:=IW.of @H
abbrev AmJ:=@Acw
abbrev AlN:=@Acp
theorem Aio {m:Nat} (v:Fu 170 m) (n:Nat):AmJ 170 175 m n:=by
 induction n with
 |zero=>intro Δ a ln len j A L N M h;exact absurd h.2.2.2.2.2.2.2.2 (Nat.not_lt_zero _)
 |succ n ih=>
 intro Δ a ln len j A L N M h
 subst M;have hz:=HA (a:=a) (j:=j)
 refine .of (t:=Y8) rfl ?_
 conv=>arg 3;reduce
 refine lt j len (fun t1=>?_) fun t1=>?_
 ·refine CO j 0 ?_
  refine B8 j ln ?_
  obtain ⟨P,I,H,O,J,q,ao,U,aj,ah,Z,al⟩:=N.get j om om
  refine el U ?_
  refine gt j 0 (fun t3=>?_) fun t3=>?_
  ·refine bu A 2 ?_
   obtain ⟨_,⟨x,rfl,ad,an⟩,G4⟩:=v P I H O ((E.Aa q).length:Int) (A+2) J (E.Aa q) asm rfl kn
   refine ch G4 ?_
   obtain ⟨_,(⟨rfl,ac⟩|⟨C,rfl,Y,V⟩),R⟩:=ih ln len (j+1) x (E.Aa a) asm rfl kn
   ·refine ch R ?_
    exact Ag ⟨[x],[],[],[]⟩ (.inr ((⟨_,rfl,kn,kn⟩)))
   refine cm R ?_
   refine ch R ?_
   exact Ag ⟨[C],[],[],[]⟩ (.inr ((⟨_,rfl,kn,kn⟩)))
  obtain ⟨_,⟨z,rfl,ae,ak⟩,G6⟩:=v P I H O ((E.Aa q).length:Int) A J (E.Aa q) asm rfl kn
  refine ch G6 ?_
  obtain ⟨_,(⟨rfl,aa⟩|⟨B,rfl,ab,X⟩),Q⟩:=ih ln len (j+1) z (E.Aa a) asm rfl kn
  ·refine ch Q ?_
   exact Ag ⟨[z],[],[],[]⟩ (.inr ((⟨_,rfl,kn,kn⟩)))
  refine cm Q ?_
  refine ch Q ?_
  exact Ag ⟨[B],[],[],[]⟩ (.inr ((⟨_,rfl,kn,kn⟩)))
 exact Ag v0 (.inl (⟨rfl,kn⟩))
theorem AkI:AlN 170 175:=fun {m} hC170 {Δ} {a} ln len j sz L hTL hLa h=>Aio @hC170 ((len-j).toNat+1) ln len j sz L hTL hLa ⟨h.1,h.2.1,h.2.2.1,h.2.2.2.1,h.2.2.2.2.1,h.2.2.2.2.2.1,h.2.2.2.2.2.2.1,h.2.2.2.2.2.2.2,Nat.lt_succ_self _⟩
abbrev AlP:=@Ahw
theorem DB:AlP 170 172:=by
 intro m v Δ a ln q L x A h
 subst A;have J:=TR.len x;have I:E.Ad (a.drop (0:Int).toNat)=E.Ad a:=rfl
 refine .of (t:=YA) rfl ?_
 conv=>arg 3;reduce
 refine bu q 1 ?_
 obtain ⟨_,(⟨rfl,C⟩|⟨j,rfl,B,H⟩),z⟩:=AkI @v ln ln 0 (q+1) (E.Aa a) x rfl
 ·refine ch z ?_
  refine bu (q+1) 1 ?_
  exact Ag ⟨[((q+1)+1)],[],[],[]⟩ (⟨_,rfl,kn,kn⟩)
 refine cm z ?_
 refine ch z ?_
 refine bu j 1 ?_
 exact Ag ⟨[(j+1)],[],[],[]⟩ (⟨_,rfl,kn,kn⟩)
abbrev AmK:=@Acw
abbrev AlO:=@Acp
theorem Aip {m:Nat} (v:Fu 170 m) (n:Nat):AmK 170 174 m n:=by
 induction n with
 |zero=>intro Δ a ln len j A L N M h;exact absurd h.2.2.2.2.2.2.2.2 (Nat.not_lt_zero _)
 |succ n ih=>
 intro Δ a ln len j A L N M h
 subst M;have hz:=HA (a:=a) (j:=j)
 refine .of (t:=Y9) rfl ?_
 conv=>arg 3;reduce
 refine lt j len (fun t1=>?_) fun t1=>?_
 ·refine CO j 0 ?_
  refine B8 j ln ?_
  obtain ⟨P,I,H,O,J,q,ao,U,aj,ah,Z,al⟩:=N.get j om om
  refine el U ?_
  refine gt j 0 (fun t3=>?_) fun t3=>?_
  ·refine bu A 2 ?_
   obtain ⟨_,⟨x,rfl,ad,an⟩,G4⟩:=v P I H O ((E.Aa q).length:Int) (A+2) J (E.Aa q) asm rfl kn
   refine ch G4 ?_
   obtain ⟨_,(⟨rfl,ac⟩|⟨C,rfl,Y,V⟩),R⟩:=ih ln len (j+1) x (E.Aa a) asm rfl kn
   ·refine ch R ?_
    exact Ag ⟨[x],[],[],[]⟩ (.inr ((⟨_,rfl,kn,kn⟩)))
   refine cm R ?_
   refine ch R ?_
   exact Ag ⟨[C],[],[],[]⟩ (.inr ((⟨_,rfl,kn,kn⟩)))
  obtain ⟨_,⟨z,rfl,ae,ak⟩,G6⟩:=v P I H O ((E.Aa q).length:Int) A J (E.Aa q) asm rfl kn
  refine ch G6 ?_
  obtain ⟨_,(⟨rfl,aa⟩|⟨B,rfl,ab,X⟩),Q⟩:=ih ln len (j+1) z (E.Aa a) asm rfl kn
  ·refine ch Q ?_
   exact Ag ⟨[z],[],[],[]⟩ (.inr ((⟨_,rfl,kn,kn⟩)))
  refine cm Q ?_
  refine ch Q ?_
  exact Ag ⟨[B],[],[],[]⟩ (.inr ((⟨_,rfl,kn,kn⟩)))
 exact Ag v0 (.inl (⟨rfl,kn⟩))
theorem AkJ:AlO 170 174:=fun {m} hC170 {Δ} {a} ln len j sz L hTL hLa h=>Aip @hC170 ((len-j).toNat+1) ln len j sz L hTL hLa ⟨h.1,h.2.1,h.2.2.1,h.2.2.2.1,h.2.2.2.2.1,h.2.2.2.2.2.1,h.2.2.2.2.2.2.1,h.2.2.2.2.2.2.2,Nat.lt_succ_self _⟩
abbrev AlQ:=@Ahw
theorem AkK:AlQ 170 171:=by
 intro m v Δ a ln q L x A h
 subst A;have J:=TR.len x;have I:E.Ad (a.drop (0:Int).toNat)=E.Ad a:=rfl
 refine .of (t:=YB) rfl ?_
 conv=>arg 3;reduce
 refine bu q 1 ?_
 obtain ⟨_,(⟨rfl,C⟩|⟨j,rfl,B,H⟩),z⟩:=AkJ @v ln ln 0 (q+1) (E.Aa a) x rfl
 ·refine ch z ?_
  refine bu (q+1) 1 ?_
  exact Ag ⟨[((q+1)+1)],[],[],[]⟩ (⟨_,rfl,kn,kn⟩)
 refine cm z ?_
 refine ch z ?_
 refine bu j 1 ?_
 exact Ag ⟨[(j+1)],[],[],[]⟩ (⟨_,rfl,kn,kn⟩)
theorem Aiq (n:Nat):Fu 170 n:=by
 induction n with
 |zero=>intro Δ t a k o ty v ln q s A R hA h;exact absurd h.2.2.2 (Nat.not_lt_zero _)
 |succ n ih=>
 intro Δ t a k o ty v ln q s A R hA h
 subst hA;have ⟨eo,em,ek⟩:=R.kind;have e1:=R.nodes;have e2:=J3 (k:=k) (o:=o) (ty:=ty) (v:=v) (s:=s) (a:=a);have hl:=TR.len R.args;have en:=E.A0 a;have e0:E.Ad (a.drop (0:Int).toNat)=E.Ad a:=rfl;have Q:ln=(a.length:Int):=by have:=h.1;rw [E.A0]at this;exact this
 rcases R.inv with hv|hv|hv|hv|hv|hv|hv|hv|hv|hv
 ·obtain ⟨rfl,rfl,rfl,rfl,rfl,r1,r2,r3,r4,r5,r6⟩:=hv;simp only [lC,lN]at Q;have U:E.Ad []=0:=rfl;have P:TL Δ []:=R.args
  refine .of (t:=E5) rfl ?_
  conv=>arg 3;reduce
  refine AH 1 1 ?_
  refine eq ty 1 (fun t1=>?_) fun t1=>?_
  ·refine bu q 21 ?_
   exact Ag ⟨[(q+21)],[],[],[]⟩ (⟨_,rfl,kn,kn⟩)
  refine eq ty 2 (fun C=>?_) fun C=>?_
  ·obtain ⟨_,(rfl|rfl),G3⟩:=Ak2 v (r4 om)
   ·refine ch G3 ?_
    refine bu q 34 ?_
    exact Ag ⟨[(q+34)],[],[],[]⟩ (⟨_,rfl,kn,kn⟩)
   refine cm G3 ?_
   refine ch G3 ?_
   refine bu q 33 ?_
   exact Ag ⟨[(q+33)],[],[],[]⟩ (⟨_,rfl,kn,kn⟩)
  refine eq ty 3 (fun t4=>?_) fun t4=>?_
  ·refine eq v 0 (fun t5=>?_) fun t5=>?_
   ·refine Az v 1 ?_
    refine bu q 5 ?_
    exact Ag ⟨[(q+5)],[],[],[]⟩ (⟨_,rfl,kn,kn⟩)
   refine eq v 1 (fun t6=>?_) fun t6=>?_
   ·refine bu q 4 ?_
    exact Ag ⟨[(q+4)],[],[],[]⟩ (⟨_,rfl,kn,kn⟩)
   refine bu q 0 ?_
   exact Ag ⟨[(q+0)],[],[],[]⟩ (⟨_,rfl,kn,kn⟩)
  refine bu q 0 ?_
  exact Ag ⟨[(q+0)],[],[],[]⟩ (⟨_,rfl,kn,kn⟩)
 ·obtain ⟨rfl,rfl,rfl,rfl,rfl,rfl,r1,r2⟩:=hv;simp only [lC,lN]at Q;have U:E.Ad []=0:=rfl;have P:TL Δ []:=R.args
  refine .of (t:=E5) rfl ?_
  conv=>arg 3;reduce
  refine Az 3 1 ?_
  refine Az 3 2 ?_
  refine AH 3 3 ?_
  refine lt (o-1) 0 (fun t7=>?_) fun t7=>?_
  ·exact dead
  refine ge (o-1) 7 (fun t8=>?_) fun t8=>?_
  ·exact dead
  refine eq (o-1) 0 (fun t9=>?_) fun t9=>?_
  ·refine bu q 5 ?_
   exact Ag ⟨[(q+5)],[],[],[]⟩ (⟨_,rfl,kn,kn⟩)
  refine eq (o-1) 1 (fun bK=>?_) fun bK=>?_
  ·refine bu q 6 ?_
   exact Ag ⟨[(q+6)],[],[],[]⟩ (⟨_,rfl,kn,kn⟩)
  refine eq (o-1) 2 (fun a6=>?_) fun a6=>?_
  ·refine bu q 6 ?_
   exact Ag ⟨[(q+6)],[],[],[]⟩ (⟨_,rfl,kn,kn⟩)
  refine eq (o-1) 3 (fun bO=>?_) fun bO=>?_
  ·refine bu q 6 ?_
   exact Ag ⟨[(q+6)],[],[],[]⟩ (⟨_,rfl,kn,kn⟩)
  refine eq (o-1) 4 (fun bV=>?_) fun bV=>?_
  ·refine bu q 5 ?_
   exact Ag ⟨[(q+5)],[],[],[]⟩ (⟨_,rfl,kn,kn⟩)
  refine eq (o-1) 5 (fun bv=>?_) fun bv=>?_
  ·refine bu q 5 ?_
   exact Ag ⟨[(q+5)],[],[],[]⟩ (⟨_,rfl,kn,kn⟩)
  refine AH (o-1) 6 ?_
  refine bu q 4 ?_
  exact Ag ⟨[(q+4)],[],[],[]⟩ (⟨_,rfl,kn,kn⟩)
 ·obtain ⟨rfl,rfl,rfl,rfl,rfl,hs,kk,ii,hk,r1,r2,hg⟩:=hv;simp only [lC,lN]at Q;have U:E.Ad []=0:=rfl;have P:TL Δ []:=R.args;have av:=Nm.len (s:=s) asm
  refine .of (t:=E5) rfl ?_
  conv=>arg 3;reduce
  refine Az 2 1 ?_
  refine AH 2 2 ?_
  refine sl s ?_
  refine bu q 64 ?_
  exact Ag ⟨[(q+64)],[],[],[]⟩ (⟨_,rfl,kn,kn⟩)
 ·obtain ⟨rfl,rfl,rfl,rfl,k1,J,t1,L,I,B,w,rfl,hu,h1⟩:=hv;simp only [lC,lN]at Q;have U:=n1 (x:=.node k1 J t1 L I B);have e4:=g1 (x:=.node k1 J t1 L I B);have P:TL Δ [.node k1 J t1 L I B]:=R.args;have hr:=hu.Ty
  refine .of (t:=E5) rfl ?_
  conv=>arg 3;reduce
  refine Az 4 1 ?_
  refine Az 4 2 ?_
  refine Az 4 3 ?_
  refine AH 4 4 ?_
  refine lt (o-1) 0 (fun bB=>?_) fun bB=>?_
  ·obtain ⟨_,⟨aX,rfl,c6,c1⟩,a7⟩:=DB @ih ln q (E.Aa [.node k1 J t1 L I B]) P rfl
   refine ch a7 ?_
   exact Ag ⟨[aX],[],[],[]⟩ (⟨_,rfl,kn,kn⟩)
  refine ge (o-1) 5 (fun b8=>?_) fun b8=>?_
  ·obtain ⟨_,⟨aY,rfl,cy,cz⟩,bP⟩:=DB @ih ln q (E.Aa [.node k1 J t1 L I B]) P rfl
   refine ch bP ?_
   exact Ag ⟨[aY],[],[],[]⟩ (⟨_,rfl,kn,kn⟩)
  refine eq (o-1) 0 (fun b6=>?_) fun b6=>?_
  ·refine bu q 3 ?_
   obtain ⟨_,⟨aV,rfl,dC,dc⟩,bE⟩:=DB @ih ln (q+3) (E.Aa [.node k1 J t1 L I B]) P rfl
   refine ch bE ?_
   exact Ag ⟨[aV],[],[],[]⟩ (⟨_,rfl,kn,kn⟩)
  refine eq (o-1) 1 (fun cc=>?_) fun cc=>?_
  ·refine bu q 3 ?_
   obtain ⟨_,⟨aR,rfl,d7,cC⟩,b9⟩:=DB @ih ln (q+3) (E.Aa [.node k1 J t1 L I B]) P rfl
   refine ch b9 ?_
   exact Ag ⟨[aR],[],[],[]⟩ (⟨_,rfl,kn,kn⟩)
  refine eq (o-1) 2 (fun ce=>?_) fun ce=>?_
  ·refine bu q 3 ?_
   obtain ⟨_,⟨aJ,rfl,cW,c3⟩,bQ⟩:=DB @ih ln (q+3) (E.Aa [.node k1 J t1 L I B]) P rfl
   refine ch bQ ?_
   exact Ag ⟨[aJ],[],[],[]⟩ (⟨_,rfl,kn,kn⟩)
  refine eq (o-1) 3 (fun bJ=>?_) fun bJ=>?_
  ·refine bu q 3 ?_
   obtain ⟨_,⟨aQ,rfl,d2,cT⟩,ba⟩:=DB @ih ln (q+3) (E.Aa [.node k1 J t1 L I B]) P rfl
   refine ch ba ?_
   exact Ag ⟨[aQ],[],[],[]⟩ (⟨_,rfl,kn,kn⟩)
  refine AH (o-1) 4 ?_
  refine bu q 3 ?_
  obtain ⟨_,⟨aG,rfl,dH,ea⟩,bC⟩:=DB @ih ln (q+3) (E.Aa [.node k1 J t1 L I B]) P rfl
  refine ch bC ?_
  exact Ag ⟨[aG],[],[],[]⟩ (⟨_,rfl,kn,kn⟩)
 ·obtain ⟨rfl,rfl,rfl,rfl,k1,J,t1,L,I,B,H,M,C,O,N,b2,w,rfl,hu,h1,h2⟩:=hv;simp only [lC,lN]at Q;have U:=n2 (x:=.node k1 J t1 L I B) (y:=.node H M C O N b2);have e4:=g2 (x:=.node k1 J t1 L I B) (y:=.node H M C O N b2);have P:TL Δ [.node k1 J t1 L I B,.node H M C O N b2]:=R.args;have hr:=hu.Ty
  refine .of (t:=E5) rfl ?_
  conv=>arg 3;reduce
  refine Az 5 1 ?_
  refine Az 5 2 ?_
  refine Az 5 3 ?_
  refine Az 5 4 ?_
  refine AH 5 5 ?_
  refine eq ln 2 (fun ct=>?_) fun ct=>?_
  ·refine eq o 22 (fun bR=>?_) fun bR=>?_
   ·refine Hl (o-22) 0 ?_
    refine IG (o-22) 2 ?_
    refine AH (o-22) 0 ?_
    refine bu q 3 ?_
    obtain ⟨_,⟨aP,rfl,cR,cP⟩,cv⟩:=DB @ih ln (q+3) (E.Aa [.node k1 J t1 L I B,.node H M C O N b2]) P rfl
    refine ch cv ?_
    exact Ag ⟨[aP],[],[],[]⟩ (⟨_,rfl,kn,kn⟩)
   refine eq o 23 (fun bY=>?_) fun bY=>?_
   ·refine Hl (o-22) 0 ?_
    refine IG (o-22) 2 ?_
    refine Az (o-22) 0 ?_
    refine AH (o-22) 1 ?_
    refine bu q 3 ?_
    obtain ⟨_,⟨aK,rfl,dd,dy⟩,bS⟩:=DB @ih ln (q+3) (E.Aa [.node k1 J t1 L I B,.node H M C O N b2]) P rfl
    refine ch bS ?_
    exact Ag ⟨[aK],[],[],[]⟩ (⟨_,rfl,kn,kn⟩)
   refine bu q 1 ?_
   refine B8 0 ln ?_
   refine el (j':=0) rfl ?_
   obtain ⟨_,⟨j,rfl,dF,cH⟩,bX⟩:=ih k1 J t1 L ((E.Aa B).length:Int) (q+1) I (E.Aa B) asm rfl kn
   refine ch bX ?_
   refine bu j 1 ?_
   refine lt (o-10) 0 (fun a2=>?_) fun a2=>?_
   ·refine bu (j+1) 1 ?_
    refine B8 1 ln ?_
    refine el (j':=1) rfl ?_
    obtain ⟨_,⟨aw,rfl,cI,cO⟩,bl⟩:=ih H M C O ((E.Aa b2).length:Int) ((j+1)+1) N (E.Aa b2) asm rfl kn
    refine ch bl ?_
    refine bu aw 1 ?_
    exact Ag ⟨[(aw+1)],[],[],[]⟩ (⟨_,rfl,kn,kn⟩)
   refine ge (o-10) 20 (fun cf=>?_) fun cf=>?_
   ·refine bu (j+1) 1 ?_
    refine B8 1 ln ?_
    refine el (j':=1) rfl ?_
    obtain ⟨_,⟨az,rfl,dZ,c8⟩,cg⟩:=ih H M C O ((E.Aa b2).length:Int) ((j+1)+1) N (E.Aa b2) asm rfl kn
    refine ch cg ?_
    refine bu az 1 ?_
    exact Ag ⟨[(az+1)],[],[],[]⟩ (⟨_,rfl,kn,kn⟩)
   refine eq (o-10) 0 (fun a3=>?_) fun a3=>?_
   ·refine bu (j+1) 1 ?_
    refine bu ((j+1)+1) 1 ?_
    refine B8 1 ln ?_
    refine el (j':=1) rfl ?_
    obtain ⟨_,⟨aj,rfl,d4,dh⟩,a5⟩:=ih H M C O ((E.Aa b2).length:Int) (((j+1)+1)+1) N (E.Aa b2) asm rfl kn
    refine ch a5 ?_
    refine bu aj 1 ?_
    exact Ag ⟨[(aj+1)],[],[],[]⟩ (⟨_,rfl,kn,kn⟩)
   refine eq (o-10) 1 (fun cj=>?_) fun cj=>?_
   ·refine bu (j+1) 1 ?_
    refine bu ((j+1)+1) 1 ?_
    refine B8 1 ln ?_
    refine el (j':=1) rfl ?_
    obtain ⟨_,⟨ad,rfl,cU,cB⟩,bI⟩:=ih H M C O ((E.Aa b2).length:Int) (((j+1)+1)+1) N (E.Aa b2) asm rfl kn
    refine ch bI ?_
    refine bu ad 1 ?_
    exact Ag ⟨[(ad+1)],[],[],[]⟩ (⟨_,rfl,kn,kn⟩)
   refine eq (o-10) 2 (fun cp=>?_) fun cp=>?_
   ·refine bu (j+1) 1 ?_
    refine bu ((j+1)+1) 1 ?_
    refine B8 1 ln ?_
    refine el (j':=1) rfl ?_
    obtain ⟨_,⟨X,rfl,dW,dx⟩,bG⟩:=ih H M C O ((E.Aa b2).length:Int) (((j+1)+1)+1) N (E.Aa b2) asm rfl kn
    refine ch bG ?_
    refine bu X 1 ?_
    exact Ag ⟨[(X+1)],[],[],[]⟩ (⟨_,rfl,kn,kn⟩)
   refine eq (o-10) 3 (fun bD=>?_) fun bD=>?_
   ·refine bu (j+1) 1 ?_
    refine bu ((j+1)+1) 1 ?_
    refine B8 1 ln ?_
    refine el (j':=1) rfl ?_
    obtain ⟨_,⟨au,rfl,di,c5⟩,bZ⟩:=ih H M C O ((E.Aa b2).length:Int) (((j+1)+1)+1) N (E.Aa b2) asm rfl kn
    refine ch bZ ?_
    refine bu au 1 ?_
    exact Ag ⟨[(au+1)],[],[],[]⟩ (⟨_,rfl,kn,kn⟩)
   refine eq (o-10) 4 (fun bj=>?_) fun bj=>?_
   ·refine bu (j+1) 1 ?_
    refine bu ((j+1)+1) 1 ?_
    refine B8 1 ln ?_
    refine el (j':=1) rfl ?_
    obtain ⟨_,⟨aa,rfl,dX,c9⟩,bW⟩:=ih H M C O ((E.Aa b2).length:Int) (((j+1)+1)+1) N (E.Aa b2) asm rfl kn
    refine ch bW ?_
    refine bu aa 1 ?_
    exact Ag ⟨[(aa+1)],[],[],[]⟩ (⟨_,rfl,kn,kn⟩)
   refine eq (o-10) 5 (fun bU=>?_) fun bU=>?_
   ·refine bu (j+1) 2 ?_
    refine bu ((j+1)+2) 1 ?_
    refine B8 1 ln ?_
    refine el (j':=1) rfl ?_
    obtain ⟨_,⟨ap,rfl,c7,dw⟩,bq⟩:=ih H M C O ((E.Aa b2).length:Int) (((j+1)+2)+1) N (E.Aa b2) asm rfl kn
    refine ch bq ?_
    refine bu ap 1 ?_
    exact Ag ⟨[(ap+1)],[],[],[]⟩ (⟨_,rfl,kn,kn⟩)
   refine eq (o-10) 6 (fun bH=>?_) fun bH=>?_
   ·refine bu (j+1) 2 ?_
    refine bu ((j+1)+2) 1 ?_
    refine B8 1 ln ?_
    refine el (j':=1) rfl ?_
    obtain ⟨_,⟨al,rfl,dN,d1⟩,b0⟩:=ih H M C O ((E.Aa b2).length:Int) (((j+1)+2)+1) N (E.Aa b2) asm rfl kn
    refine ch b0 ?_
    refine bu al 1 ?_
    exact Ag ⟨[(al+1)],[],[],[]⟩ (⟨_,rfl,kn,kn⟩)
   refine eq (o-10) 7 (fun be=>?_) fun be=>?_
   ·refine bu (j+1) 1 ?_
    refine bu ((j+1)+1) 1 ?_
    refine B8 1 ln ?_
    refine el (j':=1) rfl ?_
    obtain ⟨_,⟨an,rfl,d5,cE⟩,cu⟩:=ih H M C O ((E.Aa b2).length:Int) (((j+1)+1)+1) N (E.Aa b2) asm rfl kn
    refine ch cu ?_
    refine bu an 1 ?_
    exact Ag ⟨[(an+1)],[],[],[]⟩ (⟨_,rfl,kn,kn⟩)
   refine eq (o-10) 8 (fun a1=>?_) fun a1=>?_
   ·refine bu (j+1) 1 ?_
    refine bu ((j+1)+1) 1 ?_
    refine B8 1 ln ?_
    refine el (j':=1) rfl ?_
    obtain ⟨_,⟨ak,rfl,cS,dj⟩,bz⟩:=ih H M C O ((E.Aa b2).length:Int) (((j+1)+1)+1) N (E.Aa b2) asm rfl kn
    refine ch bz ?_
    refine bu ak 1 ?_
    exact Ag ⟨[(ak+1)],[],[],[]⟩ (⟨_,rfl,kn,kn⟩)
   refine eq (o-10) 9 (fun bw=>?_) fun bw=>?_
   ·refine bu (j+1) 1 ?_
    refine bu ((j+1)+1) 1 ?_
    refine B8 1 ln ?_
    refine el (j':=1) rfl ?_
    obtain ⟨_,⟨aq,rfl,cD,dD⟩,ci⟩:=ih H M C O ((E.Aa b2).length:Int) (((j+1)+1)+1) N (E.Aa b2) asm rfl kn
    refine ch ci ?_
    refine bu aq 1 ?_
    exact Ag ⟨[(aq+1)],[],[],[]⟩ (⟨_,rfl,kn,kn⟩)
   refine eq (o-10) 10 (fun bN=>?_) fun bN=>?_
   ·refine bu (j+1) 2 ?_
    refine bu ((j+1)+2) 1 ?_
    refine B8 1 ln ?_
    refine el (j':=1) rfl ?_
    obtain ⟨_,⟨ah,rfl,cZ,d6⟩,a4⟩:=ih H M C O ((E.Aa b2).length:Int) (((j+1)+2)+1) N (E.Aa b2) asm rfl kn
    refine ch a4 ?_
    refine bu ah 1 ?_
    exact Ag ⟨[(ah+1)],[],[],[]⟩ (⟨_,rfl,kn,kn⟩)
   refine eq (o-10) 11 (fun bo=>?_) fun bo=>?_
   ·refine bu (j+1) 2 ?_
    refine bu ((j+1)+2) 1 ?_
    refine B8 1 ln ?_
    refine el (j':=1) rfl ?_
    obtain ⟨_,⟨ax,rfl,cQ,c2⟩,bT⟩:=ih H M C O ((E.Aa b2).length:Int) (((j+1)+2)+1) N (E.Aa b2) asm rfl kn
    refine ch bT ?_
    refine bu ax 1 ?_
    exact Ag ⟨[(ax+1)],[],[],[]⟩ (⟨_,rfl,kn,kn⟩)
   refine eq (o-10) 12 (fun bg=>?_) fun bg=>?_
   ·refine bu (j+1) 1 ?_
    refine B8 1 ln ?_
    refine el (j':=1) rfl ?_
    obtain ⟨_,⟨ae,rfl,dt,dE⟩,b7⟩:=ih H M C O ((E.Aa b2).length:Int) ((j+1)+1) N (E.Aa b2) asm rfl kn
    refine ch b7 ?_
    refine bu ae 1 ?_
    exact Ag ⟨[(ae+1)],[],[],[]⟩ (⟨_,rfl,kn,kn⟩)
   refine eq (o-10) 13 (fun br=>?_) fun br=>?_
   ·refine bu (j+1) 1 ?_
    refine B8 1 ln ?_
    refine el (j':=1) rfl ?_
    obtain ⟨_,⟨ac,rfl,dl,dY⟩,bc⟩:=ih H M C O ((E.Aa b2).length:Int) ((j+1)+1) N (E.Aa b2) asm rfl kn
    refine ch bc ?_
    refine bu ac 1 ?_
    exact Ag ⟨[(ac+1)],[],[],[]⟩ (⟨_,rfl,kn,kn⟩)
   refine eq (o-10) 14 (fun cd=>?_) fun cd=>?_
   ·refine bu (j+1) 2 ?_
    refine bu ((j+1)+2) 1 ?_
    refine B8 1 ln ?_
    refine el (j':=1) rfl ?_
    obtain ⟨_,⟨ao,rfl,cA,cJ⟩,bF⟩:=ih H M C O ((E.Aa b2).length:Int) (((j+1)+2)+1) N (E.Aa b2) asm rfl kn
    refine ch bF ?_
    refine bu ao 1 ?_
    exact Ag ⟨[(ao+1)],[],[],[]⟩ (⟨_,rfl,kn,kn⟩)
   refine eq (o-10) 15 (fun bm=>?_) fun bm=>?_
   ·refine bu (j+1) 2 ?_
    refine bu ((j+1)+2) 1 ?_
    refine B8 1 ln ?_
    refine el (j':=1) rfl ?_
    obtain ⟨_,⟨af,rfl,db,cG⟩,bt⟩:=ih H M C O ((E.Aa b2).length:Int) (((j+1)+2)+1) N (E.Aa b2) asm rfl kn
    refine ch bt ?_
    refine bu af 1 ?_
    exact Ag ⟨[(af+1)],[],[],[]⟩ (⟨_,rfl,kn,kn⟩)
   refine eq (o-10) 16 (fun co=>?_) fun co=>?_
   ·refine bu (j+1) 1 ?_
    refine bu ((j+1)+1) 1 ?_
    refine B8 1 ln ?_
    refine el (j':=1) rfl ?_
    obtain ⟨_,⟨aA,rfl,d0,dG⟩,bn⟩:=ih H M C O ((E.Aa b2).length:Int) (((j+1)+1)+1) N (E.Aa b2) asm rfl kn
    refine ch bn ?_
    refine bu aA 1 ?_
    exact Ag ⟨[(aA+1)],[],[],[]⟩ (⟨_,rfl,kn,kn⟩)
   refine eq (o-10) 17 (fun cx=>?_) fun cx=>?_
   ·refine bu (j+1) 2 ?_
    refine bu ((j+1)+2) 1 ?_
    refine B8 1 ln ?_
    refine el (j':=1) rfl ?_
    obtain ⟨_,⟨Y,rfl,d3,cN⟩,bi⟩:=ih H M C O ((E.Aa b2).length:Int) (((j+1)+2)+1) N (E.Aa b2) asm rfl kn
    refine ch bi ?_
    refine bu Y 1 ?_
    exact Ag ⟨[(Y+1)],[],[],[]⟩ (⟨_,rfl,kn,kn⟩)
   refine eq (o-10) 18 (fun bh=>?_) fun bh=>?_
   ·refine bu (j+1) 1 ?_
    refine bu ((j+1)+1) 1 ?_
    refine B8 1 ln ?_
    refine el (j':=1) rfl ?_
    obtain ⟨_,⟨ay,rfl,c4,dv⟩,cq⟩:=ih H M C O ((E.Aa b2).length:Int) (((j+1)+1)+1) N (E.Aa b2) asm rfl kn
    refine ch cq ?_
    refine bu ay 1 ?_
    exact Ag ⟨[(ay+1)],[],[],[]⟩ (⟨_,rfl,kn,kn⟩)
   refine AH (o-10) 19 ?_
   refine bu (j+1) 2 ?_
   refine bu ((j+1)+2) 1 ?_
   refine B8 1 ln ?_
   refine el (j':=1) rfl ?_
   obtain ⟨_,⟨V,rfl,cL,dR⟩,a9⟩:=ih H M C O ((E.Aa b2).length:Int) (((j+1)+2)+1) N (E.Aa b2) asm rfl kn
   refine ch a9 ?_
   refine bu V 1 ?_
   exact Ag ⟨[(V+1)],[],[],[]⟩ (⟨_,rfl,kn,kn⟩)
  exact dead
 ·obtain ⟨rfl,rfl,rfl,rfl,rfl,k1,J,t1,L,I,B,H,M,C,O,N,b2,k3,o3,t3,v3,s3,b3,rfl,h1,h2,h3⟩:=hv;simp only [lC,lN]at Q;have U:=n3 (x:=.node k1 J t1 L I B) (y:=.node H M C O N b2) (z:=.node k3 o3 t3 v3 s3 b3);have e4:=g3 (x:=.node k1 J t1 L I B) (y:=.node H M C O N b2) (z:=.node k3 o3 t3 v3 s3 b3);have P:TL Δ [.node k1 J t1 L I B,.node H M C O N b2,.node k3 o3 t3 v3 s3 b3]:=R.args
  refine .of (t:=E5) rfl ?_
  conv=>arg 3;reduce
  refine Az 6 1 ?_
  refine Az 6 2 ?_
  refine Az 6 3 ?_
  refine Az 6 4 ?_
  refine Az 6 5 ?_
  refine AH 6 6 ?_
  refine eq ln 3 (fun cw=>?_) fun cw=>?_
  ·refine bu q 1 ?_
   refine B8 0 ln ?_
   refine el (j':=0) rfl ?_
   obtain ⟨_,⟨Z,rfl,dU,cX⟩,cr⟩:=ih k1 J t1 L ((E.Aa B).length:Int) (q+1) I (E.Aa B) asm rfl kn
   refine ch cr ?_
   refine bu Z 3 ?_
   refine B8 1 ln ?_
   refine el (j':=1) rfl ?_
   obtain ⟨_,⟨ab,rfl,du,eb⟩,bA⟩:=ih H M C O ((E.Aa b2).length:Int) (Z+3) N (E.Aa b2) asm rfl kn
   refine ch bA ?_
   refine bu ab 3 ?_
   refine B8 2 ln ?_
   refine el (j':=2) rfl ?_
   obtain ⟨_,⟨ag,rfl,cV,dJ⟩,b5⟩:=ih k3 o3 t3 v3 ((E.Aa b3).length:Int) (ab+3) s3 (E.Aa b3) asm rfl kn
   refine ch b5 ?_
   refine bu ag 1 ?_
   exact Ag ⟨[(ag+1)],[],[],[]⟩ (⟨_,rfl,kn,kn⟩)
  exact dead
 ·obtain ⟨rfl,rfl,rfl,rfl,hs,k1,J,t1,L,I,B,ii,rfl,r1,r2,hg,h1⟩:=hv;simp only [lC,lN]at Q;have U:=n1 (x:=.node k1 J t1 L I B);have e4:=g1 (x:=.node k1 J t1 L I B);have P:TL Δ [.node k1 J t1 L I B]:=R.args;have av:=Nm.len (s:=s) asm
  refine .of (t:=E5) rfl ?_
  conv=>arg 3;reduce
  refine Az 7 1 ?_
  refine Az 7 2 ?_
  refine Az 7 3 ?_
  refine Az 7 4 ?_
  refine Az 7 5 ?_
  refine Az 7 6 ?_
  refine AH 7 7 ?_
  refine sl s ?_
  refine bu q 64 ?_
  refine eq ln 1 (fun bL=>?_) fun bL=>?_
  ·refine B8 0 ln ?_
   refine el (j':=0) rfl ?_
   refine bu (q+64) 1 ?_
   obtain ⟨_,⟨ai,rfl,dz,d9⟩,bk⟩:=ih k1 J t1 L ((E.Aa B).length:Int) ((q+64)+1) I (E.Aa B) asm rfl kn
   refine ch bk ?_
   refine bu ai 1 ?_
   exact Ag ⟨[(ai+1)],[],[],[]⟩ (⟨_,rfl,kn,kn⟩)
  exact Ag ⟨[(q+64)],[],[],[]⟩ (⟨_,rfl,kn,kn⟩)
 ·obtain ⟨rfl,rfl,rfl,rfl,rfl,k1,J,t1,L,I,B,H,M,C,O,N,b2,ii,rfl,rfl,hg,h1,h2⟩:=hv;simp only [lC,lN]at Q;have U:=n2 (x:=.node k1 J t1 L I B) (y:=.node H M C O N b2);have e4:=g2 (x:=.node k1 J t1 L I B) (y:=.node H M C O N b2);have P:TL Δ [.node k1 J t1 L I B,.node H M C O N b2]:=R.args;have av:=Nm.len (s:=[104]) (by decide)
  refine .of (t:=E5) rfl ?_
  conv=>arg 3;reduce
  refine Az 8 1 ?_
  refine Az 8 2 ?_
  refine Az 8 3 ?_
  refine Az 8 4 ?_
  refine Az 8 5 ?_
  refine Az 8 6 ?_
  refine Az 8 7 ?_
  refine AH 8 8 ?_
  refine sl [104] ?_
  refine bu q 64 ?_
  obtain ⟨_,⟨aI,rfl,cM,cY⟩,b4⟩:=DB @ih ln (q+64) (E.Aa [.node k1 J t1 L I B,.node H M C O N b2]) P rfl
  refine ch b4 ?_
  exact Ag ⟨[aI],[],[],[]⟩ (⟨_,rfl,kn,kn⟩)
 ·obtain ⟨rfl,rfl,rfl,rfl,rfl,hs,⟨r1,r2⟩,hg⟩:=hv;simp only [lC,lN]at Q;have U:E.Ad []=0:=rfl;have P:TL Δ []:=R.args;have av:=Nm.len (s:=s) asm
  refine .of (t:=E5) rfl ?_
  conv=>arg 3;reduce
  refine Az 8 1 ?_
  refine Az 8 2 ?_
  refine Az 8 3 ?_
  refine Az 8 4 ?_
  refine Az 8 5 ?_
  refine Az 8 6 ?_
  refine Az 8 7 ?_
  refine AH 8 8 ?_
  refine sl s ?_
  refine bu q 64 ?_
  obtain ⟨_,⟨aL,rfl,cK,dM⟩,cb⟩:=DB @ih ln (q+64) (E.Aa []) P rfl
  refine ch cb ?_
  exact Ag ⟨[aL],[],[],[]⟩ (⟨_,rfl,kn,kn⟩)
 ·obtain ⟨rfl,rfl,rfl,rfl,hs,k1,J,t1,L,I,B,rfl,⟨r1,r2⟩,hg,h1⟩:=hv;simp only [lC,lN]at Q;have U:=n1 (x:=.node k1 J t1 L I B);have e4:=g1 (x:=.node k1 J t1 L I B);have P:TL Δ [.node k1 J t1 L I B]:=R.args;have av:=Nm.len (s:=s) asm
  refine .of (t:=E5) rfl ?_
  conv=>arg 3;reduce
  refine Az 8 1 ?_
  refine Az 8 2 ?_
  refine Az 8 3 ?_
  refine Az 8 4 ?_
  refine Az 8 5 ?_
  refine Az 8 6 ?_
  refine Az 8 7 ?_
  refine AH 8 8 ?_
  refine sl s ?_
  refine bu q 64 ?_
  obtain ⟨_,⟨aW,rfl,dk,cF⟩,bb⟩:=DB @ih ln (q+64) (E.Aa [.node k1 J t1 L I B]) P rfl
  refine ch bb ?_
  exact Ag ⟨[aW],[],[],[]⟩ (⟨_,rfl,kn,kn⟩)
theorem Bj:Ael 170:=fun {Δ} {t} {a} k o ty v ln sz s A hT hA h=>Aiq ((E.node k o ty v s a).high+1) k o ty v ln sz s A hT hA ⟨h.1,h.2.1,h.2.2,Nat.lt_succ_self _⟩
end
end Go.Proofs.YtbmofjdmgjpfoaaGreatDoor.Am
