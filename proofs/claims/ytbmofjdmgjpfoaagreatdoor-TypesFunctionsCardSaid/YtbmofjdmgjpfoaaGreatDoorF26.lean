/- Part 26 of TypesFunctions. -/
import Derived.Test.YtbmofjdmgjpfoaaGreatDoorF17
import Derived.Test.YtbmofjdmgjpfoaaGreatDoorF25
set_option linter.all false
namespace Go.Proofs.YtbmofjdmgjpfoaaGreatDoor.Am
section
set_option maxHeartbeats 4000000
set_option maxRecDepth 100000
open Go.AM Go.AM.K
def K_5 (N:Nat):Prop:=∀{q:Int} {B:Rs} (hB:Dl B) (hl:q=B.length) (pos count:Int) (left call loads:Int) (h:0<=pos/\pos<=1000000:=by exact kn),Ok trees N ⟨[q,pos,count,left,call,loads],[],[B],[]⟩ fun v=>(∃(r j:Int),v=(0,(⟨[r,j],[],[],[]⟩:Aj))/\(j=pos+1)/\(0<=r)/\(r<=255))
theorem c_5:K_5 5:=by
 intro q B hB hl pos count left call x h
 refine .of (t:=t_5) rfl ?_
 conv=>arg 3;reduce
 refine gt (pos+1) q (fun t1=>?_) fun t1=>?_
 ·exact Ag ⟨[0,(pos+1)],[],[],[]⟩ (⟨_,_,rfl,kn,kn,kn⟩)
 refine CO ((pos+1)-1) 0 ?_
 refine B8 ((pos+1)-1) q ?_
 obtain ⟨v,j,A,z⟩:=Pt hB ((pos+1)-1) om om
 refine el j ?_
 exact Ag ⟨[v,(pos+1)],[],[],[]⟩ (⟨_,_,rfl,kn,kn,kn⟩)
def Apn (N n:Nat):Prop:=∀{Γ:Ctx} {K M:Int} {J:Ctx} {z:Int} (it bl:Int) (pos I:Int) (count left:Int) (call v:Int) (U X:Int) (Z z4:Int) (Y pl:Int) (p2 C:Int) (p4 p5:Int) (p6 p8:Int) (B P:Rs) (V R:Rs) (hM:MS false Γ 2 K M bl pos I count left call v B V) (hL:AK 0 1 2 J Γ z left R) (h:it<=10/\C=R.length/\C+it<=20/\0<=C/\it.toNat<n),Ok trees N ⟨[it,bl,pos,I,count,left,call,v,U,X,Z,z4,Y,pl,p2,C,p4,p5,p6,p8],[],[B,P,V,R],[]⟩ fun L=>(L=(0,v0))∨(∃(j left' q:Int),∃(A:Rs),L=(1,(⟨[j,left',q],[],[A],[]⟩:Aj))/\(MS false Γ 2 K M bl j I count left' call v B V)/\(AK 0 1 2 J Γ z left' A)/\(q=A.length)/\(q<=20)/\(left'<=left)/\(j+300*left'<=pos+300*left)/\(C<=q))∨(∃(Q:Ctx),∃(j H x left' q:Int),∃(O A:Rs),L=(2,(⟨[j,H,x,left',q],[],[O,A],[]⟩:Aj))/\(MS false Q 2 K M bl j H x left' call v B O)/\(AK 0 1 2 J Q z left' A)/\(Ext I V O)/\(count<=x)/\(I<=H)/\(q=A.length)/\(q<=20)/\(left'<=left)/\(j+300*left'<=pos+300*left)/\(C<=q))
def AoJ (N:Nat):Prop:=∀{Γ:Ctx} {K M:Int} {J:Ctx} {z:Int} (it bl:Int) (pos I:Int) (count left:Int) (call v:Int) (U X:Int) (Z z4:Int) (Y pl:Int) (p2 C:Int) (p4 p5:Int) (p6 p8:Int) (B P:Rs) (V R:Rs) (hM:MS false Γ 2 K M bl pos I count left call v B V) (hL:AK 0 1 2 J Γ z left R) (h:it<=10/\C=R.length/\C+it<=20/\0<=C:=by exact kn),Ok trees N ⟨[it,bl,pos,I,count,left,call,v,U,X,Z,z4,Y,pl,p2,C,p4,p5,p6,p8],[],[B,P,V,R],[]⟩ fun L=>(L=(0,v0))∨(∃(j left' q:Int),∃(A:Rs),L=(1,(⟨[j,left',q],[],[A],[]⟩:Aj))/\(MS false Γ 2 K M bl j I count left' call v B V)/\(AK 0 1 2 J Γ z left' A)/\(q=A.length)/\(q<=20)/\(left'<=left)/\(j+300*left'<=pos+300*left)/\(C<=q))∨(∃(Q:Ctx),∃(j H x left' q:Int),∃(O A:Rs),L=(2,(⟨[j,H,x,left',q],[],[O,A],[]⟩:Aj))/\(MS false Q 2 K M bl j H x left' call v B O)/\(AK 0 1 2 J Q z left' A)/\(Ext I V O)/\(count<=x)/\(I<=H)/\(q=A.length)/\(q<=20)/\(left'<=left)/\(j+300*left'<=pos+300*left)/\(C<=q))
theorem Anw (n:Nat):Apn 77 n:=by
 induction n with
 |zero=>intro Γ K M Γ0 aC it bl pos vl count left call q z1 z2 z3 z4 z5 pl p2 rl p4 p5 p6 p8 B P V R hM z h;exact absurd h.2.2.2.2 (Nat.not_lt_zero _)
 |succ n ih=>
 intro Γ K M Γ0 aC it bl pos vl count left call q z1 z2 z3 z4 z5 pl p2 rl p4 p5 p6 p8 B P V R hM z h
 have ⟨hm,dC,dl,dv,dt,dE,dD,dw,du,dy,dF⟩:=hM;have ⟨hB,hl,hvl,GN,hV,hb,hc,hd⟩:=hm;have dx:G 3=40:=rfl;have dz:G 2=12:=rfl
 refine .of (t:=AeL) rfl ?_
 conv=>arg 3;reduce
 refine gt it 0 (fun t1=>?_) fun t1=>?_
 ·refine gt left 0 (fun t2=>?_) fun t2=>?_
  ·obtain ⟨_,(⟨br,a8,a5,aJ,aW,ay,aH,aR,aD,aB,aM,aZ,aI,aL,aQ,J,x,bg,aP,aY,ax,ai,aq,ag,rfl,A,bR,b8,c2,c4,cN,b2,ci⟩|⟨an,bB,bD,bA,aU,aX,a4,aV,aA,a1,a0,aO,I,H,j,v,bC,aE,ap,au,al,ak,N,rfl,C,ce,cX,cf,cj,cq,bH,b0,bZ,cS,bG⟩),G3⟩:=Rz 2 1 0 0 1 bl pos vl count left call q B V (MS.mv hM)
   ·refine ch G3 ?_
    have ⟨_,_,b9,b7,c6,cT,cB,cu,_,_,_⟩:=A
    refine ll aR ax ?_
    refine ll aI ai ?_
    refine ll aL aq ?_
    refine ll aQ ag ?_
    refine dL (R++[AT br a8 0 a5 bg aJ aW ay aP aH ax aD aB aM aY aZ ai aq ag]) (fun W4 e4=>?_) (Bq (pw rl R) pe)
    have f4:=cL e4;try simp only [lA,lC,lN,lT']at f4
    refine Er (W4.length:Int) 1048576 ?_
    obtain ⟨_,(rfl|⟨af,aa,aF,bb,rfl,U,cx,cv,cE,ct,bY,bQ⟩|⟨ba,ah,a3,O,Z,aK,bj,a7,rfl,Y,cg,c9,bX,cZ,cW,c8,bU,cI,c5⟩),G5⟩:=ih (it-1) bl J vl count x call q z1 z2 z3 z4 z5 pl p2 (W4.length:Int) p4 p5 p6 p8 B P V W4 (MS.mv A) (by subst_vars;exact AK.snoc z asm) kn
    ·refine ch G5 ?_
     exact Ag ⟨[J,x,(W4.length:Int)],[],[W4],[]⟩ (.inr (.inl (⟨_,_,_,_,rfl,(MS.mv A),(by first|assumption|(subst_vars;exact AK.snoc z asm)),kn,kn,kn,kn,kn⟩)))
    ·refine cm G5 ?_
     refine ch G5 ?_
     have ⟨_,_,b4,cy,c3,cD,cC,b5,_,_,_⟩:=U
     exact Ag ⟨[af,aa,aF],[],[bb],[]⟩ (.inr (.inl (⟨_,_,_,_,rfl,(MS.mv U),(by first|assumption|(subst_vars;exact AK.snoc z asm)),kn,kn,kn,kn,kn⟩)))
    refine cm G5 ?_
    refine cm G5 ?_
    refine ch G5 ?_
    have ⟨_,_,c7,bP,cU,cK,cc,bM,_,_,_⟩:=Y
    exact Ag ⟨[ah,a3,O,Z,aK],[],[bj,a7],[]⟩ (.inr (.inr ((⟨ba,_,_,_,_,_,_,_,rfl,(MS.mv Y),(by first|assumption|(subst_vars;exact AK.snoc z asm)),A5,kn,kn,kn,kn,kn,kn,kn⟩))))
   refine cm G3 ?_
   refine ch G3 ?_
   have ⟨_,_,bT,cr,bI,bS,bN,cY,_,_,_⟩:=C
   refine ll aA ap ?_
   refine ll a1 au ?_
   refine ll a0 al ?_
   refine ll aO ak ?_
   refine dL (R++[AT bB 0 bD bA bC aU aX a4 aE aV ap 0 0 0 [] 0 au al ak]) (fun W6 e6=>?_) (Bq (pw rl R) pe)
   have f6:=cL e6;try simp only [lA,lC,lN,lT']at f6
   refine Er (W6.length:Int) 1048576 ?_
   obtain ⟨_,(rfl|⟨av,ae,az,bm,rfl,X,bJ,c1,cM,cF,cR,bL⟩|⟨bk,ao,a2,L,ab,aN,bt,bx,rfl,Q,cJ,cO,bV,cA,cw,bK,cb,cG,b1⟩),G7⟩:=ih (it-1) bl I H j v call q z1 z2 z3 z4 z5 pl p2 (W6.length:Int) p4 p5 p6 p8 B P N W6 (MS.mv C) (by subst_vars;exact AK.snoc z asm) kn
   ·refine ch G7 ?_
    exact Ag ⟨[I,H,j,v,(W6.length:Int)],[],[N,W6],[]⟩ (.inr (.inr ((⟨an,_,_,_,_,_,_,_,rfl,(MS.mv C),(by first|assumption|(subst_vars;exact AK.snoc z asm)),A5,kn,kn,kn,kn,kn,kn,kn⟩))))
   ·refine cm G7 ?_
    refine ch G7 ?_
    have ⟨_,_,b3,bW,co,cV,cH,cp,_,_,_⟩:=X
    exact Ag ⟨[av,H,j,ae,az],[],[N,bm],[]⟩ (.inr (.inr ((⟨an,_,_,_,_,_,_,_,rfl,(MS.mv X),(by first|assumption|(subst_vars;exact AK.snoc z asm)),A5,kn,kn,kn,kn,kn,kn,kn⟩))))
   refine cm G7 ?_
   refine cm G7 ?_
   refine ch G7 ?_
   have ⟨_,_,bO,cP,cz,cd,b6,cQ,_,_,_⟩:=Q
   exact Ag ⟨[ao,a2,L,ab,aN],[],[bt,bx],[]⟩ (.inr (.inr ((⟨bk,_,_,_,_,_,_,_,rfl,(MS.mv Q),(by first|assumption|(subst_vars;exact AK.snoc z asm)),A5,kn,kn,kn,kn,kn,kn,kn⟩))))
  exact Ag v0 (.inl rfl)
 exact Ag v0 (.inl rfl)
theorem Ak5:AoJ 77:=fun {Γ} {K} {M} {Γ0} {left0} it bl pos vl count left call loads z1 z2 z3 z4 z5 pl p2 rl p4 p5 p6 p8 B P V R hM hL h=>Anw (it.toNat+1) it bl pos vl count left call loads z1 z2 z3 z4 z5 pl p2 rl p4 p5 p6 p8 B P V R hM hL ⟨h.1,h.2.1,h.2.2.1,h.2.2.2,Nat.lt_succ_self _⟩
def Apw (N n:Nat):Prop:=∀{Γ:Ctx} {K M:Int} {J:Ctx} {z:Int} (it bl:Int) (pos I:Int) (count left:Int) (call v:Int) (U X:Int) (Z z4:Int) (Y pl:Int) (p2 C:Int) (p4 p5:Int) (p6 p8:Int) (B V:Rs) (P R:Rs) (hM:MS true Γ 2 K M bl pos I count left call v B V) (hL:AK 0 1 2 J Γ z left R) (h:it<=10/\C=R.length/\C+it<=20/\0<=C/\it.toNat<n),Ok trees N ⟨[it,bl,pos,I,count,left,call,v,U,X,Z,z4,Y,pl,p2,C,p4,p5,p6,p8],[],[B,V,P,R],[]⟩ fun L=>(L=(0,v0))∨(∃(j left' q:Int),∃(A:Rs),L=(1,(⟨[j,left',q],[],[A],[]⟩:Aj))/\(MS true Γ 2 K M bl j I count left' call v B V)/\(AK 0 1 2 J Γ z left' A)/\(q=A.length)/\(q<=20)/\(left'<=left)/\(j+300*left'<=pos+300*left)/\(C<=q))∨(∃(Q:Ctx),∃(j H x left' q:Int),∃(O A:Rs),L=(2,(⟨[j,H,x,left',q],[],[O,A],[]⟩:Aj))/\(MS false Q 2 K M bl j H x left' call v B O)/\(AK 0 1 2 J Q z left' A)/\(Ext I V O)/\(count<=x)/\(I<=H)/\(q=A.length)/\(q<=20)/\(left'<=left)/\(j+300*left'<=pos+300*left)/\(C<=q))
def Apb (N:Nat):Prop:=∀{Γ:Ctx} {K M:Int} {J:Ctx} {z:Int} (it bl:Int) (pos I:Int) (count left:Int) (call v:Int) (U X:Int) (Z z4:Int) (Y pl:Int) (p2 C:Int) (p4 p5:Int) (p6 p8:Int) (B V:Rs) (P R:Rs) (hM:MS true Γ 2 K M bl pos I count left call v B V) (hL:AK 0 1 2 J Γ z left R) (h:it<=10/\C=R.length/\C+it<=20/\0<=C:=by exact kn),Ok trees N ⟨[it,bl,pos,I,count,left,call,v,U,X,Z,z4,Y,pl,p2,C,p4,p5,p6,p8],[],[B,V,P,R],[]⟩ fun L=>(L=(0,v0))∨(∃(j left' q:Int),∃(A:Rs),L=(1,(⟨[j,left',q],[],[A],[]⟩:Aj))/\(MS true Γ 2 K M bl j I count left' call v B V)/\(AK 0 1 2 J Γ z left' A)/\(q=A.length)/\(q<=20)/\(left'<=left)/\(j+300*left'<=pos+300*left)/\(C<=q))∨(∃(Q:Ctx),∃(j H x left' q:Int),∃(O A:Rs),L=(2,(⟨[j,H,x,left',q],[],[O,A],[]⟩:Aj))/\(MS false Q 2 K M bl j H x left' call v B O)/\(AK 0 1 2 J Q z left' A)/\(Ext I V O)/\(count<=x)/\(I<=H)/\(q=A.length)/\(q<=20)/\(left'<=left)/\(j+300*left'<=pos+300*left)/\(C<=q))
theorem AcQ (n:Nat):Apw 43 n:=by
 induction n with
 |zero=>intro Γ K M Γ0 aC it bl pos vl count left call q z1 z2 z3 z4 z5 pl p2 rl p4 p5 p6 p8 B V P R hM z h;exact absurd h.2.2.2.2 (Nat.not_lt_zero _)
 |succ n ih=>
 intro Γ K M Γ0 aC it bl pos vl count left call q z1 z2 z3 z4 z5 pl p2 rl p4 p5 p6 p8 B V P R hM z h
 have ⟨hm,dC,dl,dv,dt,dE,dD,dw,du,dy,dF⟩:=hM;have ⟨hB,hl,hvl,GN,hV,hb,hc,hd⟩:=hm;have dx:G 3=40:=rfl;have dz:G 2=12:=rfl
 refine .of (t:=Afe) rfl ?_
 conv=>arg 3;reduce
 refine gt it 0 (fun t1=>?_) fun t1=>?_
 ·refine gt left 0 (fun t2=>?_) fun t2=>?_
  ·obtain ⟨_,(⟨br,a8,a5,aJ,aW,ay,aH,aR,aD,aB,aM,aZ,aI,aL,aQ,J,x,bg,aP,aY,ax,ai,aq,ag,rfl,A,bR,b8,c2,c4,cN,b2,ci⟩|⟨an,bB,bD,bA,aU,aX,a4,aV,aA,a1,a0,aO,I,H,j,v,bC,aE,ap,au,al,ak,N,rfl,C,ce,cX,cf,cj,cq,bH,b0,bZ,cS,bG⟩),G3⟩:=Alg 2 1 0 0 1 bl pos vl count left call q B V (MS.mv hM)
   ·refine ch G3 ?_
    have ⟨_,_,b9,b7,c6,cT,cB,cu,_,_,_⟩:=A
    refine ll aR ax ?_
    refine ll aI ai ?_
    refine ll aL aq ?_
    refine ll aQ ag ?_
    refine dL (R++[AT br a8 0 a5 bg aJ aW ay aP aH ax aD aB aM aY aZ ai aq ag]) (fun W4 e4=>?_) (Bq (pw rl R) pe)
    have f4:=cL e4;try simp only [lA,lC,lN,lT']at f4
    refine Er (W4.length:Int) 1048576 ?_
    obtain ⟨_,(rfl|⟨af,aa,aF,bb,rfl,U,cx,cv,cE,ct,bY,bQ⟩|⟨ba,ah,a3,O,Z,aK,bj,a7,rfl,Y,cg,c9,bX,cZ,cW,c8,bU,cI,c5⟩),G5⟩:=ih (it-1) bl J vl count x call q z1 z2 z3 z4 z5 pl p2 (W4.length:Int) p4 p5 p6 p8 B V P W4 (MS.mv A) (by subst_vars;exact AK.snoc z asm) kn
    ·refine ch G5 ?_
     exact Ag ⟨[J,x,(W4.length:Int)],[],[W4],[]⟩ (.inr (.inl (⟨_,_,_,_,rfl,(MS.mv A),(by first|assumption|(subst_vars;exact AK.snoc z asm)),kn,kn,kn,kn,kn⟩)))
    ·refine cm G5 ?_
     refine ch G5 ?_
     have ⟨_,_,b4,cy,c3,cD,cC,b5,_,_,_⟩:=U
     exact Ag ⟨[af,aa,aF],[],[bb],[]⟩ (.inr (.inl (⟨_,_,_,_,rfl,(MS.mv U),(by first|assumption|(subst_vars;exact AK.snoc z asm)),kn,kn,kn,kn,kn⟩)))
    refine cm G5 ?_
    refine cm G5 ?_
    refine ch G5 ?_
    have ⟨_,_,c7,bP,cU,cK,cc,bM,_,_,_⟩:=Y
    exact Ag ⟨[ah,a3,O,Z,aK],[],[bj,a7],[]⟩ (.inr (.inr ((⟨ba,_,_,_,_,_,_,_,rfl,(MS.mv Y),(by first|assumption|(subst_vars;exact AK.snoc z asm)),A5,kn,kn,kn,kn,kn,kn,kn⟩))))
   refine cm G3 ?_
   refine ch G3 ?_
   have ⟨_,_,bT,cr,bI,bS,bN,cY,_,_,_⟩:=C
   refine ll aA ap ?_
   refine ll a1 au ?_
   refine ll a0 al ?_
   refine ll aO ak ?_
   refine dL (R++[AT bB 0 bD bA bC aU aX a4 aE aV ap 0 0 0 [] 0 au al ak]) (fun W6 e6=>?_) (Bq (pw rl R) pe)
   have f6:=cL e6;try simp only [lA,lC,lN,lT']at f6
   refine Er (W6.length:Int) 1048576 ?_
   obtain ⟨_,(rfl|⟨av,ae,az,bm,rfl,X,bJ,c1,cM,cF,cR,bL⟩|⟨bk,ao,a2,L,ab,aN,bt,bx,rfl,Q,cJ,cO,bV,cA,cw,bK,cb,cG,b1⟩),G7⟩:=Ak5 (it-1) bl I H j v call q z1 z2 z3 z4 z5 pl p2 (W6.length:Int) p4 p5 p6 p8 B P N W6 (MS.mv C) (by subst_vars;exact AK.snoc z asm)
   ·refine ch G7 ?_
    exact Ag ⟨[I,H,j,v,(W6.length:Int)],[],[N,W6],[]⟩ (.inr (.inr ((⟨an,_,_,_,_,_,_,_,rfl,(MS.mv C),(by first|assumption|(subst_vars;exact AK.snoc z asm)),A5,kn,kn,kn,kn,kn,kn,kn⟩))))
   ·refine cm G7 ?_
    refine ch G7 ?_
    have ⟨_,_,b3,bW,co,cV,cH,cp,_,_,_⟩:=X
    exact Ag ⟨[av,H,j,ae,az],[],[N,bm],[]⟩ (.inr (.inr ((⟨an,_,_,_,_,_,_,_,rfl,(MS.mv X),(by first|assumption|(subst_vars;exact AK.snoc z asm)),A5,kn,kn,kn,kn,kn,kn,kn⟩))))
   refine cm G7 ?_
   refine cm G7 ?_
   refine ch G7 ?_
   have ⟨_,_,bO,cP,cz,cd,b6,cQ,_,_,_⟩:=Q
   exact Ag ⟨[ao,a2,L,ab,aN],[],[bt,bx],[]⟩ (.inr (.inr ((⟨bk,_,_,_,_,_,_,_,rfl,(MS.mv Q),(by first|assumption|(subst_vars;exact AK.snoc z asm)),A5,kn,kn,kn,kn,kn,kn,kn⟩))))
  exact Ag v0 (.inl rfl)
 exact Ag v0 (.inl rfl)
theorem Aom:Apb 43:=fun {Γ} {K} {M} {Γ0} {left0} it bl pos vl count left call loads z1 z2 z3 z4 z5 pl p2 rl p4 p5 p6 p8 B V P R hM hL h=>AcQ (it.toNat+1) it bl pos vl count left call loads z1 z2 z3 z4 z5 pl p2 rl p4 p5 p6 p8 B V P R hM hL ⟨h.1,h.2.1,h.2.2.1,h.2.2.2,Nat.lt_succ_self _⟩
def Apf (N:Nat):Prop:=∀{Γ:Ctx} {K M:Int} (it bl:Int) (pos A:Int) (count left:Int) (call v:Int) (R Y:Int) (L z4:Int) (Z pl:Int) (p2 Q:Int) (X U O:Int) (B V P:Rs) (hM:MS true Γ 2 K M bl pos A count left call v B V) (h:it<=10:=by exact kn),Ok trees N ⟨[it,bl,pos,A,count,left,call,v,R,Y,L,z4,Z,pl,p2,Q,X,U,O],[],[B,V,P],[]⟩ fun H=>(H=(0,v0)/\(it<=0∨left<=0))∨(∃(j left' q:Int),∃(z:Rs),H=(1,(⟨[j,left',q],[],[z],[]⟩:Aj))/\(MS true Γ 2 K M bl j A count left' call v B V)/\(AK 0 1 2 Γ Γ left left' z)/\(q=z.length)/\(q<=20)/\(left'<=left)/\(j+300*left'<=pos+300*left)/\(1<=q))∨(∃(J:Ctx),∃(j C x left' q:Int),∃(I z:Rs),H=(2,(⟨[j,C,x,left',q],[],[I,z],[]⟩:Aj))/\(MS false J 2 K M bl j C x left' call v B I)/\(AK 0 1 2 Γ J left left' z)/\(Ext A V I)/\(count<=x)/\(A<=C)/\(q=z.length)/\(q<=20)/\(left'<=left)/\(j+300*left'<=pos+300*left)/\(1<=q))
theorem Ao4:Apf 11:=by
 intro Γ K M it bl pos vl count left call z z1 z2 z3 z4 z5 pl p2 p4 p5 p6 p8 B V P hM h
 have ⟨hm,dv,dd,dj,dh,dx,dw,dk,di,dt,dy⟩:=hM;have ⟨hB,hl,hvl,GN,hV,hb,hc,hd⟩:=hm;have dl:G 3=40:=rfl;have du:G 2=12:=rfl
 refine .of (t:=Afm) rfl ?_
 conv=>arg 3;reduce
 refine gt it 0 (fun t1=>?_) fun t1=>?_
 ·refine gt left 0 (fun t2=>?_) fun t2=>?_
  ·obtain ⟨_,(⟨bb,a3,aZ,aD,aO,au,aB,aL,ay,ax,aG,aR,aC,aF,aK,I,v,a7,aJ,aQ,aq,ag,an,ae,rfl,x,bN,b4,cX,cZ,cI,bY,cd⟩|⟨aj,bh,bj,bg,aM,aP,aY,aN,aw,aV,aU,aI,H,C,j,q,bi,az,al,ao,ai,ah,L,rfl,A,b9,cT,cb,ce,ci,bD,bW,bV,cO,bx⟩),G3⟩:=Alg 2 1 0 0 1 bl pos vl count left call z B V (MS.mv hM)
   ·refine ch G3 ?_
    have ⟨_,_,b5,b3,c2,cP,cx,cp,_,_,_⟩:=x
    refine ll aL aq ?_
    refine ll aC ag ?_
    refine ll aF an ?_
    refine ll aK ae ?_
    refine dL [AT bb a3 0 aZ a7 aD aO au aJ aB aq ay ax aG aQ aR ag an ae] (fun W4 e4=>?_)
    have f4:=cL e4;try simp only [lA,lC,lN,lT']at f4
    refine ll 1 W4 ?_
    obtain ⟨_,(rfl|⟨ad,Y,aA,a6,rfl,Q,ct,cq,cA,co,bU,bM⟩|⟨a4,af,aX,N,X,aE,a8,a1,rfl,U,cc,c5,bT,cV,cS,c4,bQ,cE,c1⟩),G5⟩:=Aom (it-1) bl I vl count v call z z1 z2 z3 z4 z5 pl p2 1 p4 p5 p6 p8 B V P W4 (MS.mv x) (by subst_vars;exact AK.one asm om)
    ·refine ch G5 ?_
     exact Ag ⟨[I,v,1],[],[W4],[]⟩ (.inr (.inl (⟨_,_,_,_,rfl,(MS.mv x),(by first|assumption|(subst_vars;exact AK.one asm om)),kn,kn,kn,kn,kn⟩)))
    ·refine cm G5 ?_
     refine ch G5 ?_
     have ⟨_,_,b0,cu,cY,cz,cy,b1,_,_,_⟩:=Q
     exact Ag ⟨[ad,Y,aA],[],[a6],[]⟩ (.inr (.inl (⟨_,_,_,_,rfl,(MS.mv Q),(by first|assumption|(subst_vars;exact AK.one asm om)),kn,kn,kn,kn,kn⟩)))
    refine cm G5 ?_
    refine cm G5 ?_
    refine ch G5 ?_
    have ⟨_,_,c3,bL,cQ,cG,b7,bI,_,_,_⟩:=U
    exact Ag ⟨[af,aX,N,X,aE],[],[a8,a1],[]⟩ (.inr (.inr ((⟨a4,_,_,_,_,_,_,_,rfl,(MS.mv U),(by first|assumption|(subst_vars;exact AK.one asm om)),A5,kn,kn,kn,kn,kn,kn,kn⟩))))
   refine cm G3 ?_
   refine ch G3 ?_
   have ⟨_,_,bP,cj,bE,bO,bJ,cU,_,_,_⟩:=A
   refine ll aw al ?_
   refine ll aV ao ?_
   refine ll aU ai ?_
   refine ll aI ah ?_
   refine dL [AT bh 0 bj bg bi aM aP aY az aN al 0 0 0 [] 0 ao ai ah] (fun W6 e6=>?_)
   have f6:=cL e6;try simp only [lA,lC,lN,lT']at f6
   refine ll 1 W6 ?_
   obtain ⟨_,(rfl|⟨ap,ac,av,ba,rfl,R,bF,cW,cH,cB,cN,bH⟩|⟨a9,ak,aW,J,Z,aH,bc,be,rfl,O,cF,cJ,bR,cw,cr,bG,b6,cC,bX⟩),G7⟩:=Ak5 (it-1) bl H C j q call z z1 z2 z3 z4 z5 pl p2 1 p4 p5 p6 p8 B P L W6 (MS.mv A) (by subst_vars;exact AK.one asm om)
   ·refine ch G7 ?_
    exact Ag ⟨[H,C,j,q,1],[],[L,W6],[]⟩ (.inr (.inr ((⟨aj,_,_,_,_,_,_,_,rfl,(MS.mv A),(by first|assumption|(subst_vars;exact AK.one asm om)),A5,kn,kn,kn,kn,kn,kn,kn⟩))))
   ·refine cm G7 ?_
    refine ch G7 ?_
    have ⟨_,_,bZ,bS,cf,cR,cD,cg,_,_,_⟩:=R
    exact Ag ⟨[ap,C,j,ac,av],[],[L,ba],[]⟩ (.inr (.inr ((⟨aj,_,_,_,_,_,_,_,rfl,(MS.mv R),(by first|assumption|(subst_vars;exact AK.one asm om)),A5,kn,kn,kn,kn,kn,kn,kn⟩))))
   refine cm G7 ?_
   refine cm G7 ?_
   refine ch G7 ?_
   have ⟨_,_,bK,cK,cv,b8,b2,cM,_,_,_⟩:=O
   exact Ag ⟨[ak,aW,J,Z,aH],[],[bc,be],[]⟩ (.inr (.inr ((⟨a9,_,_,_,_,_,_,_,rfl,(MS.mv O),(by first|assumption|(subst_vars;exact AK.one asm om)),A5,kn,kn,kn,kn,kn,kn,kn⟩))))
  exact Ag v0 (.inl (⟨rfl,kn⟩))
 exact Ag v0 (.inl (⟨rfl,kn⟩))
def K_7 (N:Nat):Prop:=∀{Q:Int} {B:Rs} (hB:Dl B) (hl:Q=B.length) (pos count:Int) (left call loads:Int) (h:0<=pos/\pos<=100/\count=0/\call=0/\loads=0:=by exact kn),Ok trees N ⟨[Q,pos,count,left,call,loads],[],[B],[]⟩ fun P=>(∃(pl H I J M w' v j L left':Int),∃(C:List Nat),∃(x A z O:Rs),P=(0,(⟨[pl,H,I,J,M,w',v,j,L,left'],[C],[x,A,z,O],[]⟩:Aj))/\(JP A I J M w' C z)/\(x=DO)/\(v=z.length)/\(H=A.length)/\(pl=x.length)/\(0<=j)/\(j<=1500))∨(∃(pl H I J M w' v j L q left':Int),∃(C:List Nat),∃(x A z O:Rs),P=(1,(⟨[pl,H,I,J,M,w',v,j,L,q,left'],[C],[x,A,z,O],[]⟩:Aj))/\(JP A I J M w' C z)/\(x=DO)/\(v=z.length)/\(H=A.length)/\(pl=x.length)/\(0<=j)/\(j<=1500)/\(0<=q)/\(q<=4))
theorem c_7:K_7 7:=by
 intro bl B hB hl pos count left call aM h
 obtain ⟨h0,h1,rfl,rfl,rfl⟩:=h;have hM:=MS.AgX hB hl ⟨h0,h1⟩;have bv:G 3=40:=rfl
 refine .of (t:=t_7) rfl ?_
 conv=>arg 3;reduce
 refine de [[PV.str [120],.int .i64 1],[.str [121],.int .i64 1]] ?_
 refine ll 2 [[PV.str [120],.int .i64 1],[.str [121],.int .i64 1]] ?_
 refine fr ?_
 obtain ⟨_,⟨ak,z,rfl,ba,bq,bo⟩,G1⟩:=XS hB hl pos 2 0 4 0 0 [[PV.str [120],.int .i64 1],[.str [121],.int .i64 1]]
 refine ch G1 ?_
 obtain ⟨_,(⟨rfl,aQ⟩|⟨N,v,H,M,rfl,x,aZ,aP,aL,ay,aN,aH⟩|⟨bg,L,O,j,q,A,U,J,rfl,C,aX,aC,aV,aI,aY,aR,aE,a1,a0⟩),I⟩:=Ao4 (ak%4) bl z 2 0 4 0 0 0 0 0 0 0 2 1 0 0 0 0 B [[PV.str [120],.int .i64 1],[.str [121],.int .i64 1]] [[PV.str [120],.int .i64 1],[.str [121],.int .i64 1]] (MS.mv hM)
 ·refine ch I ?_
  obtain ⟨_,⟨aw,al,au,ap,X,P,ao,ae,rfl,a5,bm,be,bt⟩,G3⟩:=Vq (hM.Fc 0 4) 1 3 z
  refine ch G3 ?_
  refine de [] ?_
  refine ll 0 [] ?_
  exact Ag ⟨[2,0,aw,al,au,ap,X,P,2,4],[ao],[[[PV.str [120],.int .i64 1],[.str [121],.int .i64 1]],[],ae,[[PV.str [120],.int .i64 1],[.str [121],.int .i64 1]]],[]⟩ (.inl (⟨_,_,_,_,_,_,_,_,_,_,_,_,_,_,_,rfl,(by first|exact JP.mk asm asm asm|exact JP.nil asm),rfl,kn,kn,kn,kn,kn⟩))
 ·refine cm I ?_
  refine ch I ?_
  have ⟨_,_,aG,aK,aO,aA,aJ,aF,_,_,_⟩:=x
  obtain ⟨_,⟨ah,ab,ai,av,Y,Q,aj,ac,rfl,a2,bc,a6,bi⟩,G4⟩:=Vq (x.Fc 0 v) 1 3 N
  refine ch G4 ?_
  refine ll H M ?_
  refine fr ?_
  exact Ag ⟨[2,H,ah,ab,ai,av,Y,Q,2,v],[aj],[[[PV.str [120],.int .i64 1],[.str [121],.int .i64 1]],M,ac,[[PV.str [120],.int .i64 1],[.str [121],.int .i64 1]]],[]⟩ (.inl (⟨_,_,_,_,_,_,_,_,_,_,_,_,_,_,_,rfl,(by first|exact JP.mk asm asm asm|exact JP.nil asm),rfl,kn,kn,kn,kn,kn⟩))
 refine cm I ?_
 refine cm I ?_
 refine ch I ?_
 have ⟨_,_,aW,aD,aB,aU,az,ax,_,_,_⟩:=C
 obtain ⟨_,⟨af,ad,Z,aa,V,R,aq,ag,rfl,bk,bb,br,bh⟩,G5⟩:=IS (C.Fc j q) 1 3 L
 refine ch G5 ?_
 refine ll A J ?_
 refine fr ?_
 exact Ag ⟨[2,A,af,ad,Z,aa,V,R,O,j,q],[aq],[[[PV.str [120],.int .i64 1],[.str [121],.int .i64 1]],J,ag,U],[]⟩ (.inr ((⟨_,_,_,_,_,_,_,_,_,_,_,_,_,_,_,_,rfl,(by first|exact JP.mk asm asm asm|exact JP.nil asm),rfl,kn,kn,kn,kn,kn,kn,kn⟩)))
def C_6 (N n:Nat):Prop:=∀(it a:Int) (b A:Int) (pos c:Int) (d j:Int) (sub v pl:Int) (B x P:Rs) (hs:BJ j sub) (h:(j=4∨j=1∨j=2∨j=8∨j=6)/\it<=10/\it.toNat<n),Ok trees N ⟨[it,a,b,A,pos,c,d,j,sub,v,pl],[],[B,x,P],[]⟩ fun z=>(∃(q:Int),z=(0,(⟨[q],[],[],[]⟩:Aj))/\(BJ j q))
def K_6 (N:Nat):Prop:=∀(it a:Int) (b A:Int) (pos c:Int) (d j:Int) (sub v pl:Int) (B x P:Rs) (hs:BJ j sub) (h:(j=4∨j=1∨j=2∨j=8∨j=6)/\it<=10:=by exact kn),Ok trees N ⟨[it,a,b,A,pos,c,d,j,sub,v,pl],[],[B,x,P],[]⟩ fun z=>(∃(q:Int),z=(0,(⟨[q],[],[],[]⟩:Aj))/\(BJ j q))
theorem Tz (n:Nat):C_6 6 n:=by
 induction n with
 |zero=>intro it a b v pos c d j sub x pl B z P hs h;exact absurd h.2.2 (Nat.not_lt_zero _)
 |succ n ih=>
 intro it a b v pos c d j sub x pl B z P hs h
 obtain ⟨J,ad⟩:=hs;rcases J with rfl|rfl|rfl|rfl
 ·refine .of (t:=t_6) rfl ?_
  conv=>arg 3;reduce
  refine gt it 0 (fun t1=>?_) fun t1=>?_
  ·refine Az (2*1) 0 ?_
   refine eq (j%(2*1)) 0 (fun Q=>?_) fun Q=>?_
   ·obtain ⟨_,⟨H,rfl,V⟩,G3⟩:=ih (it-1) a b v pos c d j (2*1) x pl B z P (by unfold BJ;omega) kn
    refine ch G3 ?_
    exact Ag ⟨[H],[],[],[]⟩ (⟨_,rfl,(by first|assumption|(unfold BJ;omega))⟩)
   exact Ag ⟨[1],[],[],[]⟩ (⟨_,rfl,(by first|assumption|(unfold BJ;omega))⟩)
  exact Ag ⟨[1],[],[],[]⟩ (⟨_,rfl,(by first|assumption|(unfold BJ;omega))⟩)
 ·refine .of (t:=t_6) rfl ?_
  conv=>arg 3;reduce
  refine gt it 0 (fun O=>?_) fun O=>?_
  ·refine Az (2*2) 0 ?_
   refine eq (j%(2*2)) 0 (fun Y=>?_) fun Y=>?_
   ·obtain ⟨_,⟨A,rfl,R⟩,X⟩:=ih (it-1) a b v pos c d j (2*2) x pl B z P (by unfold BJ;omega) kn
    refine ch X ?_
    exact Ag ⟨[A],[],[],[]⟩ (⟨_,rfl,(by first|assumption|(unfold BJ;omega))⟩)
   exact Ag ⟨[2],[],[],[]⟩ (⟨_,rfl,(by first|assumption|(unfold BJ;omega))⟩)
  exact Ag ⟨[2],[],[],[]⟩ (⟨_,rfl,(by first|assumption|(unfold BJ;omega))⟩)
 ·refine .of (t:=t_6) rfl ?_
  conv=>arg 3;reduce
  refine gt it 0 (fun t7=>?_) fun t7=>?_
  ·refine Az (2*4) 0 ?_
   refine eq (j%(2*4)) 0 (fun t8=>?_) fun t8=>?_
   ·obtain ⟨_,⟨C,rfl,U⟩,Z⟩:=ih (it-1) a b v pos c d j (2*4) x pl B z P (by unfold BJ;omega) kn
    refine ch Z ?_
    exact Ag ⟨[C],[],[],[]⟩ (⟨_,rfl,(by first|assumption|(unfold BJ;omega))⟩)
   exact Ag ⟨[4],[],[],[]⟩ (⟨_,rfl,(by first|assumption|(unfold BJ;omega))⟩)
  exact Ag ⟨[4],[],[],[]⟩ (⟨_,rfl,(by first|assumption|(unfold BJ;omega))⟩)
 ·refine .of (t:=t_6) rfl ?_
  conv=>arg 3;reduce
  refine gt it 0 (fun I=>?_) fun I=>?_
  ·refine Az (2*8) 0 ?_
   refine eq (j%(2*8)) 0 (fun M=>?_) fun M=>?_
   ·obtain ⟨_,⟨q,rfl,N⟩,L⟩:=ih (it-1) a b v pos c d j (2*8) x pl B z P (by unfold BJ;omega) kn
    refine ch L ?_
    exact Ag ⟨[q],[],[],[]⟩ (⟨_,rfl,(by first|assumption|(unfold BJ;omega))⟩)
   exact Ag ⟨[8],[],[],[]⟩ (⟨_,rfl,(by first|assumption|(unfold BJ;omega))⟩)
  exact Ag ⟨[8],[],[],[]⟩ (⟨_,rfl,(by first|assumption|(unfold BJ;omega))⟩)
theorem c_6:K_6 6:=fun it a b x pos c d j sub q pl B v P hs h=>Tz (it.toNat+1) it a b x pos c d j sub q pl B v P hs ⟨h.1,h.2,Nat.lt_succ_self _⟩
def Apx (N n:Nat):Prop:=∀{Γ:Ctx} {K M:Int} {J:Ctx} {x:Int} (it z1:Int) (Z I:Int) (pos C:Int) (count left:Int) (Q sub:Int) (X pl A:Int) (B Y:Rs) (P V R:Rs) (hM:MS false Γ 3 K M I pos C count left 0 1 B V) (hL:AK 0 0 3 J Γ x left R) (h:it<=10/\A=R.length/\A+it<=20/\0<=A/\it.toNat<n),Ok trees N ⟨[it,z1,Z,I,pos,C,count,left,Q,sub,X,pl,A],[],[B,Y,P,V,R],[]⟩ fun L=>(L=(0,v0))∨(∃(j left' q:Int),∃(z:Rs),L=(1,(⟨[j,left',q],[],[z],[]⟩:Aj))/\(MS false Γ 3 K M I j C count left' 0 1 B V)/\(AK 0 0 3 J Γ x left' z)/\(q=z.length)/\(q<=20)/\(left'<=left)/\(j+300*left'<=pos+300*left)/\(A<=q))∨(∃(U:Ctx),∃(j H v left' q:Int),∃(O z:Rs),L=(2,(⟨[j,H,v,left',q],[],[O,z],[]⟩:Aj))/\(MS false U 3 K M I j H v left' 0 1 B O)/\(AK 0 0 3 J U x left' z)/\(Ext C V O)/\(count<=v)/\(C<=H)/\(q=z.length)/\(q<=20)/\(left'<=left)/\(j+300*left'<=pos+300*left)/\(A<=q))
def Apc (N:Nat):Prop:=∀{Γ:Ctx} {K M:Int} {J:Ctx} {x:Int} (it z1:Int) (Z I:Int) (pos C:Int) (count left:Int) (Q sub:Int) (X pl A:Int) (B Y:Rs) (P V R:Rs) (hM:MS false Γ 3 K M I pos C count left 0 1 B V) (hL:AK 0 0 3 J Γ x left R) (h:it<=10/\A=R.length/\A+it<=20/\0<=A:=by exact kn),Ok trees N ⟨[it,z1,Z,I,pos,C,count,left,Q,sub,X,pl,A],[],[B,Y,P,V,R],[]⟩ fun L=>(L=(0,v0))∨(∃(j left' q:Int),∃(z:Rs),L=(1,(⟨[j,left',q],[],[z],[]⟩:Aj))/\(MS false Γ 3 K M I j C count left' 0 1 B V)/\(AK 0 0 3 J Γ x left' z)/\(q=z.length)/\(q<=20)/\(left'<=left)/\(j+300*left'<=pos+300*left)/\(A<=q))∨(∃(U:Ctx),∃(j H v left' q:Int),∃(O z:Rs),L=(2,(⟨[j,H,v,left',q],[],[O,z],[]⟩:Aj))/\(MS false U 3 K M I j H v left' 0 1 B O)/\(AK 0 0 3 J U x left' z)/\(Ext C V O)/\(count<=v)/\(C<=H)/\(q=z.length)/\(q<=20)/\(left'<=left)/\(j+300*left'<=pos+300*left)/\(A<=q))
theorem An6 (n:Nat):Apx 42 n:=by
 induction n with
 |zero=>intro Γ K M Γ0 aD it z1 z2 bl pos vl count left aq sub al pl rl B Ar P V R hM x h;exact absurd h.2.2.2.2 (Nat.not_lt_zero _)
 |succ n ih=>
 intro Γ K M Γ0 aD it z1 z2 bl pos vl count left aq sub al pl rl B Ar P V R hM x h
 have ⟨hm,dv,dd,dj,dh,dx,dw,dk,di,dt,dy⟩:=hM;have ⟨hB,hl,hvl,GN,hV,hb,hc,hd⟩:=hm;have dl:G 3=40:=rfl;have du:G 2=12:=rfl
 refine .of (t:=Aff) rfl ?_
 conv=>arg 3;reduce
 refine gt it 0 (fun t1=>?_) fun t1=>?_
 ·refine gt left 0 (fun t2=>?_) fun t2=>?_
  ·obtain ⟨_,(⟨bn,a9,a6,aK,aX,az,aI,aU,aE,aC,aN,a0,aJ,aM,aR,I,v,bg,aQ,aZ,ay,ah,au,af,rfl,z,bM,b3,cW,cY,cH,bX,cc⟩|⟨an,bw,bz,bv,aV,aY,a5,aW,aB,a2,a1,aP,H,C,j,q,bx,aF,ap,av,ak,aj,L,rfl,A,b8,cS,b9,cd,cg,bC,bV,bU,cN,bB⟩),G3⟩:=Rz 3 2 1 0 0 bl pos vl count left 0 1 B V (MS.mv hM)
   ·refine ch G3 ?_
    have ⟨_,_,b4,b2,c1,cO,cw,co,_,_,_⟩:=z
    refine ll aU ay ?_
    refine ll aJ ah ?_
    refine ll aM au ?_
    refine ll aR af ?_
    refine dL (R++[AT bn a9 0 a6 bg aK aX az aQ aI ay aE aC aN aZ a0 ah au af]) (fun W4 e4=>?_) (Bq (pw rl R) pe)
    have f4:=cL e4;try simp only [lA,lC,lN,lT']at f4
    refine Er (W4.length:Int) 1048576 ?_
    obtain ⟨_,(rfl|⟨ae,Z,aG,bc,rfl,Q,cr,cp,cz,cj,bT,bL⟩|⟨bb,ag,a4,N,Y,aL,bh,a8,rfl,X,cb,c4,bS,cU,cR,c3,bP,cD,cZ⟩),G5⟩:=ih (it-1) z1 z2 bl I vl count v aq sub al pl (W4.length:Int) B Ar P V W4 (MS.mv z) (by subst_vars;exact AK.snoc x asm) kn
    ·refine ch G5 ?_
     exact Ag ⟨[I,v,(W4.length:Int)],[],[W4],[]⟩ (.inr (.inl (⟨_,_,_,_,rfl,(MS.mv z),(by first|assumption|(subst_vars;exact AK.snoc x asm)),kn,kn,kn,kn,kn⟩)))
    ·refine cm G5 ?_
     refine ch G5 ?_
     have ⟨_,_,bZ,ct,cX,cy,cx,b0,_,_,_⟩:=Q
     exact Ag ⟨[ae,Z,aG],[],[bc],[]⟩ (.inr (.inl (⟨_,_,_,_,rfl,(MS.mv Q),(by first|assumption|(subst_vars;exact AK.snoc x asm)),kn,kn,kn,kn,kn⟩)))
    refine cm G5 ?_
    refine cm G5 ?_
    refine ch G5 ?_
    have ⟨_,_,c2,bK,cP,cF,b6,bH,_,_,_⟩:=X
    exact Ag ⟨[ag,a4,N,Y,aL],[],[bh,a8],[]⟩ (.inr (.inr ((⟨bb,_,_,_,_,_,_,_,rfl,(MS.mv X),(by first|assumption|(subst_vars;exact AK.snoc x asm)),A5,kn,kn,kn,kn,kn,kn,kn⟩))))
   refine cm G3 ?_
   refine ch G3 ?_
   have ⟨_,_,bO,ci,bD,bN,bI,cT,_,_,_⟩:=A
   refine ll aB ap ?_
   refine ll a2 av ?_
   refine ll a1 ak ?_
   refine ll aP aj ?_
   refine dL (R++[AT bw 0 bz bv bx aV aY a5 aF aW ap 0 0 0 [] 0 av ak aj]) (fun W6 e6=>?_) (Bq (pw rl R) pe)
   have f6:=cL e6;try simp only [lA,lC,lN,lT']at f6
   refine Er (W6.length:Int) 1048576 ?_
   obtain ⟨_,(rfl|⟨aw,ad,aA,bj,rfl,U,bE,cV,cG,cA,cM,bG⟩|⟨bi,ao,a3,J,aa,aO,bo,bt,rfl,O,cE,cI,bQ,cv,cq,bF,b5,cB,bW⟩),G7⟩:=ih (it-1) z1 z2 bl H C j q aq sub al pl (W6.length:Int) B Ar P L W6 (MS.mv A) (by subst_vars;exact AK.snoc x asm) kn
   ·refine ch G7 ?_
    exact Ag ⟨[H,C,j,q,(W6.length:Int)],[],[L,W6],[]⟩ (.inr (.inr ((⟨an,_,_,_,_,_,_,_,rfl,(MS.mv A),(by first|assumption|(subst_vars;exact AK.snoc x asm)),A5,kn,kn,kn,kn,kn,kn,kn⟩))))
   ·refine cm G7 ?_
    refine ch G7 ?_
    have ⟨_,_,bY,bR,ce,cQ,cC,cf,_,_,_⟩:=U
    exact Ag ⟨[aw,C,j,ad,aA],[],[L,bj],[]⟩ (.inr (.inr ((⟨an,_,_,_,_,_,_,_,rfl,(MS.mv U),(by first|assumption|(subst_vars;exact AK.snoc x asm)),A5,kn,kn,kn,kn,kn,kn,kn⟩))))
   refine cm G7 ?_
   refine cm G7 ?_
   refine ch G7 ?_
   have ⟨_,_,bJ,cJ,cu,b7,b1,cK,_,_,_⟩:=O
   exact Ag ⟨[ao,a3,J,aa,aO],[],[bo,bt],[]⟩ (.inr (.inr ((⟨bi,_,_,_,_,_,_,_,rfl,(MS.mv O),(by first|assumption|(subst_vars;exact AK.snoc x asm)),A5,kn,kn,kn,kn,kn,kn,kn⟩))))
  exact Ag v0 (.inl rfl)
 exact Ag v0 (.inl rfl)
theorem AkE:Apc 42:=fun {Γ} {K} {M} {Γ0} {left0} it z1 z2 bl pos vl count left grp sub al pl rl B Ar P V R hM hL h=>An6 (it.toNat+1) it z1 z2 bl pos vl count left grp sub al pl rl B Ar P V R hM hL ⟨h.1,h.2.1,h.2.2.1,h.2.2.2,Nat.lt_succ_self _⟩
def Apg (N:Nat):Prop:=∀{Γ:Ctx} {K M:Int} (it z1:Int) (R C:Int) (pos z:Int) (count left:Int) (J sub:Int) (O pl:Int) (B Q:Rs) (P V:Rs) (U:MS false Γ 3 K M C pos z count left 0 1 B V) (h:it<=10:=by exact kn),Ok trees N ⟨[it,z1,R,C,pos,z,count,left,J,sub,O,pl],[],[B,Q,P,V],[]⟩ fun H=>(H=(0,v0)/\(it<=0∨left<=0))∨(∃(j left' q:Int),∃(x:Rs),H=(1,(⟨[j,left',q],[],[x],[]⟩:Aj))/\(MS false Γ 3 K M C j z count left' 0 1 B V)/\(AK 0 0 3 Γ Γ left left' x)/\(q=x.length)/\(q<=20)/\(left'<=left)/\(j+300*left'<=pos+300*left)/\(1<=q))∨(∃(L:Ctx),∃(j A v left' q:Int),∃(I x:Rs),H=(2,(⟨[j,A,v,left',q],[],[I,x],[]⟩:Aj))/\(MS false L 3 K M C j A v left' 0 1 B I)/\(AK 0 0 3 Γ L left left' x)/\(Ext z V I)/\(count<=v)/\(z<=A)/\(q=x.length)/\(q<=20)/\(left'<=left)/\(j+300*left'<=pos+300*left)/\(1<=q))
theorem Ao5:Apg 10:=by
 intro Γ K M it z1 z2 bl pos vl count left aZ sub al pl B Ar P V hM h
 have ⟨hm,dj,c7,db,c8,dl,dk,dc,c9,dh,dt⟩:=hM;have ⟨hB,hl,hvl,GN,hV,hb,hc,hd⟩:=hm;have dd:G 3=40:=rfl;have di:G 2=12:=rfl
 refine .of (t:=Afn) rfl ?_
 conv=>arg 3;reduce
 refine gt it 0 (fun t1=>?_) fun t1=>?_
 ·refine gt left 0 (fun t2=>?_) fun t2=>?_
  ·obtain ⟨_,(⟨bc,a4,a0,aD,aO,au,aB,aL,ay,ax,aG,aR,aC,aF,aK,H,v,a8,aJ,aQ,aq,af,an,ad,rfl,x,bI,bZ,cS,cU,cD,bT,b7⟩|⟨ai,bi,bk,bh,aM,aP,aY,aN,aw,aV,aU,aI,C,A,j,q,bj,az,ak,ao,ah,ag,J,rfl,z,b4,cO,b5,b8,cc,bx,bR,bQ,cI,bt⟩),G3⟩:=Rz 3 2 1 0 0 bl pos vl count left 0 1 B V (MS.mv hM)
   ·refine ch G3 ?_
    have ⟨_,_,b0,bY,cW,cJ,cr,cf,_,_,_⟩:=x
    refine ll aL aq ?_
    refine ll aC af ?_
    refine ll aF an ?_
    refine ll aK ad ?_
    refine dL [AT bc a4 0 a0 a8 aD aO au aJ aB aq ay ax aG aQ aR af an ad] (fun W4 e4=>?_)
    have f4:=cL e4;try simp only [lA,lC,lN,lT']at f4
    refine ll 1 W4 ?_
    obtain ⟨_,(rfl|⟨ac,X,aA,a7,rfl,O,cj,cg,cv,ce,bP,bH⟩|⟨a5,ae,aX,L,U,aE,a9,a2,rfl,R,b6,cZ,bO,cQ,cN,cY,bL,cz,cV⟩),G5⟩:=AkE (it-1) z1 z2 bl H vl count v aZ sub al pl 1 B Ar P V W4 (MS.mv x) (by subst_vars;exact AK.one asm om)
    ·refine ch G5 ?_
     exact Ag ⟨[H,v,1],[],[W4],[]⟩ (.inr (.inl (⟨_,_,_,_,rfl,(MS.mv x),(by first|assumption|(subst_vars;exact AK.one asm om)),kn,kn,kn,kn,kn⟩)))
    ·refine cm G5 ?_
     refine ch G5 ?_
     have ⟨_,_,bV,co,cT,cu,ct,bW,_,_,_⟩:=O
     exact Ag ⟨[ac,X,aA],[],[a7],[]⟩ (.inr (.inl (⟨_,_,_,_,rfl,(MS.mv O),(by first|assumption|(subst_vars;exact AK.one asm om)),kn,kn,kn,kn,kn⟩)))
    refine cm G5 ?_
    refine cm G5 ?_
    refine ch G5 ?_
    have ⟨_,_,cX,bG,cK,cB,b2,bD,_,_,_⟩:=R
    exact Ag ⟨[ae,aX,L,U,aE],[],[a9,a2],[]⟩ (.inr (.inr ((⟨a5,_,_,_,_,_,_,_,rfl,(MS.mv R),(by first|assumption|(subst_vars;exact AK.one asm om)),A5,kn,kn,kn,kn,kn,kn,kn⟩))))
   refine cm G3 ?_
   refine ch G3 ?_
   have ⟨_,_,bK,cd,bz,bJ,bE,cP,_,_,_⟩:=z
   refine ll aw ak ?_
   refine ll aV ao ?_
   refine ll aU ah ?_
   refine ll aI ag ?_
   refine dL [AT bi 0 bk bh bj aM aP aY az aN ak 0 0 0 [] 0 ao ah ag] (fun W6 e6=>?_)
   have f6:=cL e6;try simp only [lA,lC,lN,lT']at f6
   refine ll 1 W6 ?_
   obtain ⟨_,(rfl|⟨ap,ab,av,bb,rfl,Q,bA,cR,cC,cw,cH,bC⟩|⟨ba,aj,aW,I,Y,aH,be,bg,rfl,N,cA,cE,bM,cq,ci,bB,b1,cx,bS⟩),Z⟩:=AkE (it-1) z1 z2 bl C A j q aZ sub al pl 1 B Ar P J W6 (MS.mv z) (by subst_vars;exact AK.one asm om)
   ·refine ch Z ?_
    exact Ag ⟨[C,A,j,q,1],[],[J,W6],[]⟩ (.inr (.inr ((⟨ai,_,_,_,_,_,_,_,rfl,(MS.mv z),(by first|assumption|(subst_vars;exact AK.one asm om)),A5,kn,kn,kn,kn,kn,kn,kn⟩))))
   ·refine cm Z ?_
    refine ch Z ?_
    have ⟨_,_,bU,bN,b9,cM,cy,cb,_,_,_⟩:=Q
    exact Ag ⟨[ap,A,j,ab,av],[],[J,bb],[]⟩ (.inr (.inr ((⟨ai,_,_,_,_,_,_,_,rfl,(MS.mv Q),(by first|assumption|(subst_vars;exact AK.one asm om)),A5,kn,kn,kn,kn,kn,kn,kn⟩))))
   refine cm Z ?_
   refine cm Z ?_
   refine ch Z ?_
   have ⟨_,_,bF,cF,cp,b3,bX,cG,_,_,_⟩:=N
   exact Ag ⟨[aj,aW,I,Y,aH],[],[be,bg],[]⟩ (.inr (.inr ((⟨ba,_,_,_,_,_,_,_,rfl,(MS.mv N),(by first|assumption|(subst_vars;exact AK.one asm om)),A5,kn,kn,kn,kn,kn,kn,kn⟩))))
  exact Ag v0 (.inl (⟨rfl,kn⟩))
 exact Ag v0 (.inl (⟨rfl,kn⟩))
def Apo (N n:Nat):Prop:=∀{Γ:Ctx} {K M:Int} {J:Ctx} {x:Int} (it z1:Int) (z2 I:Int) (pos C:Int) (count left:Int) (Q sub:Int) (Y pl:Int) (fl A:Int) (B Z:Rs) (P X:Rs) (V R:Rs) (hM:MS false Γ 3 K M I pos C count left 1 1 B V) (hL:AK 0 0 3 J Γ x left R) (h:it<=10/\A=R.length/\A+it<=20/\0<=A/\it.toNat<n),Ok trees N ⟨[it,z1,z2,I,pos,C,count,left,Q,sub,Y,pl,fl,A],[],[B,Z,P,X,V,R],[]⟩ fun L=>(L=(0,v0))∨(∃(j left' q:Int),∃(z:Rs),L=(1,(⟨[j,left',q],[],[z],[]⟩:Aj))/\(MS false Γ 3 K M I j C count left' 1 1 B V)/\(AK 0 0 3 J Γ x left' z)/\(q=z.length)/\(q<=20)/\(left'<=left)/\(j+300*left'<=pos+300*left)/\(A<=q))∨(∃(U:Ctx),∃(j H v left' q:Int),∃(O z:Rs),L=(2,(⟨[j,H,v,left',q],[],[O,z],[]⟩:Aj))/\(MS false U 3 K M I j H v left' 1 1 B O)/\(AK 0 0 3 J U x left' z)/\(Ext C V O)/\(count<=v)/\(C<=H)/\(q=z.length)/\(q<=20)/\(left'<=left)/\(j+300*left'<=pos+300*left)/\(A<=q))
def AoK (N:Nat):Prop:=∀{Γ:Ctx} {K M:Int} {J:Ctx} {x:Int} (it z1:Int) (z2 I:Int) (pos C:Int) (count left:Int) (Q sub:Int) (Y pl:Int) (fl A:Int) (B Z:Rs) (P X:Rs) (V R:Rs) (hM:MS false Γ 3 K M I pos C count left 1 1 B V) (hL:AK 0 0 3 J Γ x left R) (h:it<=10/\A=R.length/\A+it<=20/\0<=A:=by exact kn),Ok trees N ⟨[it,z1,z2,I,pos,C,count,left,Q,sub,Y,pl,fl,A],[],[B,Z,P,X,V,R],[]⟩ fun L=>(L=(0,v0))∨(∃(j left' q:Int),∃(z:Rs),L=(1,(⟨[j,left',q],[],[z],[]⟩:Aj))/\(MS false Γ 3 K M I j C count left' 1 1 B V)/\(AK 0 0 3 J Γ x left' z)/\(q=z.length)/\(q<=20)/\(left'<=left)/\(j+300*left'<=pos+300*left)/\(A<=q))∨(∃(U:Ctx),∃(j H v left' q:Int),∃(O z:Rs),L=(2,(⟨[j,H,v,left',q],[],[O,z],[]⟩:Aj))/\(MS false U 3 K M I j H v left' 1 1 B O)/\(AK 0 0 3 J U x left' z)/\(Ext C V O)/\(count<=v)/\(C<=H)/\(q=z.length)/\(q<=20)/\(left'<=left)/\(j+300*left'<=pos+300*left)/\(A<=q))
theorem Anx (n:Nat):Apo 75 n:=by
 induction n with
 |zero=>intro Γ K M Γ0 aD it z1 z2 bl pos vl count left aq sub al pl fl rl B Ar P Fs V R hM x h;exact absurd h.2.2.2.2 (Nat.not_lt_zero _)
 |succ n ih=>
 intro Γ K M Γ0 aD it z1 z2 bl pos vl count left aq sub al pl fl rl B Ar P Fs V R hM x h
 have ⟨hm,dw,dh,dk,di,dy,dx,dl,dj,du,dz⟩:=hM;have ⟨hB,hl,hvl,GN,hV,hb,hc,hd⟩:=hm;have dt:G 3=40:=rfl;have dv:G 2=12:=rfl
 refine .of (t:=AeM) rfl ?_
 conv=>arg 3;reduce
 refine gt it 0 (fun t1=>?_) fun t1=>?_
 ·refine gt left 0 (fun t2=>?_) fun t2=>?_
  ·obtain ⟨_,(⟨bn,a9,a6,aK,aX,az,aI,aU,aE,aC,aN,a0,aJ,aM,aR,I,v,bg,aQ,aZ,ay,ah,au,af,rfl,z,bN,b4,cX,cZ,cI,bY,cd⟩|⟨an,bw,bz,bv,aV,aY,a5,aW,aB,a2,a1,aP,H,C,j,q,bx,aF,ap,av,ak,aj,L,rfl,A,b9,cT,cb,ce,ci,bD,bW,bV,cO,bC⟩),G3⟩:=Rz 3 2 1 0 0 bl pos vl count left 1 1 B V (MS.mv hM)
   ·refine ch G3 ?_
    have ⟨_,_,b5,b3,c2,cP,cx,cp,_,_,_⟩:=z
    refine ll aU ay ?_
    refine ll aJ ah ?_
    refine ll aM au ?_
    refine ll aR af ?_
    refine dL (R++[AT bn a9 0 a6 bg aK aX az aQ aI ay aE aC aN aZ a0 ah au af]) (fun W4 e4=>?_) (Bq (pw rl R) pe)
    have f4:=cL e4;try simp only [lA,lC,lN,lT']at f4
    refine Er (W4.length:Int) 1048576 ?_
    obtain ⟨_,(rfl|⟨ae,Z,aG,bc,rfl,Q,ct,cq,cA,co,bU,bM⟩|⟨bb,ag,a4,N,Y,aL,bh,a8,rfl,X,cc,c5,bT,cV,cS,c4,bQ,cE,c1⟩),G5⟩:=ih (it-1) z1 z2 bl I vl count v aq sub al pl fl (W4.length:Int) B Ar P Fs V W4 (MS.mv z) (by subst_vars;exact AK.snoc x asm) kn
    ·refine ch G5 ?_
     exact Ag ⟨[I,v,(W4.length:Int)],[],[W4],[]⟩ (.inr (.inl (⟨_,_,_,_,rfl,(MS.mv z),(by first|assumption|(subst_vars;exact AK.snoc x asm)),kn,kn,kn,kn,kn⟩)))
    ·refine cm G5 ?_
     refine ch G5 ?_
     have ⟨_,_,b0,cu,cY,cz,cy,b1,_,_,_⟩:=Q
     exact Ag ⟨[ae,Z,aG],[],[bc],[]⟩ (.inr (.inl (⟨_,_,_,_,rfl,(MS.mv Q),(by first|assumption|(subst_vars;exact AK.snoc x asm)),kn,kn,kn,kn,kn⟩)))
    refine cm G5 ?_
    refine cm G5 ?_
    refine ch G5 ?_
    have ⟨_,_,c3,bL,cQ,cG,b7,bI,_,_,_⟩:=X
    exact Ag ⟨[ag,a4,N,Y,aL],[],[bh,a8],[]⟩ (.inr (.inr ((⟨bb,_,_,_,_,_,_,_,rfl,(MS.mv X),(by first|assumption|(subst_vars;exact AK.snoc x asm)),A5,kn,kn,kn,kn,kn,kn,kn⟩))))
   refine cm G3 ?_
   refine ch G3 ?_
   have ⟨_,_,bP,cj,bE,bO,bJ,cU,_,_,_⟩:=A
   refine ll aB ap ?_
   refine ll a2 av ?_
   refine ll a1 ak ?_
   refine ll aP aj ?_
   refine dL (R++[AT bw 0 bz bv bx aV aY a5 aF aW ap 0 0 0 [] 0 av ak aj]) (fun W6 e6=>?_) (Bq (pw rl R) pe)
   have f6:=cL e6;try simp only [lA,lC,lN,lT']at f6
   refine Er (W6.length:Int) 1048576 ?_
   obtain ⟨_,(rfl|⟨aw,ad,aA,bj,rfl,U,bF,cW,cH,cB,cN,bH⟩|⟨bi,ao,a3,J,aa,aO,bo,bt,rfl,O,cF,cJ,bR,cw,cr,bG,b6,cC,bX⟩),G7⟩:=ih (it-1) z1 z2 bl H C j q aq sub al pl fl (W6.length:Int) B Ar P Fs L W6 (MS.mv A) (by subst_vars;exact AK.snoc x asm) kn
   ·refine ch G7 ?_
    exact Ag ⟨[H,C,j,q,(W6.length:Int)],[],[L,W6],[]⟩ (.inr (.inr ((⟨an,_,_,_,_,_,_,_,rfl,(MS.mv A),(by first|assumption|(subst_vars;exact AK.snoc x asm)),A5,kn,kn,kn,kn,kn,kn,kn⟩))))
   ·refine cm G7 ?_
    refine ch G7 ?_
    have ⟨_,_,bZ,bS,cf,cR,cD,cg,_,_,_⟩:=U
    exact Ag ⟨[aw,C,j,ad,aA],[],[L,bj],[]⟩ (.inr (.inr ((⟨an,_,_,_,_,_,_,_,rfl,(MS.mv U),(by first|assumption|(subst_vars;exact AK.snoc x asm)),A5,kn,kn,kn,kn,kn,kn,kn⟩))))
   refine cm G7 ?_
   refine cm G7 ?_
   refine ch G7 ?_
   have ⟨_,_,bK,cK,cv,b8,b2,cM,_,_,_⟩:=O
   exact Ag ⟨[ao,a3,J,aa,aO],[],[bo,bt],[]⟩ (.inr (.inr ((⟨bi,_,_,_,_,_,_,_,rfl,(MS.mv O),(by first|assumption|(subst_vars;exact AK.snoc x asm)),A5,kn,kn,kn,kn,kn,kn,kn⟩))))
  exact Ag v0 (.inl rfl)
 exact Ag v0 (.inl rfl)
theorem Ak6:AoK 75:=fun {Γ} {K} {M} {Γ0} {left0} it z1 z2 bl pos vl count left grp sub al pl fl rl B Ar P Fs V R hM hL h=>Anx (it.toNat+1) it z1 z2 bl pos vl count left grp sub al pl fl rl B Ar P Fs V R hM hL ⟨h.1,h.2.1,h.2.2.1,h.2.2.2,Nat.lt_succ_self _⟩
def AoO (N:Nat):Prop:=∀{Γ:Ctx} {K M:Int} (it z1:Int) (U C:Int) (pos z:Int) (count left:Int) (J sub:Int) (Q pl fl:Int) (B R:Rs) (P O V:Rs) (X:MS false Γ 3 K M C pos z count left 1 1 B V) (h:it<=10:=by exact kn),Ok trees N ⟨[it,z1,U,C,pos,z,count,left,J,sub,Q,pl,fl],[],[B,R,P,O,V],[]⟩ fun H=>(H=(0,v0)/\(it<=0∨left<=0))∨(∃(j left' q:Int),∃(x:Rs),H=(1,(⟨[j,left',q],[],[x],[]⟩:Aj))/\(MS false Γ 3 K M C j z count left' 1 1 B V)/\(AK 0 0 3 Γ Γ left left' x)/\(q=x.length)/\(q<=20)/\(left'<=left)/\(j+300*left'<=pos+300*left)/\(1<=q))∨(∃(L:Ctx),∃(j A v left' q:Int),∃(I x:Rs),H=(2,(⟨[j,A,v,left',q],[],[I,x],[]⟩:Aj))/\(MS false L 3 K M C j A v left' 1 1 B I)/\(AK 0 0 3 Γ L left left' x)/\(Ext z V I)/\(count<=v)/\(z<=A)/\(q=x.length)/\(q<=20)/\(left'<=left)/\(j+300*left'<=pos+300*left)/\(1<=q))
theorem Ak7:AoO 68:=by
 intro Γ K M it z1 z2 bl pos vl count left aZ sub al pl fl B Ar P Fs V hM h
 have ⟨hm,dk,c8,dc,c9,dt,dl,dd,db,di,du⟩:=hM;have ⟨hB,hl,hvl,GN,hV,hb,hc,hd⟩:=hm;have dh:G 3=40:=rfl;have dj:G 2=12:=rfl
 refine .of (t:=AeP) rfl ?_
 conv=>arg 3;reduce
 refine gt it 0 (fun t1=>?_) fun t1=>?_
 ·refine gt left 0 (fun t2=>?_) fun t2=>?_
  ·obtain ⟨_,(⟨bc,a4,a0,aD,aO,au,aB,aL,ay,ax,aG,aR,aC,aF,aK,H,v,a8,aJ,aQ,aq,af,an,ad,rfl,x,bJ,b0,cT,cV,cE,bU,b8⟩|⟨ai,bi,bk,bh,aM,aP,aY,aN,aw,aV,aU,aI,C,A,j,q,bj,az,ak,ao,ah,ag,J,rfl,z,b5,cP,b6,b9,cd,bz,bS,bR,cJ,bt⟩),G3⟩:=Rz 3 2 1 0 0 bl pos vl count left 1 1 B V (MS.mv hM)
   ·refine ch G3 ?_
    have ⟨_,_,b1,bZ,cX,cK,ct,cg,_,_,_⟩:=x
    refine ll aL aq ?_
    refine ll aC af ?_
    refine ll aF an ?_
    refine ll aK ad ?_
    refine dL [AT bc a4 0 a0 a8 aD aO au aJ aB aq ay ax aG aQ aR af an ad] (fun W4 e4=>?_)
    have f4:=cL e4;try simp only [lA,lC,lN,lT']at f4
    refine ll 1 W4 ?_
    obtain ⟨_,(rfl|⟨ac,X,aA,a7,rfl,O,co,ci,cw,cf,bQ,bI⟩|⟨a5,ae,aX,L,U,aE,a9,a2,rfl,R,b7,c1,bP,cR,cO,cZ,bM,cA,cW⟩),G5⟩:=Ak6 (it-1) z1 z2 bl H vl count v aZ sub al pl fl 1 B Ar P Fs V W4 (MS.mv x) (by subst_vars;exact AK.one asm om)
    ·refine ch G5 ?_
     exact Ag ⟨[H,v,1],[],[W4],[]⟩ (.inr (.inl (⟨_,_,_,_,rfl,(MS.mv x),(by first|assumption|(subst_vars;exact AK.one asm om)),kn,kn,kn,kn,kn⟩)))
    ·refine cm G5 ?_
     refine ch G5 ?_
     have ⟨_,_,bW,cp,cU,cv,cu,bX,_,_,_⟩:=O
     exact Ag ⟨[ac,X,aA],[],[a7],[]⟩ (.inr (.inl (⟨_,_,_,_,rfl,(MS.mv O),(by first|assumption|(subst_vars;exact AK.one asm om)),kn,kn,kn,kn,kn⟩)))
    refine cm G5 ?_
    refine cm G5 ?_
    refine ch G5 ?_
    have ⟨_,_,cY,bH,cM,cC,b3,bE,_,_,_⟩:=R
    exact Ag ⟨[ae,aX,L,U,aE],[],[a9,a2],[]⟩ (.inr (.inr ((⟨a5,_,_,_,_,_,_,_,rfl,(MS.mv R),(by first|assumption|(subst_vars;exact AK.one asm om)),A5,kn,kn,kn,kn,kn,kn,kn⟩))))
   refine cm G3 ?_
   refine ch G3 ?_
   have ⟨_,_,bL,ce,bA,bK,bF,cQ,_,_,_⟩:=z
   refine ll aw ak ?_
   refine ll aV ao ?_
   refine ll aU ah ?_
   refine ll aI ag ?_
   refine dL [AT bi 0 bk bh bj aM aP aY az aN ak 0 0 0 [] 0 ao ah ag] (fun W6 e6=>?_)
   have f6:=cL e6;try simp only [lA,lC,lN,lT']at f6
   refine ll 1 W6 ?_
   obtain ⟨_,(rfl|⟨ap,ab,av,bb,rfl,Q,bB,cS,cD,cx,cI,bD⟩|⟨ba,aj,aW,I,Y,aH,be,bg,rfl,N,cB,cF,bN,cr,cj,bC,b2,cy,bT⟩),Z⟩:=Ak6 (it-1) z1 z2 bl C A j q aZ sub al pl fl 1 B Ar P Fs J W6 (MS.mv z) (by subst_vars;exact AK.one asm om)
   ·refine ch Z ?_
    exact Ag ⟨[C,A,j,q,1],[],[J,W6],[]⟩ (.inr (.inr ((⟨ai,_,_,_,_,_,_,_,rfl,(MS.mv z),(by first|assumption|(subst_vars;exact AK.one asm om)),A5,kn,kn,kn,kn,kn,kn,kn⟩))))
   ·refine cm Z ?_
    refine ch Z ?_
    have ⟨_,_,bV,bO,cb,cN,cz,cc,_,_,_⟩:=Q
    exact Ag ⟨[ap,A,j,ab,av],[],[J,bb],[]⟩ (.inr (.inr ((⟨ai,_,_,_,_,_,_,_,rfl,(MS.mv Q),(by first|assumption|(subst_vars;exact AK.one asm om)),A5,kn,kn,kn,kn,kn,kn,kn⟩))))
   refine cm Z ?_
   refine cm Z ?_
   refine ch Z ?_
   have ⟨_,_,bG,cG,cq,b4,bY,cH,_,_,_⟩:=N
   exact Ag ⟨[aj,aW,I,Y,aH],[],[be,bg],[]⟩ (.inr (.inr ((⟨ba,_,_,_,_,_,_,_,rfl,(MS.mv N),(by first|assumption|(subst_vars;exact AK.one asm om)),A5,kn,kn,kn,kn,kn,kn,kn⟩))))
  exact Ag v0 (.inl (⟨rfl,kn⟩))
 exact Ag v0 (.inl (⟨rfl,kn⟩))
end
end Go.Proofs.YtbmofjdmgjpfoaaGreatDoor.Am
