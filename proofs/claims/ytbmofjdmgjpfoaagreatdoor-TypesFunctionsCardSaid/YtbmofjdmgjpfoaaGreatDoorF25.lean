/- Part 25 of TypesFunctions. -/
import Derived.Test.YtbmofjdmgjpfoaaGreatDoorF17
import Derived.Test.YtbmofjdmgjpfoaaGreatDoorF24
set_option linter.all false
namespace Go.Proofs.YtbmofjdmgjpfoaaGreatDoor.Am
section
set_option maxHeartbeats 4000000
set_option maxRecDepth 100000
open Go.AM Go.AM.K
def Apr (U N:Nat) (m n:Nat):Prop:=∀{Γ:Ctx} {K M:Int} {J:Ctx} {z:Int} (f depth:Int) (loop pure:Int) (P I:Int) (it bl:Int) (pos C:Int) (count left:Int) (call q:Int) (B R V:Rs) (X:MS false Γ f K M bl pos C count left call q B V) (Y:AK loop pure (depth+1) J Γ z left R) (h:0<=depth/\depth<=2/\(pure=0∨pure=1)/\(loop=0∨loop=1)/\depth.toNat<m/\it<=10/\I=R.length/\I+it<=20/\0<=I/\it.toNat<n),Ok trees N ⟨[f,depth,loop,pure,P,I,it,bl,pos,C,count,left,call,q],[],[B,R,V],[]⟩ fun L=>(L=(0,v0))∨(∃(v j left':Int),∃(A:Rs),L=(1,(⟨[v,j,left'],[],[A],[]⟩:Aj))/\(MS false Γ f K M bl j C count left' call q B V)/\(AK loop pure (depth+1) J Γ z left' A)/\(v=A.length)/\(v<=20)/\(left'<=left)/\(j+300*left'<=pos+300*left))∨(∃(Q:Ctx),∃(v j H x left':Int),∃(A O:Rs),L=(2,(⟨[v,j,H,x,left'],[],[A,O],[]⟩:Aj))/\(MS false Q f K M bl j H x left' call q B O)/\(AK loop pure (depth+1) J Q z left' A)/\(Ext C V O)/\(count<=x)/\(C<=H)/\(v=A.length)/\(v<=20)/\(left'<=left)/\(j+300*left'<=pos+300*left))
def AoQ (Q N:Nat):Prop:=∀{m:Nat} (X:FX false Q m) {Γ:Ctx} {K M:Int} {J:Ctx} {z:Int} (f depth:Int) (loop pure:Int) (P I:Int) (it bl:Int) (pos C:Int) (count left:Int) (call q:Int) (B R V:Rs) (Y:MS false Γ f K M bl pos C count left call q B V) (Z:AK loop pure (depth+1) J Γ z left R) (h:0<=depth/\depth<=2/\(pure=0∨pure=1)/\(loop=0∨loop=1)/\depth.toNat<m/\it<=10/\I=R.length/\I+it<=20/\0<=I:=by exact kn),Ok trees N ⟨[f,depth,loop,pure,P,I,it,bl,pos,C,count,left,call,q],[],[B,R,V],[]⟩ fun L=>(L=(0,v0))∨(∃(v j left':Int),∃(A:Rs),L=(1,(⟨[v,j,left'],[],[A],[]⟩:Aj))/\(MS false Γ f K M bl j C count left' call q B V)/\(AK loop pure (depth+1) J Γ z left' A)/\(v=A.length)/\(v<=20)/\(left'<=left)/\(j+300*left'<=pos+300*left))∨(∃(U:Ctx),∃(v j H x left':Int),∃(A O:Rs),L=(2,(⟨[v,j,H,x,left'],[],[A,O],[]⟩:Aj))/\(MS false U f K M bl j H x left' call q B O)/\(AK loop pure (depth+1) J U z left' A)/\(Ext C V O)/\(count<=x)/\(C<=H)/\(v=A.length)/\(v<=20)/\(left'<=left)/\(j+300*left'<=pos+300*left))
theorem An0 {m:Nat} (ba:FX false 12 m) (n:Nat):Apr 12 65 m n:=by
 induction n with
 |zero=>intro Γ K M Γ0 aC f depth loop pure ao rl it bl pos vl count left call q B R V hM z h;exact absurd h.2.2.2.2.2.2.2.2.2 (Nat.not_lt_zero _)
 |succ n ih=>
 intro Γ K M Γ0 aC f depth loop pure ao rl it bl pos vl count left call q B R V hM z h
 have ⟨hm,dh,c4,c7,c5,dj,di,c8,c6,db,dk⟩:=hM;have ⟨hB,hl,hvl,GN,hV,hb,hc,hd⟩:=hm;have c9:G 3=40:=rfl;have dd:G 2=12:=rfl;have dc:G (3-1)=12:=rfl
 refine .of (t:=AeR) rfl ?_
 conv=>arg 3;reduce
 refine gt it 0 (fun t1=>?_) fun t1=>?_
 ·refine gt left 0 (fun t2=>?_) fun t2=>?_
  ·obtain ⟨_,(⟨bk,a8,a5,aJ,aW,ay,aH,aR,aD,aB,aM,aZ,aI,aL,aQ,J,x,bg,aP,aY,ax,ah,aq,af,rfl,A,bG,bW,cP,cR,cA,bQ,b4⟩|⟨al,br,bv,bq,aU,aX,a4,aV,aA,a1,a0,aO,I,H,j,v,bt,aE,ap,au,ak,aj,N,rfl,C,b1,cK,b2,b5,b8,bx,bP,bO,cF,bw⟩),G3⟩:=ba f depth 0 loop pure bl pos vl count left call q B V (MS.mv hM) kn
   ·refine ch G3 ?_
    have ⟨_,_,bX,bV,cS,cG,co,cc,_,_,_⟩:=A
    refine ll aR ax ?_
    refine ll aI ah ?_
    refine ll aL aq ?_
    refine ll aQ af ?_
    refine dL (R++[AT bk a8 0 a5 bg aJ aW ay aP aH ax aD aB aM aY aZ ah aq af]) (fun W4 e4=>?_) (Bq (pw rl R) pe)
    have f4:=cL e4;try simp only [lA,lC,lN,lT']at f4
    refine Er (W4.length:Int) 1048576 ?_
    obtain ⟨_,(rfl|⟨aF,ae,Z,bc,rfl,Q,cf,cd,cr,cb,bN⟩|⟨bb,aK,ag,a3,O,Y,a7,bh,rfl,X,b3,cV,bM,cN,cJ,cU,bJ,cw⟩),G5⟩:=ih f depth loop pure ao (W4.length:Int) (it-1) bl J vl count x call q B W4 V (MS.mv A) (by subst_vars;exact AK.snoc z asm) kn
    ·refine ch G5 ?_
     exact Ag ⟨[(W4.length:Int),J,x],[],[W4],[]⟩ (.inr (.inl (⟨_,_,_,_,rfl,(MS.mv A),(by first|assumption|(subst_vars;exact AK.snoc z asm)),kn,kn,kn,kn⟩)))
    ·refine cm G5 ?_
     refine ch G5 ?_
     have ⟨_,_,bS,cg,cQ,cq,cp,bT,_,_,_⟩:=Q
     exact Ag ⟨[aF,ae,Z],[],[bc],[]⟩ (.inr (.inl (⟨_,_,_,_,rfl,(MS.mv Q),(by first|assumption|(subst_vars;exact AK.snoc z asm)),kn,kn,kn,kn⟩)))
    refine cm G5 ?_
    refine cm G5 ?_
    refine ch G5 ?_
    have ⟨_,_,cT,bF,cH,cy,bZ,bC,_,_,_⟩:=X
    exact Ag ⟨[aK,ag,a3,O,Y],[],[a7,bh],[]⟩ (.inr (.inr ((⟨bb,_,_,_,_,_,_,_,rfl,(MS.mv X),(by first|assumption|(subst_vars;exact AK.snoc z asm)),A5,kn,kn,kn,kn,kn,kn⟩))))
   refine cm G3 ?_
   refine ch G3 ?_
   have ⟨_,_,bI,b9,bz,bH,bD,cM,_,_,_⟩:=C
   refine ll aA ap ?_
   refine ll a1 au ?_
   refine ll a0 ak ?_
   refine ll aO aj ?_
   refine dL (R++[AT br 0 bv bq bt aU aX a4 aE aV ap 0 0 0 [] 0 au ak aj]) (fun W6 e6=>?_) (Bq (pw rl R) pe)
   have f6:=cL e6;try simp only [lA,lC,lN,lT']at f6
   refine Er (W6.length:Int) 1048576 ?_
   obtain ⟨_,(rfl|⟨az,av,ad,bj,rfl,U,bA,cO,cz,ct,cE⟩|⟨bi,aN,an,a2,L,aa,bo,bm,rfl,P,cx,cB,bK,cj,ce,bB,bY,cu⟩),G7⟩:=ih f depth loop pure ao (W6.length:Int) (it-1) bl I H j v call q B W6 N (MS.mv C) (by subst_vars;exact AK.snoc z asm) kn
   ·refine ch G7 ?_
    exact Ag ⟨[(W6.length:Int),I,H,j,v],[],[W6,N],[]⟩ (.inr (.inr ((⟨al,_,_,_,_,_,_,_,rfl,(MS.mv C),(by first|assumption|(subst_vars;exact AK.snoc z asm)),A5,kn,kn,kn,kn,kn,kn⟩))))
   ·refine cm G7 ?_
    refine ch G7 ?_
    have ⟨_,_,bR,bL,b6,cI,cv,b7,_,_,_⟩:=U
    exact Ag ⟨[az,av,H,j,ad],[],[bj,N],[]⟩ (.inr (.inr ((⟨al,_,_,_,_,_,_,_,rfl,(MS.mv U),(by first|assumption|(subst_vars;exact AK.snoc z asm)),A5,kn,kn,kn,kn,kn,kn⟩))))
   refine cm G7 ?_
   refine cm G7 ?_
   refine ch G7 ?_
   have ⟨_,_,bE,cC,ci,b0,bU,cD,_,_,_⟩:=P
   exact Ag ⟨[aN,an,a2,L,aa],[],[bo,bm],[]⟩ (.inr (.inr ((⟨bi,_,_,_,_,_,_,_,rfl,(MS.mv P),(by first|assumption|(subst_vars;exact AK.snoc z asm)),A5,kn,kn,kn,kn,kn,kn⟩))))
  exact Ag v0 (.inl rfl)
 exact Ag v0 (.inl rfl)
theorem Vp:AoQ 12 65:=fun {m} hC12 {Γ} {K} {M} {Γ0} {left0} f depth loop pure vn0 rl it bl pos vl count left call loads B R V hM hL h=>An0 @hC12 (it.toNat+1) f depth loop pure vn0 rl it bl pos vl count left call loads B R V hM hL ⟨h.1,h.2.1,h.2.2.1,h.2.2.2.1,h.2.2.2.2.1,h.2.2.2.2.2.1,h.2.2.2.2.2.2.1,h.2.2.2.2.2.2.2.1,h.2.2.2.2.2.2.2.2,Nat.lt_succ_self _⟩
def AoS (J N:Nat):Prop:=∀{m:Nat} (O:FX false J m) {Γ:Ctx} {K M:Int} (f depth:Int) (loop pure:Int) (vn0 it:Int) (C pos:Int) (z count:Int) (left call loads:Int) (B V:Rs) (P:MS false Γ f K M C pos z count left call loads B V) (h:0<=depth/\depth<=2/\(pure=0∨pure=1)/\(loop=0∨loop=1)/\depth.toNat<m/\it<=10:=by exact kn),Ok trees N ⟨[f,depth,loop,pure,vn0,it,C,pos,z,count,left,call,loads],[],[B,V],[]⟩ fun H=>(H=(0,v0))∨(∃(v j left':Int),∃(x:Rs),H=(1,(⟨[v,j,left'],[],[x],[]⟩:Aj))/\(MS false Γ f K M C j z count left' call loads B V)/\(AK loop pure (depth+1) Γ Γ left left' x)/\(v=x.length)/\(v<=20)/\(left'<=left)/\(j+300*left'<=pos+300*left))∨(∃(L:Ctx),∃(v j A q left':Int),∃(x I:Rs),H=(2,(⟨[v,j,A,q,left'],[],[x,I],[]⟩:Aj))/\(MS false L f K M C j A q left' call loads B I)/\(AK loop pure (depth+1) Γ L left left' x)/\(Ext z V I)/\(count<=q)/\(z<=A)/\(v=x.length)/\(v<=20)/\(left'<=left)/\(j+300*left'<=pos+300*left))
theorem Aog:AoS 12 62:=by
 intro m J Γ K M f depth loop pure aZ it bl pos vl count left call z B V hM h
 have ⟨hm,c8,cY,c2,cZ,db,c9,c3,c1,c5,dc⟩:=hM;have ⟨hB,hl,hvl,GN,hV,hb,hc,hd⟩:=hm;have c4:G 3=40:=rfl;have c7:G 2=12:=rfl;have c6:G (3-1)=12:=rfl
 refine .of (t:=AeT) rfl ?_
 conv=>arg 3;reduce
 refine gt it 0 (fun t1=>?_) fun t1=>?_
 ·refine gt left 0 (fun t2=>?_) fun t2=>?_
  ·obtain ⟨_,(⟨bc,a4,a0,aD,aO,au,aB,aL,ay,ax,aG,aR,aC,aF,aK,I,v,a8,aJ,aQ,aq,ag,an,ae,rfl,x,bC,bS,cK,cN,cw,bM,b0⟩|⟨aj,bi,bk,bh,aM,aP,aY,aN,aw,aV,aU,aI,H,C,j,q,bj,az,al,ao,ai,ah,N,rfl,A,bX,cG,bY,b1,b4,br,bL,bK,cB,bq⟩),G3⟩:=J f depth 0 loop pure bl pos vl count left call z B V (MS.mv hM) kn
   ·refine ch G3 ?_
    have ⟨_,_,bT,bR,cO,cC,cf,b7,_,_,_⟩:=x
    refine ll aL aq ?_
    refine ll aC ag ?_
    refine ll aF an ?_
    refine ll aK ae ?_
    refine dL [AT bc a4 0 a0 a8 aD aO au aJ aB aq ay ax aG aQ aR ag an ae] (fun W4 e4=>?_)
    have f4:=cL e4;try simp only [lA,lC,lN,lT']at f4
    refine ll 1 W4 ?_
    obtain ⟨_,(rfl|⟨aA,ad,Y,a7,rfl,Q,cb,b8,cj,b6,bJ⟩|⟨a5,aE,af,aX,O,X,a2,a9,rfl,U,bZ,cR,bI,cI,cF,cQ,bF,cr⟩),G5⟩:=Vp @J f depth loop pure aZ 1 (it-1) bl I vl count v call z B W4 V (MS.mv x) (by subst_vars;exact AK.one asm om)
    ·refine ch G5 ?_
     exact Ag ⟨[1,I,v],[],[W4],[]⟩ (.inr (.inl (⟨_,_,_,_,rfl,(MS.mv x),(by first|assumption|(subst_vars;exact AK.one asm om)),kn,kn,kn,kn⟩)))
    ·refine cm G5 ?_
     refine ch G5 ?_
     have ⟨_,_,bO,cc,cM,ci,cg,bP,_,_,_⟩:=Q
     exact Ag ⟨[aA,ad,Y],[],[a7],[]⟩ (.inr (.inl (⟨_,_,_,_,rfl,(MS.mv Q),(by first|assumption|(subst_vars;exact AK.one asm om)),kn,kn,kn,kn⟩)))
    refine cm G5 ?_
    refine cm G5 ?_
    refine ch G5 ?_
    have ⟨_,_,cP,bB,cD,cu,bV,bx,_,_,_⟩:=U
    exact Ag ⟨[aE,af,aX,O,X],[],[a2,a9],[]⟩ (.inr (.inr ((⟨a5,_,_,_,_,_,_,_,rfl,(MS.mv U),(by first|assumption|(subst_vars;exact AK.one asm om)),A5,kn,kn,kn,kn,kn,kn⟩))))
   refine cm G3 ?_
   refine ch G3 ?_
   have ⟨_,_,bE,b5,bt,bD,bz,cH,_,_,_⟩:=A
   refine ll aw al ?_
   refine ll aV ao ?_
   refine ll aU ai ?_
   refine ll aI ah ?_
   refine dL [AT bi 0 bk bh bj aM aP aY az aN al 0 0 0 [] 0 ao ai ah] (fun W6 e6=>?_)
   have f6:=cL e6;try simp only [lA,lC,lN,lT']at f6
   refine ll 1 W6 ?_
   obtain ⟨_,(rfl|⟨av,ap,ac,bb,rfl,R,bv,cJ,cv,co,cA⟩|⟨ba,aH,ak,aW,L,Z,bg,be,rfl,P,ct,cx,bG,ce,b9,bw,bU,cp⟩),G7⟩:=Vp @J f depth loop pure aZ 1 (it-1) bl H C j q call z B W6 N (MS.mv A) (by subst_vars;exact AK.one asm om)
   ·refine ch G7 ?_
    exact Ag ⟨[1,H,C,j,q],[],[W6,N],[]⟩ (.inr (.inr ((⟨aj,_,_,_,_,_,_,_,rfl,(MS.mv A),(by first|assumption|(subst_vars;exact AK.one asm om)),A5,kn,kn,kn,kn,kn,kn⟩))))
   ·refine cm G7 ?_
    refine ch G7 ?_
    have ⟨_,_,bN,bH,b2,cE,cq,b3,_,_,_⟩:=R
    exact Ag ⟨[av,ap,C,j,ac],[],[bb,N],[]⟩ (.inr (.inr ((⟨aj,_,_,_,_,_,_,_,rfl,(MS.mv R),(by first|assumption|(subst_vars;exact AK.one asm om)),A5,kn,kn,kn,kn,kn,kn⟩))))
   refine cm G7 ?_
   refine cm G7 ?_
   refine ch G7 ?_
   have ⟨_,_,bA,cy,cd,bW,bQ,cz,_,_,_⟩:=P
   exact Ag ⟨[aH,ak,aW,L,Z],[],[bg,be],[]⟩ (.inr (.inr ((⟨ba,_,_,_,_,_,_,_,rfl,(MS.mv P),(by first|assumption|(subst_vars;exact AK.one asm om)),A5,kn,kn,kn,kn,kn,kn⟩))))
  exact Ag v0 (.inl rfl)
 exact Ag v0 (.inl rfl)
def AoM (Q N:Nat):Prop:=∀{m:Nat} (X:FX false Q m) {Γ:Ctx} {K M:Int} {J:Ctx} {z:Int} (f depth:Int) (loop pure:Int) (P I:Int) (it bl:Int) (pos C:Int) (count left:Int) (call q:Int) (R B V:Rs) (Y:MS false Γ f K M bl pos C count left call q B V) (Z:AK loop pure (depth+1) J Γ z left R) (h:0<=depth/\depth<=2/\(pure=0∨pure=1)/\(loop=0∨loop=1)/\depth.toNat<m/\it<=10/\I=R.length/\I+it<=20/\0<=I:=by exact kn),Ok trees N ⟨[f,depth,loop,pure,P,I,it,bl,pos,C,count,left,call,q],[],[R,B,V],[]⟩ fun L=>(∃(v j left':Int),∃(A:Rs),L=(0,(⟨[v,j,left'],[],[A],[]⟩:Aj))/\(MS false Γ f K M bl j C count left' call q B V)/\(AK loop pure (depth+1) J Γ z left' A)/\(v=A.length)/\(v<=20)/\(left'<=left)/\(j+300*left'<=pos+300*left))∨(L=(1,v0))∨(∃(U:Ctx),∃(v j H x left':Int),∃(A O:Rs),L=(2,(⟨[v,j,H,x,left'],[],[A,O],[]⟩:Aj))/\(MS false U f K M bl j H x left' call q B O)/\(AK loop pure (depth+1) J U z left' A)/\(Ext C V O)/\(count<=x)/\(C<=H)/\(v=A.length)/\(v<=20)/\(left'<=left)/\(j+300*left'<=pos+300*left))
theorem Aoe:AoM 12 71:=by
 intro m L Γ K M Γ0 bK f depth loop pure a3 rl it bl pos vl count left call z R B V hM I h
 have ⟨hm,dc,c2,c5,c3,dh,dd,c6,c4,c8,di⟩:=hM;have ⟨hB,hl,hvl,GN,hV,hb,hc,hd⟩:=hm;have c7:G 3=40:=rfl;have db:G 2=12:=rfl;have c9:G (3-1)=12:=rfl
 refine .of (t:=AeO) rfl ?_
 conv=>arg 3;reduce
 refine gt it 0 (fun t1=>?_) fun t1=>?_
 ·refine gt left 0 (fun t2=>?_) fun t2=>?_
  ·obtain ⟨_,(⟨bh,a7,a4,aH,aU,ay,aF,aP,aC,aB,aK,aX,aG,aJ,aO,J,v,bb,aN,aW,ax,ai,aq,ag,rfl,x,bE,bV,cO,cQ,cz,bP,b3⟩|⟨an,bm,bo,bk,aQ,aV,a2,aR,aA,aZ,aY,aM,H,C,j,q,bn,aD,ap,au,al,ak,O,rfl,A,b0,cJ,b1,b4,b7,bv,bO,bN,cE,bt⟩),G3⟩:=L f depth 0 loop pure bl pos vl count left call z B V (MS.mv hM) kn
   ·refine ch G3 ?_
    have ⟨_,_,bW,bU,cR,cF,cj,cb,_,_,_⟩:=x
    refine ll aP ax ?_
    refine ll aG ai ?_
    refine ll aJ aq ?_
    refine ll aO ag ?_
    refine dL (R++[AT bh a7 0 a4 bb aH aU ay aN aF ax aC aB aK aW aX ai aq ag]) (fun W4 e4=>?_) (Bq rfl pe)
    have f4:=cL e4;try simp only [lA,lC,lN,lT']at f4
    refine Er (W4.length:Int) 1048576 ?_
    obtain ⟨_,(rfl|⟨aE,af,aa,ba,rfl,U,ce,cc,cq,b9,bM⟩|⟨a8,aI,ah,a1,P,Z,a6,bc,rfl,Y,b2,cU,bL,cM,cI,cT,bH,cv⟩),G5⟩:=Vp @L f depth loop pure a3 (W4.length:Int) (it-1) bl J vl count v call z B W4 V (MS.mv x) (by subst_vars;exact AK.snoc I asm)
    ·refine ch G5 ?_
     exact Ag ⟨[(W4.length:Int),J,v],[],[W4],[]⟩ (.inl (⟨_,_,_,_,rfl,(MS.mv x),(by first|assumption|(subst_vars;exact AK.snoc I asm)),kn,kn,kn,kn⟩))
    ·refine cm G5 ?_
     refine ch G5 ?_
     have ⟨_,_,bR,cf,cP,cp,co,bS,_,_,_⟩:=U
     exact Ag ⟨[aE,af,aa],[],[ba],[]⟩ (.inl (⟨_,_,_,_,rfl,(MS.mv U),(by first|assumption|(subst_vars;exact AK.snoc I asm)),kn,kn,kn,kn⟩))
    refine cm G5 ?_
    refine cm G5 ?_
    refine ch G5 ?_
    have ⟨_,_,cS,bD,cG,cx,bY,bA,_,_,_⟩:=Y
    exact Ag ⟨[aI,ah,a1,P,Z],[],[a6,bc],[]⟩ (.inr (.inr ((⟨a8,_,_,_,_,_,_,_,rfl,(MS.mv Y),(by first|assumption|(subst_vars;exact AK.snoc I asm)),A5,kn,kn,kn,kn,kn,kn⟩))))
   refine cm G3 ?_
   refine ch G3 ?_
   have ⟨_,_,bG,b8,bw,bF,bB,cK,_,_,_⟩:=A
   refine ll aA ap ?_
   refine ll aZ au ?_
   refine ll aY al ?_
   refine ll aM ak ?_
   refine dL (R++[AT bm 0 bo bk bn aQ aV a2 aD aR ap 0 0 0 [] 0 au al ak]) (fun W6 e6=>?_) (Bq rfl pe)
   have f6:=cL e6;try simp only [lA,lC,lN,lT']at f6
   refine Er (W6.length:Int) 1048576 ?_
   obtain ⟨_,(rfl|⟨az,av,ae,bg,rfl,X,bx,cN,cy,cr,cD⟩|⟨be,aL,ao,a0,N,ab,bj,bi,rfl,Q,cw,cA,bI,ci,cd,bz,bX,ct⟩),G7⟩:=Vp @L f depth loop pure a3 (W6.length:Int) (it-1) bl H C j q call z B W6 O (MS.mv A) (by subst_vars;exact AK.snoc I asm)
   ·refine ch G7 ?_
    exact Ag ⟨[(W6.length:Int),H,C,j,q],[],[W6,O],[]⟩ (.inr (.inr ((⟨an,_,_,_,_,_,_,_,rfl,(MS.mv A),(by first|assumption|(subst_vars;exact AK.snoc I asm)),A5,kn,kn,kn,kn,kn,kn⟩))))
   ·refine cm G7 ?_
    refine ch G7 ?_
    have ⟨_,_,bQ,bJ,b5,cH,cu,b6,_,_,_⟩:=X
    exact Ag ⟨[az,av,C,j,ae],[],[bg,O],[]⟩ (.inr (.inr ((⟨an,_,_,_,_,_,_,_,rfl,(MS.mv X),(by first|assumption|(subst_vars;exact AK.snoc I asm)),A5,kn,kn,kn,kn,kn,kn⟩))))
   refine cm G7 ?_
   refine cm G7 ?_
   refine ch G7 ?_
   have ⟨_,_,bC,cB,cg,bZ,bT,cC,_,_,_⟩:=Q
   exact Ag ⟨[aL,ao,a0,N,ab],[],[bj,bi],[]⟩ (.inr (.inr ((⟨be,_,_,_,_,_,_,_,rfl,(MS.mv Q),(by first|assumption|(subst_vars;exact AK.snoc I asm)),A5,kn,kn,kn,kn,kn,kn⟩))))
  exact Ag v0 (.inr (.inl rfl))
 exact Ag v0 (.inr (.inl rfl))
theorem Ahh:Yc false 12 58:=by
 intro m ae Γ K M f depth loop pure bl pos j count left call v B V U h
 have ⟨hm,bB,bw,bF,bD,bG,bC,bI,bE,bx,bH⟩:=U;have ⟨hB,hl,hvl,GN,hV,hb,hc,hd⟩:=hm;have bJ:G 3=40:=rfl;have bA:G 2=12:=rfl;have bz:G (3-1)=12:=rfl
 refine .of (t:=AeW) rfl ?_
 conv=>arg 3;reduce
 obtain ⟨_,⟨al,q,rfl,bn,bt,br⟩,G1⟩:=Ln hB hl pos j count left call v V
 refine ch G1 ?_
 obtain ⟨_,(rfl|⟨L,ah,X,af,rfl,A,bg,aU,aM,au,aQ⟩|⟨bq,C,ab,ak,x,R,aa,an,rfl,I,ba,aA,a7,aK,bc,a3,aG,bi⟩),Z⟩:=Aog @ae f depth loop pure j (1+(al%3)) bl q j count left call v B V (MS.mv U)
 ·refine ch Z ?_
  refine CO j 0 ?_
  refine Er j j ?_
  refine de [] ?_
  refine ll 0 [] ?_
  refine fr ?_
  obtain ⟨_,(⟨N,ag,P,ac,rfl,H,aD,aV,a1,a6,aJ⟩|rfl|⟨bv,J,ai,aj,z,Y,ad,ao,rfl,O,bj,aN,a0,a5,aY,bb,aw,aP⟩),Q⟩:=Aoe @ae f depth loop pure j 0 (1+(al%3)) bl q j count left call v [] B V (MS.mv U) (AK.nil (left:=left) om)
  ·refine ch Q ?_
   have ⟨_,_,aW,aR,be,aL,ay,bh,_,_,_⟩:=H
   refine ll N ac ?_
   refine fr ?_
   exact Ag ⟨[N,ag,P],[],[ac],[]⟩ (.inl (⟨_,_,_,_,rfl,(MS.mv H),(by first|exact Iw.nil om|exact Iw.mk asm),kn,kn,kn⟩))
  ·refine cm Q ?_
   refine ch Q ?_
   exact Ag ⟨[0,q,left],[],[[]],[]⟩ (.inl (⟨_,_,_,_,rfl,(MS.mv U),(by first|exact Iw.nil om|exact Iw.mk asm),kn,kn,kn⟩))
  refine cm Q ?_
  refine cm Q ?_
  refine ch Q ?_
  have ⟨_,_,a9,a2,bk,aB,aO,aC,_,_,_⟩:=O
  refine Er j aj ?_
  refine ll J ad ?_
  refine fr ?_
  exact Ag ⟨[J,ai,j,z,Y],[],[ad,ao],[]⟩ (.inr ((⟨_,_,_,_,_,_,rfl,(MS.back U (MS.mv O) asm om),(by first|exact Iw.nil om|exact Iw.mk asm),A5,kn,kn,kn,kn⟩)))
 ·refine cm Z ?_
  refine ch Z ?_
  have ⟨_,_,aI,aF,aX,ax,aZ,aH,_,_,_⟩:=A
  refine CO j 0 ?_
  refine Er j j ?_
  refine ll L af ?_
  refine fr ?_
  exact Ag ⟨[L,ah,X],[],[af],[]⟩ (.inl (⟨_,_,_,_,rfl,(MS.mv A),(by first|exact Iw.nil om|exact Iw.mk asm),kn,kn,kn⟩))
 refine cm Z ?_
 refine cm Z ?_
 refine ch Z ?_
 have ⟨_,_,a8,aE,az,a4,av,aq,_,_,_⟩:=I
 refine CO j 0 ?_
 refine Er j ak ?_
 refine ll C aa ?_
 refine fr ?_
 exact Ag ⟨[C,ab,j,x,R],[],[aa,an],[]⟩ (.inr ((⟨_,_,_,_,_,_,rfl,(MS.back U (MS.mv I) asm om),(by first|exact Iw.nil om|exact Iw.mk asm),A5,kn,kn,kn,kn⟩)))
theorem Rz:Ad8 false 12:=@U9 false 1 12 12 8 14 15 16 17 18 19 58 8 58 rfl @Ln @Aho @Ao3 @IS @Ov @Ao2 @Ahn @Ahh @Ln @Ahh (fun _ h=>h)
def Apq (U N:Nat) (m n:Nat):Prop:=∀{Γ:Ctx} {K M:Int} {J:Ctx} {z:Int} (f depth:Int) (loop pure:Int) (P I:Int) (it bl:Int) (pos C:Int) (count left:Int) (call q:Int) (B V R:Rs) (X:MS true Γ f K M bl pos C count left call q B V) (Y:AK loop pure (depth+1) J Γ z left R) (h:0<=depth/\depth<=2/\(pure=0∨pure=1)/\(loop=0∨loop=1)/\depth.toNat<m/\it<=10/\I=R.length/\I+it<=20/\0<=I/\it.toNat<n),Ok trees N ⟨[f,depth,loop,pure,P,I,it,bl,pos,C,count,left,call,q],[],[B,V,R],[]⟩ fun L=>(L=(0,v0))∨(∃(v j left':Int),∃(A:Rs),L=(1,(⟨[v,j,left'],[],[A],[]⟩:Aj))/\(MS true Γ f K M bl j C count left' call q B V)/\(AK loop pure (depth+1) J Γ z left' A)/\(v=A.length)/\(v<=20)/\(left'<=left)/\(j+300*left'<=pos+300*left))∨(∃(Q:Ctx),∃(v j H x left':Int),∃(A O:Rs),L=(2,(⟨[v,j,H,x,left'],[],[A,O],[]⟩:Aj))/\(MS false Q f K M bl j H x left' call q B O)/\(AK loop pure (depth+1) J Q z left' A)/\(Ext C V O)/\(count<=x)/\(C<=H)/\(v=A.length)/\(v<=20)/\(left'<=left)/\(j+300*left'<=pos+300*left))
def AoP (Q N:Nat):Prop:=∀{m:Nat} (X:FX true Q m) {Γ:Ctx} {K M:Int} {J:Ctx} {z:Int} (f depth:Int) (loop pure:Int) (P I:Int) (it bl:Int) (pos C:Int) (count left:Int) (call q:Int) (B V R:Rs) (Y:MS true Γ f K M bl pos C count left call q B V) (Z:AK loop pure (depth+1) J Γ z left R) (h:0<=depth/\depth<=2/\(pure=0∨pure=1)/\(loop=0∨loop=1)/\depth.toNat<m/\it<=10/\I=R.length/\I+it<=20/\0<=I:=by exact kn),Ok trees N ⟨[f,depth,loop,pure,P,I,it,bl,pos,C,count,left,call,q],[],[B,V,R],[]⟩ fun L=>(L=(0,v0))∨(∃(v j left':Int),∃(A:Rs),L=(1,(⟨[v,j,left'],[],[A],[]⟩:Aj))/\(MS true Γ f K M bl j C count left' call q B V)/\(AK loop pure (depth+1) J Γ z left' A)/\(v=A.length)/\(v<=20)/\(left'<=left)/\(j+300*left'<=pos+300*left))∨(∃(U:Ctx),∃(v j H x left':Int),∃(A O:Rs),L=(2,(⟨[v,j,H,x,left'],[],[A,O],[]⟩:Aj))/\(MS false U f K M bl j H x left' call q B O)/\(AK loop pure (depth+1) J U z left' A)/\(Ext C V O)/\(count<=x)/\(C<=H)/\(v=A.length)/\(v<=20)/\(left'<=left)/\(j+300*left'<=pos+300*left))
theorem Anz {m:Nat} (ba:FX true 13 m) (n:Nat):Apq 13 66 m n:=by
 induction n with
 |zero=>intro Γ K M Γ0 aC f depth loop pure ao rl it bl pos vl count left call q B V R hM z h;exact absurd h.2.2.2.2.2.2.2.2.2 (Nat.not_lt_zero _)
 |succ n ih=>
 intro Γ K M Γ0 aC f depth loop pure ao rl it bl pos vl count left call q B V R hM z h
 have ⟨hm,dh,c4,c7,c5,dj,di,c8,c6,db,dk⟩:=hM;have ⟨hB,hl,hvl,GN,hV,hb,hc,hd⟩:=hm;have c9:G 3=40:=rfl;have dd:G 2=12:=rfl;have dc:G (3-1)=12:=rfl
 refine .of (t:=AeQ) rfl ?_
 conv=>arg 3;reduce
 refine gt it 0 (fun t1=>?_) fun t1=>?_
 ·refine gt left 0 (fun t2=>?_) fun t2=>?_
  ·obtain ⟨_,(⟨bk,a8,a5,aJ,aW,ay,aH,aR,aD,aB,aM,aZ,aI,aL,aQ,J,x,bg,aP,aY,ax,ah,aq,af,rfl,A,bG,bW,cP,cR,cA,bQ,b4⟩|⟨al,br,bv,bq,aU,aX,a4,aV,aA,a1,a0,aO,I,H,j,v,bt,aE,ap,au,ak,aj,N,rfl,C,b1,cK,b2,b5,b8,bx,bP,bO,cF,bw⟩),G3⟩:=ba f depth 0 loop pure bl pos vl count left call q B V (MS.mv hM) kn
   ·refine ch G3 ?_
    have ⟨_,_,bX,bV,cS,cG,co,cc,_,_,_⟩:=A
    refine ll aR ax ?_
    refine ll aI ah ?_
    refine ll aL aq ?_
    refine ll aQ af ?_
    refine dL (R++[AT bk a8 0 a5 bg aJ aW ay aP aH ax aD aB aM aY aZ ah aq af]) (fun W4 e4=>?_) (Bq (pw rl R) pe)
    have f4:=cL e4;try simp only [lA,lC,lN,lT']at f4
    refine Er (W4.length:Int) 1048576 ?_
    obtain ⟨_,(rfl|⟨aF,ae,Z,bc,rfl,Q,cf,cd,cr,cb,bN⟩|⟨bb,aK,ag,a3,O,Y,a7,bh,rfl,X,b3,cV,bM,cN,cJ,cU,bJ,cw⟩),G5⟩:=ih f depth loop pure ao (W4.length:Int) (it-1) bl J vl count x call q B V W4 (MS.mv A) (by subst_vars;exact AK.snoc z asm) kn
    ·refine ch G5 ?_
     exact Ag ⟨[(W4.length:Int),J,x],[],[W4],[]⟩ (.inr (.inl (⟨_,_,_,_,rfl,(MS.mv A),(by first|assumption|(subst_vars;exact AK.snoc z asm)),kn,kn,kn,kn⟩)))
    ·refine cm G5 ?_
     refine ch G5 ?_
     have ⟨_,_,bS,cg,cQ,cq,cp,bT,_,_,_⟩:=Q
     exact Ag ⟨[aF,ae,Z],[],[bc],[]⟩ (.inr (.inl (⟨_,_,_,_,rfl,(MS.mv Q),(by first|assumption|(subst_vars;exact AK.snoc z asm)),kn,kn,kn,kn⟩)))
    refine cm G5 ?_
    refine cm G5 ?_
    refine ch G5 ?_
    have ⟨_,_,cT,bF,cH,cy,bZ,bC,_,_,_⟩:=X
    exact Ag ⟨[aK,ag,a3,O,Y],[],[a7,bh],[]⟩ (.inr (.inr ((⟨bb,_,_,_,_,_,_,_,rfl,(MS.mv X),(by first|assumption|(subst_vars;exact AK.snoc z asm)),A5,kn,kn,kn,kn,kn,kn⟩))))
   refine cm G3 ?_
   refine ch G3 ?_
   have ⟨_,_,bI,b9,bz,bH,bD,cM,_,_,_⟩:=C
   refine ll aA ap ?_
   refine ll a1 au ?_
   refine ll a0 ak ?_
   refine ll aO aj ?_
   refine dL (R++[AT br 0 bv bq bt aU aX a4 aE aV ap 0 0 0 [] 0 au ak aj]) (fun W6 e6=>?_) (Bq (pw rl R) pe)
   have f6:=cL e6;try simp only [lA,lC,lN,lT']at f6
   refine Er (W6.length:Int) 1048576 ?_
   obtain ⟨_,(rfl|⟨az,av,ad,bj,rfl,U,bA,cO,cz,ct,cE⟩|⟨bi,aN,an,a2,L,aa,bo,bm,rfl,P,cx,cB,bK,cj,ce,bB,bY,cu⟩),G7⟩:=Vp (FX.of (n:=10) @Rz) f depth loop pure ao (W6.length:Int) (it-1) bl I H j v call q B W6 N (MS.mv C) (by subst_vars;exact AK.snoc z asm)
   ·refine ch G7 ?_
    exact Ag ⟨[(W6.length:Int),I,H,j,v],[],[W6,N],[]⟩ (.inr (.inr ((⟨al,_,_,_,_,_,_,_,rfl,(MS.mv C),(by first|assumption|(subst_vars;exact AK.snoc z asm)),A5,kn,kn,kn,kn,kn,kn⟩))))
   ·refine cm G7 ?_
    refine ch G7 ?_
    have ⟨_,_,bR,bL,b6,cI,cv,b7,_,_,_⟩:=U
    exact Ag ⟨[az,av,H,j,ad],[],[bj,N],[]⟩ (.inr (.inr ((⟨al,_,_,_,_,_,_,_,rfl,(MS.mv U),(by first|assumption|(subst_vars;exact AK.snoc z asm)),A5,kn,kn,kn,kn,kn,kn⟩))))
   refine cm G7 ?_
   refine cm G7 ?_
   refine ch G7 ?_
   have ⟨_,_,bE,cC,ci,b0,bU,cD,_,_,_⟩:=P
   exact Ag ⟨[aN,an,a2,L,aa],[],[bo,bm],[]⟩ (.inr (.inr ((⟨bi,_,_,_,_,_,_,_,rfl,(MS.mv P),(by first|assumption|(subst_vars;exact AK.snoc z asm)),A5,kn,kn,kn,kn,kn,kn⟩))))
  exact Ag v0 (.inl rfl)
 exact Ag v0 (.inl rfl)
theorem Ak8:AoP 13 66:=fun {m} hC12 {Γ} {K} {M} {Γ0} {left0} f depth loop pure vn0 rl it bl pos vl count left call loads B V R hM hL h=>Anz @hC12 (it.toNat+1) f depth loop pure vn0 rl it bl pos vl count left call loads B V R hM hL ⟨h.1,h.2.1,h.2.2.1,h.2.2.2.1,h.2.2.2.2.1,h.2.2.2.2.2.1,h.2.2.2.2.2.2.1,h.2.2.2.2.2.2.2.1,h.2.2.2.2.2.2.2.2,Nat.lt_succ_self _⟩
def AoR (J N:Nat):Prop:=∀{m:Nat} (O:FX true J m) {Γ:Ctx} {K M:Int} (f depth:Int) (loop pure:Int) (vn0 it:Int) (C pos:Int) (z count:Int) (left call loads:Int) (B V:Rs) (P:MS true Γ f K M C pos z count left call loads B V) (h:0<=depth/\depth<=2/\(pure=0∨pure=1)/\(loop=0∨loop=1)/\depth.toNat<m/\it<=10:=by exact kn),Ok trees N ⟨[f,depth,loop,pure,vn0,it,C,pos,z,count,left,call,loads],[],[B,V],[]⟩ fun H=>(H=(0,v0))∨(∃(v j left':Int),∃(x:Rs),H=(1,(⟨[v,j,left'],[],[x],[]⟩:Aj))/\(MS true Γ f K M C j z count left' call loads B V)/\(AK loop pure (depth+1) Γ Γ left left' x)/\(v=x.length)/\(v<=20)/\(left'<=left)/\(j+300*left'<=pos+300*left))∨(∃(L:Ctx),∃(v j A q left':Int),∃(x I:Rs),H=(2,(⟨[v,j,A,q,left'],[],[x,I],[]⟩:Aj))/\(MS false L f K M C j A q left' call loads B I)/\(AK loop pure (depth+1) Γ L left left' x)/\(Ext z V I)/\(count<=q)/\(z<=A)/\(v=x.length)/\(v<=20)/\(left'<=left)/\(j+300*left'<=pos+300*left))
theorem Aof:AoR 13 63:=by
 intro m ag Γ K M f depth loop pure aZ it bl pos vl count left call z B V hM h
 have ⟨hm,c8,cY,c2,cZ,db,c9,c3,c1,c5,dc⟩:=hM;have ⟨hB,hl,hvl,GN,hV,hb,hc,hd⟩:=hm;have c4:G 3=40:=rfl;have c7:G 2=12:=rfl;have c6:G (3-1)=12:=rfl
 refine .of (t:=AeS) rfl ?_
 conv=>arg 3;reduce
 refine gt it 0 (fun t1=>?_) fun t1=>?_
 ·refine gt left 0 (fun t2=>?_) fun t2=>?_
  ·obtain ⟨_,(⟨bc,a4,a0,aD,aO,au,aB,aL,ay,ax,aG,aR,aC,aF,aK,I,v,a8,aJ,aQ,aq,af,an,ad,rfl,x,bC,bS,cK,cN,cw,bM,b0⟩|⟨aj,bi,bk,bh,aM,aP,aY,aN,aw,aV,aU,aI,H,C,j,q,bj,az,al,ao,ai,ah,L,rfl,A,bX,cG,bY,b1,b4,br,bL,bK,cB,bq⟩),G3⟩:=ag f depth 0 loop pure bl pos vl count left call z B V (MS.mv hM) kn
   ·refine ch G3 ?_
    have ⟨_,_,bT,bR,cO,cC,cf,b7,_,_,_⟩:=x
    refine ll aL aq ?_
    refine ll aC af ?_
    refine ll aF an ?_
    refine ll aK ad ?_
    refine dL [AT bc a4 0 a0 a8 aD aO au aJ aB aq ay ax aG aQ aR af an ad] (fun W4 e4=>?_)
    have f4:=cL e4;try simp only [lA,lC,lN,lT']at f4
    refine ll 1 W4 ?_
    obtain ⟨_,(rfl|⟨aA,ac,X,a7,rfl,P,cb,b8,cj,b6,bJ⟩|⟨a5,aE,ae,aX,N,U,a2,a9,rfl,R,bZ,cR,bI,cI,cF,cQ,bF,cr⟩),G5⟩:=Ak8 @ag f depth loop pure aZ 1 (it-1) bl I vl count v call z B V W4 (MS.mv x) (by subst_vars;exact AK.one asm om)
    ·refine ch G5 ?_
     exact Ag ⟨[1,I,v],[],[W4],[]⟩ (.inr (.inl (⟨_,_,_,_,rfl,(MS.mv x),(by first|assumption|(subst_vars;exact AK.one asm om)),kn,kn,kn,kn⟩)))
    ·refine cm G5 ?_
     refine ch G5 ?_
     have ⟨_,_,bO,cc,cM,ci,cg,bP,_,_,_⟩:=P
     exact Ag ⟨[aA,ac,X],[],[a7],[]⟩ (.inr (.inl (⟨_,_,_,_,rfl,(MS.mv P),(by first|assumption|(subst_vars;exact AK.one asm om)),kn,kn,kn,kn⟩)))
    refine cm G5 ?_
    refine cm G5 ?_
    refine ch G5 ?_
    have ⟨_,_,cP,bB,cD,cu,bV,bx,_,_,_⟩:=R
    exact Ag ⟨[aE,ae,aX,N,U],[],[a2,a9],[]⟩ (.inr (.inr ((⟨a5,_,_,_,_,_,_,_,rfl,(MS.mv R),(by first|assumption|(subst_vars;exact AK.one asm om)),A5,kn,kn,kn,kn,kn,kn⟩))))
   refine cm G3 ?_
   refine ch G3 ?_
   have ⟨_,_,bE,b5,bt,bD,bz,cH,_,_,_⟩:=A
   refine ll aw al ?_
   refine ll aV ao ?_
   refine ll aU ai ?_
   refine ll aI ah ?_
   refine dL [AT bi 0 bk bh bj aM aP aY az aN al 0 0 0 [] 0 ao ai ah] (fun W6 e6=>?_)
   have f6:=cL e6;try simp only [lA,lC,lN,lT']at f6
   refine ll 1 W6 ?_
   obtain ⟨_,(rfl|⟨av,ap,ab,bb,rfl,Q,bv,cJ,cv,co,cA⟩|⟨ba,aH,ak,aW,J,Y,bg,be,rfl,O,ct,cx,bG,ce,b9,bw,bU,cp⟩),Z⟩:=Vp (FX.of (n:=10) @Rz) f depth loop pure aZ 1 (it-1) bl H C j q call z B W6 L (MS.mv A) (by subst_vars;exact AK.one asm om)
   ·refine ch Z ?_
    exact Ag ⟨[1,H,C,j,q],[],[W6,L],[]⟩ (.inr (.inr ((⟨aj,_,_,_,_,_,_,_,rfl,(MS.mv A),(by first|assumption|(subst_vars;exact AK.one asm om)),A5,kn,kn,kn,kn,kn,kn⟩))))
   ·refine cm Z ?_
    refine ch Z ?_
    have ⟨_,_,bN,bH,b2,cE,cq,b3,_,_,_⟩:=Q
    exact Ag ⟨[av,ap,C,j,ab],[],[bb,L],[]⟩ (.inr (.inr ((⟨aj,_,_,_,_,_,_,_,rfl,(MS.mv Q),(by first|assumption|(subst_vars;exact AK.one asm om)),A5,kn,kn,kn,kn,kn,kn⟩))))
   refine cm Z ?_
   refine cm Z ?_
   refine ch Z ?_
   have ⟨_,_,bA,cy,cd,bW,bQ,cz,_,_,_⟩:=O
   exact Ag ⟨[aH,ak,aW,J,Y],[],[bg,be],[]⟩ (.inr (.inr ((⟨ba,_,_,_,_,_,_,_,rfl,(MS.mv O),(by first|assumption|(subst_vars;exact AK.one asm om)),A5,kn,kn,kn,kn,kn,kn⟩))))
  exact Ag v0 (.inl rfl)
 exact Ag v0 (.inl rfl)
def AoL (Q N:Nat):Prop:=∀{m:Nat} (X:FX true Q m) {Γ:Ctx} {K M:Int} {J:Ctx} {z:Int} (f depth:Int) (loop pure:Int) (P I:Int) (it bl:Int) (pos C:Int) (count left:Int) (call q:Int) (R B V:Rs) (Y:MS true Γ f K M bl pos C count left call q B V) (Z:AK loop pure (depth+1) J Γ z left R) (h:0<=depth/\depth<=2/\(pure=0∨pure=1)/\(loop=0∨loop=1)/\depth.toNat<m/\it<=10/\I=R.length/\I+it<=20/\0<=I:=by exact kn),Ok trees N ⟨[f,depth,loop,pure,P,I,it,bl,pos,C,count,left,call,q],[],[R,B,V],[]⟩ fun L=>(∃(v j left':Int),∃(A:Rs),L=(0,(⟨[v,j,left'],[],[A],[]⟩:Aj))/\(MS true Γ f K M bl j C count left' call q B V)/\(AK loop pure (depth+1) J Γ z left' A)/\(v=A.length)/\(v<=20)/\(left'<=left)/\(j+300*left'<=pos+300*left))∨(L=(1,v0))∨(∃(U:Ctx),∃(v j H x left':Int),∃(A O:Rs),L=(2,(⟨[v,j,H,x,left'],[],[A,O],[]⟩:Aj))/\(MS false U f K M bl j H x left' call q B O)/\(AK loop pure (depth+1) J U z left' A)/\(Ext C V O)/\(count<=x)/\(C<=H)/\(v=A.length)/\(v<=20)/\(left'<=left)/\(j+300*left'<=pos+300*left))
theorem Aod:AoL 13 72:=by
 intro m aj Γ K M Γ0 bK f depth loop pure a3 rl it bl pos vl count left call z R B V hM I h
 have ⟨hm,dc,c2,c5,c3,dh,dd,c6,c4,c8,di⟩:=hM;have ⟨hB,hl,hvl,GN,hV,hb,hc,hd⟩:=hm;have c7:G 3=40:=rfl;have db:G 2=12:=rfl;have c9:G (3-1)=12:=rfl
 refine .of (t:=AeN) rfl ?_
 conv=>arg 3;reduce
 refine gt it 0 (fun t1=>?_) fun t1=>?_
 ·refine gt left 0 (fun t2=>?_) fun t2=>?_
  ·obtain ⟨_,(⟨bh,a7,a4,aH,aU,ay,aF,aP,aC,aB,aK,aX,aG,aJ,aO,J,v,bb,aN,aW,ax,ah,aq,af,rfl,x,bE,bV,cO,cQ,cz,bP,b3⟩|⟨an,bm,bo,bk,aQ,aV,a2,aR,aA,aZ,aY,aM,H,C,j,q,bn,aD,ap,au,al,ak,N,rfl,A,b0,cJ,b1,b4,b7,bv,bO,bN,cE,bt⟩),G3⟩:=aj f depth 0 loop pure bl pos vl count left call z B V (MS.mv hM) kn
   ·refine ch G3 ?_
    have ⟨_,_,bW,bU,cR,cF,cj,cb,_,_,_⟩:=x
    refine ll aP ax ?_
    refine ll aG ah ?_
    refine ll aJ aq ?_
    refine ll aO af ?_
    refine dL (R++[AT bh a7 0 a4 bb aH aU ay aN aF ax aC aB aK aW aX ah aq af]) (fun W4 e4=>?_) (Bq rfl pe)
    have f4:=cL e4;try simp only [lA,lC,lN,lT']at f4
    refine Er (W4.length:Int) 1048576 ?_
    obtain ⟨_,(rfl|⟨aE,ae,Z,ba,rfl,Q,ce,cc,cq,b9,bM⟩|⟨a8,aI,ag,a1,O,Y,a6,bc,rfl,X,b2,cU,bL,cM,cI,cT,bH,cv⟩),G5⟩:=Ak8 @aj f depth loop pure a3 (W4.length:Int) (it-1) bl J vl count v call z B V W4 (MS.mv x) (by subst_vars;exact AK.snoc I asm)
    ·refine ch G5 ?_
     exact Ag ⟨[(W4.length:Int),J,v],[],[W4],[]⟩ (.inl (⟨_,_,_,_,rfl,(MS.mv x),(by first|assumption|(subst_vars;exact AK.snoc I asm)),kn,kn,kn,kn⟩))
    ·refine cm G5 ?_
     refine ch G5 ?_
     have ⟨_,_,bR,cf,cP,cp,co,bS,_,_,_⟩:=Q
     exact Ag ⟨[aE,ae,Z],[],[ba],[]⟩ (.inl (⟨_,_,_,_,rfl,(MS.mv Q),(by first|assumption|(subst_vars;exact AK.snoc I asm)),kn,kn,kn,kn⟩))
    refine cm G5 ?_
    refine cm G5 ?_
    refine ch G5 ?_
    have ⟨_,_,cS,bD,cG,cx,bY,bA,_,_,_⟩:=X
    exact Ag ⟨[aI,ag,a1,O,Y],[],[a6,bc],[]⟩ (.inr (.inr ((⟨a8,_,_,_,_,_,_,_,rfl,(MS.mv X),(by first|assumption|(subst_vars;exact AK.snoc I asm)),A5,kn,kn,kn,kn,kn,kn⟩))))
   refine cm G3 ?_
   refine ch G3 ?_
   have ⟨_,_,bG,b8,bw,bF,bB,cK,_,_,_⟩:=A
   refine ll aA ap ?_
   refine ll aZ au ?_
   refine ll aY al ?_
   refine ll aM ak ?_
   refine dL (R++[AT bm 0 bo bk bn aQ aV a2 aD aR ap 0 0 0 [] 0 au al ak]) (fun W6 e6=>?_) (Bq rfl pe)
   have f6:=cL e6;try simp only [lA,lC,lN,lT']at f6
   refine Er (W6.length:Int) 1048576 ?_
   obtain ⟨_,(rfl|⟨az,av,ad,bg,rfl,U,bx,cN,cy,cr,cD⟩|⟨be,aL,ao,a0,L,aa,bj,bi,rfl,P,cw,cA,bI,ci,cd,bz,bX,ct⟩),G7⟩:=Vp (FX.of (n:=10) @Rz) f depth loop pure a3 (W6.length:Int) (it-1) bl H C j q call z B W6 N (MS.mv A) (by subst_vars;exact AK.snoc I asm)
   ·refine ch G7 ?_
    exact Ag ⟨[(W6.length:Int),H,C,j,q],[],[W6,N],[]⟩ (.inr (.inr ((⟨an,_,_,_,_,_,_,_,rfl,(MS.mv A),(by first|assumption|(subst_vars;exact AK.snoc I asm)),A5,kn,kn,kn,kn,kn,kn⟩))))
   ·refine cm G7 ?_
    refine ch G7 ?_
    have ⟨_,_,bQ,bJ,b5,cH,cu,b6,_,_,_⟩:=U
    exact Ag ⟨[az,av,C,j,ad],[],[bg,N],[]⟩ (.inr (.inr ((⟨an,_,_,_,_,_,_,_,rfl,(MS.mv U),(by first|assumption|(subst_vars;exact AK.snoc I asm)),A5,kn,kn,kn,kn,kn,kn⟩))))
   refine cm G7 ?_
   refine cm G7 ?_
   refine ch G7 ?_
   have ⟨_,_,bC,cB,cg,bZ,bT,cC,_,_,_⟩:=P
   exact Ag ⟨[aL,ao,a0,L,aa],[],[bj,bi],[]⟩ (.inr (.inr ((⟨be,_,_,_,_,_,_,_,rfl,(MS.mv P),(by first|assumption|(subst_vars;exact AK.snoc I asm)),A5,kn,kn,kn,kn,kn,kn⟩))))
  exact Ag v0 (.inr (.inl rfl))
 exact Ag v0 (.inr (.inl rfl))
theorem Aoh:Yc true 13 59:=by
 intro m ae Γ K M f depth loop pure bl pos j count left call v B V U h
 have ⟨hm,bB,bw,bF,bD,bG,bC,bI,bE,bx,bH⟩:=U;have ⟨hB,hl,hvl,GN,hV,hb,hc,hd⟩:=hm;have bJ:G 3=40:=rfl;have bA:G 2=12:=rfl;have bz:G (3-1)=12:=rfl
 refine .of (t:=AeV) rfl ?_
 conv=>arg 3;reduce
 obtain ⟨_,⟨al,q,rfl,bn,bt,br⟩,G1⟩:=XS hB hl pos j count left call v V
 refine ch G1 ?_
 obtain ⟨_,(rfl|⟨L,ah,X,af,rfl,A,bg,aU,aM,au,aQ⟩|⟨bq,C,ab,ak,x,R,aa,an,rfl,I,ba,aA,a7,aK,bc,a3,aG,bi⟩),Z⟩:=Aof @ae f depth loop pure j (1+(al%3)) bl q j count left call v B V (MS.mv U)
 ·refine ch Z ?_
  refine de [] ?_
  refine ll 0 [] ?_
  refine fr ?_
  obtain ⟨_,(⟨N,ag,P,ac,rfl,H,aD,aV,a1,a6,aJ⟩|rfl|⟨bv,J,ai,aj,z,Y,ad,ao,rfl,O,bj,aN,a0,a5,aY,bb,aw,aP⟩),Q⟩:=Aod @ae f depth loop pure j 0 (1+(al%3)) bl q j count left call v [] B V (MS.mv U) (AK.nil (left:=left) om)
  ·refine ch Q ?_
   have ⟨_,_,aW,aR,be,aL,ay,bh,_,_,_⟩:=H
   refine ll N ac ?_
   refine fr ?_
   exact Ag ⟨[N,ag,P],[],[ac],[]⟩ (.inl (⟨_,_,_,_,rfl,(MS.mv H),(by first|exact Iw.nil om|exact Iw.mk asm),kn,kn,kn⟩))
  ·refine cm Q ?_
   refine ch Q ?_
   exact Ag ⟨[0,q,left],[],[[]],[]⟩ (.inl (⟨_,_,_,_,rfl,(MS.mv U),(by first|exact Iw.nil om|exact Iw.mk asm),kn,kn,kn⟩))
  refine cm Q ?_
  refine cm Q ?_
  refine ch Q ?_
  have ⟨_,_,a9,a2,bk,aB,aO,aC,_,_,_⟩:=O
  refine CO j 0 ?_
  refine Er j aj ?_
  refine ll J ad ?_
  refine fr ?_
  exact Ag ⟨[J,ai,j,z,Y],[],[ad,ao],[]⟩ (.inr ((⟨_,_,_,_,_,_,rfl,(MS.back U (MS.mv O) asm om),(by first|exact Iw.nil om|exact Iw.mk asm),A5,kn,kn,kn,kn⟩)))
 ·refine cm Z ?_
  refine ch Z ?_
  have ⟨_,_,aI,aF,aX,ax,aZ,aH,_,_,_⟩:=A
  refine ll L af ?_
  refine fr ?_
  exact Ag ⟨[L,ah,X],[],[af],[]⟩ (.inl (⟨_,_,_,_,rfl,(MS.mv A),(by first|exact Iw.nil om|exact Iw.mk asm),kn,kn,kn⟩))
 refine cm Z ?_
 refine cm Z ?_
 refine ch Z ?_
 have ⟨_,_,a8,aE,az,a4,av,aq,_,_,_⟩:=I
 refine CO j 0 ?_
 refine Er j ak ?_
 refine ll C aa ?_
 refine fr ?_
 exact Ag ⟨[C,ab,j,x,R],[],[aa,an],[]⟩ (.inr ((⟨_,_,_,_,_,_,rfl,(MS.back U (MS.mv I) asm om),(by first|exact Iw.nil om|exact Iw.mk asm),A5,kn,kn,kn,kn⟩)))
theorem Alg:Ad8 true 13:=@U9 true 0 13 12 9 20 21 22 23 24 25 59 8 58 rfl @XS @Ahm @Ao1 @Vq @Ao0 @Aoz @Ahl @Aoh @Ln @Ahh (fun _ _=>FX.of @Rz)
end
end Go.Proofs.YtbmofjdmgjpfoaaGreatDoor.Am
