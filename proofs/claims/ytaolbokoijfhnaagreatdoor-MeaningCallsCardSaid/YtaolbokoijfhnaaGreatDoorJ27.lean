/- Part 27 of MeaningCalls. -/
import Derived.Test.YtaolbokoijfhnaaGreatDoorJ16
import Derived.Test.YtaolbokoijfhnaaGreatDoorJ26
set_option linter.all false
namespace Go.Proofs.YtaolbokoijfhnaaGreatDoor.Am
section
set_option maxHeartbeats 4000000
set_option maxRecDepth 100000
open Go.AM Go.AM.K
def Aqy (U N:Nat) (m n:Nat):Prop:=∀{Γ:Ctx} {K M:Int} {O:Ctx} {z:Int} (f depth:Int) (loop pure:Int) (P I:Int) (it bl:Int) (pos C:Int) (count left:Int) (call q:Int) (B R V:Rs) (X:MS false Γ f K M bl pos C count left call q B V) (Y:AP loop pure (depth+1) O Γ z left R) (h:0<=depth/\depth<=2/\(pure=0∨pure=1)/\(loop=0∨loop=1)/\depth.toNat<m/\it<=10/\I=R.length/\I+it<=20/\0<=I/\it.toNat<n),Ok trees N ⟨[f,depth,loop,pure,P,I,it,bl,pos,C,count,left,call,q],[],[B,R,V],[]⟩ fun L=>(L=(0,v0))∨(∃(x j left':Int),∃(A:Rs),L=(1,(⟨[x,j,left'],[],[A],[]⟩:Aj))/\(MS false Γ f K M bl j C count left' call q B V)/\(AP loop pure (depth+1) O Γ z left' A)/\(x=A.length)/\(x<=20)/\(left'<=left)/\(j+300*left'<=pos+300*left))∨(∃(Q:Ctx),∃(x j H v left':Int),∃(A J:Rs),L=(2,(⟨[x,j,H,v,left'],[],[A,J],[]⟩:Aj))/\(MS false Q f K M bl j H v left' call q B J)/\(AP loop pure (depth+1) O Q z left' A)/\(Ext C V J)/\(count<=v)/\(C<=H)/\(x=A.length)/\(x<=20)/\(left'<=left)/\(j+300*left'<=pos+300*left))
def ApR (P N:Nat):Prop:=∀{m:Nat} (X:FX false P m) {Γ:Ctx} {K M:Int} {O:Ctx} {z:Int} (f depth:Int) (loop pure:Int) (Q I:Int) (it bl:Int) (pos C:Int) (count left:Int) (call q:Int) (B R V:Rs) (Y:MS false Γ f K M bl pos C count left call q B V) (Z:AP loop pure (depth+1) O Γ z left R) (h:0<=depth/\depth<=2/\(pure=0∨pure=1)/\(loop=0∨loop=1)/\depth.toNat<m/\it<=10/\I=R.length/\I+it<=20/\0<=I:=by exact kn),Ok trees N ⟨[f,depth,loop,pure,Q,I,it,bl,pos,C,count,left,call,q],[],[B,R,V],[]⟩ fun L=>(L=(0,v0))∨(∃(x j left':Int),∃(A:Rs),L=(1,(⟨[x,j,left'],[],[A],[]⟩:Aj))/\(MS false Γ f K M bl j C count left' call q B V)/\(AP loop pure (depth+1) O Γ z left' A)/\(x=A.length)/\(x<=20)/\(left'<=left)/\(j+300*left'<=pos+300*left))∨(∃(U:Ctx),∃(x j H v left':Int),∃(A J:Rs),L=(2,(⟨[x,j,H,v,left'],[],[A,J],[]⟩:Aj))/\(MS false U f K M bl j H v left' call q B J)/\(AP loop pure (depth+1) O U z left' A)/\(Ext C V J)/\(count<=v)/\(C<=H)/\(x=A.length)/\(x<=20)/\(left'<=left)/\(j+300*left'<=pos+300*left))
theorem Aoc {m:Nat} (bj:FX false 12 m) (n:Nat):Aqy 12 65 m n:=by
 induction n with
 |zero=>intro Γ K M Γ0 aK f depth loop pure ah rl it bl pos vl count left call q B R V hM C h;exact absurd h.2.2.2.2.2.2.2.2.2 (Nat.not_lt_zero _)
 |succ n ih=>
 intro Γ K M Γ0 aK f depth loop pure ah rl it bl pos vl count left call q B R V hM C h
 have ⟨hm,db,c7,dk,c4,c8,di,c9,dd,c5,dj⟩:=hM;have ⟨hB,hl,hvl,GP,hV,hb,hc,hd⟩:=hm;have c6:G 3=40:=rfl;have dh:G 2=12:=rfl;have dc:G (3-1)=12:=rfl
 refine .of (t:=Aft) rfl ?_
 conv=>arg 3;reduce
 refine gt it 0 (fun t1=>?_) fun t1=>?_
 ·refine gt left 0 (fun t2=>?_) fun t2=>?_
  ·obtain ⟨_,(⟨bc,br,bm,aG,aN,aU,a3,a1,aY,aP,aJ,aE,az,aC,aD,I,v,bb,a4,aF,ae,ap,av,af,rfl,H,ct,cO,bA,cr,cM,ci,cK⟩|⟨ai,bn,be,bi,ay,aI,aO,a0,aW,aZ,aL,aB,J,z,j,x,bo,aH,ak,aw,al,ao,N,rfl,A,bQ,bC,b0,cE,cF,cp,cc,cg,bG,bv⟩),G3⟩:=bj f depth 0 loop pure bl pos vl count left call q B V (MS.mv hM) kn
   ·refine ch G3 ?_
    have ⟨_,_,cd,cA,cy,bW,cI,ce,_,_,_⟩:=H
    refine ll a1 ae ?_
    refine ll az ap ?_
    refine ll aC av ?_
    refine ll aD af ?_
    refine dL (R++[AQ bc br 0 bm bb aG aN aU a4 a3 ae aY aP aJ aF aE ap av af]) (fun W4 e4=>?_) (Bq (pw rl R) pe)
    have f4:=cL e4;try simp only [lA,lC,lN,lT']at f4
    refine E6 (W4.length:Int) 1048576 ?_
    obtain ⟨_,(rfl|⟨aQ,ag,ad,ba,rfl,X,bP,bx,cQ,cq,cB⟩|⟨a6,aA,aq,aX,L,Z,bh,a5,rfl,Q,cJ,bX,cw,cv,bz,bN,b4,cP⟩),Y⟩:=ih f depth loop pure ah (W4.length:Int) (it-1) bl I vl count v call q B W4 V (MS.mv H) (by subst_vars;exact AP.snoc C asm) kn
    ·refine ch Y ?_
     exact Ah ⟨[(W4.length:Int),I,v],[],[W4],[]⟩ (.inr (.inl (⟨_,_,_,_,rfl,(MS.mv H),(by first|assumption|(subst_vars;exact AP.snoc C asm)),kn,kn,kn,kn⟩)))
    ·refine cm Y ?_
     refine ch Y ?_
     have ⟨_,_,cH,cR,cu,b5,cS,cj,_,_,_⟩:=X
     exact Ah ⟨[aQ,ag,ad],[],[ba],[]⟩ (.inr (.inl (⟨_,_,_,_,rfl,(MS.mv X),(by first|assumption|(subst_vars;exact AP.snoc C asm)),kn,kn,kn,kn⟩)))
    refine cm Y ?_
    refine cm Y ?_
    refine ch Y ?_
    have ⟨_,_,bH,cC,bJ,co,bR,cG,_,_,_⟩:=Q
    exact Ah ⟨[aA,aq,aX,L,Z],[],[bh,a5],[]⟩ (.inr (.inr ((⟨a6,_,_,_,_,_,_,_,rfl,(MS.mv Q),(by first|assumption|(subst_vars;exact AP.snoc C asm)),A9,kn,kn,kn,kn,kn,kn⟩))))
   refine cm G3 ?_
   refine ch G3 ?_
   have ⟨_,_,cz,bY,bO,bS,cf,cU,_,_,_⟩:=A
   refine ll aW ak ?_
   refine ll aZ aw ?_
   refine ll aL al ?_
   refine ll aB ao ?_
   refine dL (R++[AQ bn 0 be bi bo ay aI aO aH a0 ak 0 0 0 [] 0 aw al ao]) (fun W6 e6=>?_) (Bq (pw rl R) pe)
   have f6:=cL e6;try simp only [lA,lC,lN,lT']at f6
   refine E6 (W6.length:Int) 1048576 ?_
   obtain ⟨_,(rfl|⟨aR,ax,ac,bp,rfl,P,b7,bK,bZ,b9,b2⟩|⟨bf,aM,au,a2,O,aa,a9,a8,rfl,U,b8,cD,bU,bw,cN,bD,bV,bB⟩),G7⟩:=ih f depth loop pure ah (W6.length:Int) (it-1) bl J z j x call q B W6 N (MS.mv A) (by subst_vars;exact AP.snoc C asm) kn
   ·refine ch G7 ?_
    exact Ah ⟨[(W6.length:Int),J,z,j,x],[],[W6,N],[]⟩ (.inr (.inr ((⟨ai,_,_,_,_,_,_,_,rfl,(MS.mv A),(by first|assumption|(subst_vars;exact AP.snoc C asm)),A9,kn,kn,kn,kn,kn,kn⟩))))
   ·refine cm G7 ?_
    refine ch G7 ?_
    have ⟨_,_,b1,b3,cT,cb,bF,bI,_,_,_⟩:=P
    exact Ah ⟨[aR,ax,z,j,ac],[],[bp,N],[]⟩ (.inr (.inr ((⟨ai,_,_,_,_,_,_,_,rfl,(MS.mv P),(by first|assumption|(subst_vars;exact AP.snoc C asm)),A9,kn,kn,kn,kn,kn,kn⟩))))
   refine cm G7 ?_
   refine cm G7 ?_
   refine ch G7 ?_
   have ⟨_,_,bL,bE,cx,b6,bT,bM,_,_,_⟩:=U
   exact Ah ⟨[aM,au,a2,O,aa],[],[a9,a8],[]⟩ (.inr (.inr ((⟨bf,_,_,_,_,_,_,_,rfl,(MS.mv U),(by first|assumption|(subst_vars;exact AP.snoc C asm)),A9,kn,kn,kn,kn,kn,kn⟩))))
  exact Ah v0 (.inl rfl)
 exact Ah v0 (.inl rfl)
theorem V6:ApR 12 65:=fun {m} hC12 {Γ} {K} {M} {Γ0} {left0} f depth loop pure vn0 rl it bl pos vl count left call loads B R V hM hL h=>Aoc @hC12 (it.toNat+1) f depth loop pure vn0 rl it bl pos vl count left call loads B R V hM hL ⟨h.1,h.2.1,h.2.2.1,h.2.2.2.1,h.2.2.2.2.1,h.2.2.2.2.2.1,h.2.2.2.2.2.2.1,h.2.2.2.2.2.2.2.1,h.2.2.2.2.2.2.2.2,Nat.lt_succ_self _⟩
def ApT (J N:Nat):Prop:=∀{m:Nat} (O:FX false J m) {Γ:Ctx} {K M:Int} (f depth:Int) (loop pure:Int) (vn0 it:Int) (C pos:Int) (z count:Int) (left call loads:Int) (B V:Rs) (P:MS false Γ f K M C pos z count left call loads B V) (h:0<=depth/\depth<=2/\(pure=0∨pure=1)/\(loop=0∨loop=1)/\depth.toNat<m/\it<=10:=by exact kn),Ok trees N ⟨[f,depth,loop,pure,vn0,it,C,pos,z,count,left,call,loads],[],[B,V],[]⟩ fun I=>(I=(0,v0))∨(∃(v j left':Int),∃(x:Rs),I=(1,(⟨[v,j,left'],[],[x],[]⟩:Aj))/\(MS false Γ f K M C j z count left' call loads B V)/\(AP loop pure (depth+1) Γ Γ left left' x)/\(v=x.length)/\(v<=20)/\(left'<=left)/\(j+300*left'<=pos+300*left))∨(∃(L:Ctx),∃(v j A q left':Int),∃(x H:Rs),I=(2,(⟨[v,j,A,q,left'],[],[x,H],[]⟩:Aj))/\(MS false L f K M C j A q left' call loads B H)/\(AP loop pure (depth+1) Γ L left left' x)/\(Ext z V H)/\(count<=q)/\(z<=A)/\(v=x.length)/\(v<=20)/\(left'<=left)/\(j+300*left'<=pos+300*left))
theorem AoS:ApT 12 62:=by
 intro m O Γ K M f depth loop pure aZ it bl pos vl count left call z B V hM h
 have ⟨hm,c5,c2,dc,cY,c3,c9,c4,c7,cZ,db⟩:=hM;have ⟨hB,hl,hvl,GP,hV,hb,hc,hd⟩:=hm;have c1:G 3=40:=rfl;have c8:G 2=12:=rfl;have c6:G (3-1)=12:=rfl
 refine .of (t:=Afv) rfl ?_
 conv=>arg 3;reduce
 refine gt it 0 (fun t1=>?_) fun t1=>?_
 ·refine gt left 0 (fun t2=>?_) fun t2=>?_
  ·obtain ⟨_,(⟨a6,bk,be,aC,aI,aN,aX,aV,aQ,aK,aF,aA,av,ay,az,H,q,a5,aY,aB,ad,ak,ao,ae,rfl,C,co,cJ,bv,cj,cH,cd,cG⟩|⟨ag,bg,a7,bb,au,aE,aJ,aU,aO,aR,aG,ax,I,x,j,v,bh,aD,ah,ap,ai,aj,L,rfl,A,bM,bx,bW,cA,cB,cg,b7,cc,bC,bo⟩),G3⟩:=O f depth 0 loop pure bl pos vl count left call z B V (MS.mv hM) kn
   ·refine ch G3 ?_
    have ⟨_,_,b8,cw,cu,bS,cE,b9,_,_,_⟩:=C
    refine ll aV ad ?_
    refine ll av ak ?_
    refine ll ay ao ?_
    refine ll az ae ?_
    refine dL [AQ a6 bk 0 be a5 aC aI aN aY aX ad aQ aK aF aB aA ak ao ae] (fun W4 e4=>?_)
    have f4:=cL e4;try simp only [lA,lC,lN,lT']at f4
    refine ll 1 W4 ?_
    obtain ⟨_,(rfl|⟨aL,af,ac,a4,rfl,U,bL,br,cM,ci,cx⟩|⟨a1,aw,al,aP,J,Y,ba,a0,rfl,Q,cF,bT,cr,cq,bt,bJ,b0,cK⟩),X⟩:=V6 @O f depth loop pure aZ 1 (it-1) bl H vl count q call z B W4 V (MS.mv C) (by subst_vars;exact AP.one asm om)
    ·refine ch X ?_
     exact Ah ⟨[1,H,q],[],[W4],[]⟩ (.inr (.inl (⟨_,_,_,_,rfl,(MS.mv C),(by first|assumption|(subst_vars;exact AP.one asm om)),kn,kn,kn,kn⟩)))
    ·refine cm X ?_
     refine ch X ?_
     have ⟨_,_,cD,cN,cp,b1,cO,ce,_,_,_⟩:=U
     exact Ah ⟨[aL,af,ac],[],[a4],[]⟩ (.inr (.inl (⟨_,_,_,_,rfl,(MS.mv U),(by first|assumption|(subst_vars;exact AP.one asm om)),kn,kn,kn,kn⟩)))
    refine cm X ?_
    refine cm X ?_
    refine ch X ?_
    have ⟨_,_,bD,cy,bF,cf,bN,cC,_,_,_⟩:=Q
    exact Ah ⟨[aw,al,aP,J,Y],[],[ba,a0],[]⟩ (.inr (.inr ((⟨a1,_,_,_,_,_,_,_,rfl,(MS.mv Q),(by first|assumption|(subst_vars;exact AP.one asm om)),A9,kn,kn,kn,kn,kn,kn⟩))))
   refine cm G3 ?_
   refine ch G3 ?_
   have ⟨_,_,cv,bU,bK,bO,cb,cQ,_,_,_⟩:=A
   refine ll aO ah ?_
   refine ll aR ap ?_
   refine ll aG ai ?_
   refine ll ax aj ?_
   refine dL [AQ bg 0 a7 bb bh au aE aJ aD aU ah 0 0 0 [] 0 ap ai aj] (fun W6 e6=>?_)
   have f6:=cL e6;try simp only [lA,lC,lN,lT']at f6
   refine ll 1 W6 ?_
   obtain ⟨_,(rfl|⟨aM,aq,ab,bj,rfl,P,b3,bG,bV,b5,bY⟩|⟨a9,aH,an,aW,N,Z,a3,a2,rfl,R,b4,cz,bQ,bp,cI,bz,bR,bw⟩),G7⟩:=V6 @O f depth loop pure aZ 1 (it-1) bl I x j v call z B W6 L (MS.mv A) (by subst_vars;exact AP.one asm om)
   ·refine ch G7 ?_
    exact Ah ⟨[1,I,x,j,v],[],[W6,L],[]⟩ (.inr (.inr ((⟨ag,_,_,_,_,_,_,_,rfl,(MS.mv A),(by first|assumption|(subst_vars;exact AP.one asm om)),A9,kn,kn,kn,kn,kn,kn⟩))))
   ·refine cm G7 ?_
    refine ch G7 ?_
    have ⟨_,_,bX,bZ,cP,b6,bB,bE,_,_,_⟩:=P
    exact Ah ⟨[aM,aq,x,j,ab],[],[bj,L],[]⟩ (.inr (.inr ((⟨ag,_,_,_,_,_,_,_,rfl,(MS.mv P),(by first|assumption|(subst_vars;exact AP.one asm om)),A9,kn,kn,kn,kn,kn,kn⟩))))
   refine cm G7 ?_
   refine cm G7 ?_
   refine ch G7 ?_
   have ⟨_,_,bH,bA,ct,b2,bP,bI,_,_,_⟩:=R
   exact Ah ⟨[aH,an,aW,N,Z],[],[a3,a2],[]⟩ (.inr (.inr ((⟨a9,_,_,_,_,_,_,_,rfl,(MS.mv R),(by first|assumption|(subst_vars;exact AP.one asm om)),A9,kn,kn,kn,kn,kn,kn⟩))))
  exact Ah v0 (.inl rfl)
 exact Ah v0 (.inl rfl)
def ApN (P N:Nat):Prop:=∀{m:Nat} (X:FX false P m) {Γ:Ctx} {K M:Int} {O:Ctx} {z:Int} (f depth:Int) (loop pure:Int) (Q I:Int) (it bl:Int) (pos C:Int) (count left:Int) (call q:Int) (R B V:Rs) (Y:MS false Γ f K M bl pos C count left call q B V) (Z:AP loop pure (depth+1) O Γ z left R) (h:0<=depth/\depth<=2/\(pure=0∨pure=1)/\(loop=0∨loop=1)/\depth.toNat<m/\it<=10/\I=R.length/\I+it<=20/\0<=I:=by exact kn),Ok trees N ⟨[f,depth,loop,pure,Q,I,it,bl,pos,C,count,left,call,q],[],[R,B,V],[]⟩ fun L=>(∃(x j left':Int),∃(A:Rs),L=(0,(⟨[x,j,left'],[],[A],[]⟩:Aj))/\(MS false Γ f K M bl j C count left' call q B V)/\(AP loop pure (depth+1) O Γ z left' A)/\(x=A.length)/\(x<=20)/\(left'<=left)/\(j+300*left'<=pos+300*left))∨(L=(1,v0))∨(∃(U:Ctx),∃(x j H v left':Int),∃(A J:Rs),L=(2,(⟨[x,j,H,v,left'],[],[A,J],[]⟩:Aj))/\(MS false U f K M bl j H v left' call q B J)/\(AP loop pure (depth+1) O U z left' A)/\(Ext C V J)/\(count<=v)/\(C<=H)/\(x=A.length)/\(x<=20)/\(left'<=left)/\(j+300*left'<=pos+300*left))
theorem AoQ:ApN 12 71:=by
 intro m P Γ K M Γ0 b5 f depth loop pure a3 rl it bl pos vl count left call z R B V hM J h
 have ⟨hm,c8,c5,di,c2,c6,dd,c7,db,c3,dh⟩:=hM;have ⟨hB,hl,hvl,GP,hV,hb,hc,hd⟩:=hm;have c4:G 3=40:=rfl;have dc:G 2=12:=rfl;have c9:G (3-1)=12:=rfl
 refine .of (t:=Afq) rfl ?_
 conv=>arg 3;reduce
 refine gt it 0 (fun t1=>?_) fun t1=>?_
 ·refine gt left 0 (fun t2=>?_) fun t2=>?_
  ·obtain ⟨_,(⟨ba,bn,bh,aG,aM,aR,a1,aZ,aW,aO,aJ,aE,az,aC,aD,H,q,a9,a2,aF,af,ap,av,ag,rfl,C,cr,cN,bx,cq,cK,cg,cJ⟩|⟨ai,bi,bb,bf,ay,aI,aN,aY,aU,aX,aK,aB,I,x,j,v,bj,aH,ak,aw,al,ao,N,rfl,A,bO,bA,bY,cD,cE,co,cb,cf,bE,br⟩),G3⟩:=P f depth 0 loop pure bl pos vl count left call z B V (MS.mv hM) kn
   ·refine ch G3 ?_
    have ⟨_,_,cc,cz,cx,bU,cH,cd,_,_,_⟩:=C
    refine ll aZ af ?_
    refine ll az ap ?_
    refine ll aC av ?_
    refine ll aD ag ?_
    refine dL (R++[AQ ba bn 0 bh a9 aG aM aR a2 a1 af aW aO aJ aF aE ap av ag]) (fun W4 e4=>?_) (Bq rfl pe)
    have f4:=cL e4;try simp only [lA,lC,lN,lT']at f4
    refine E6 (W4.length:Int) 1048576 ?_
    obtain ⟨_,(rfl|⟨aP,ah,ae,a8,rfl,Y,bN,bv,cP,cp,cA⟩|⟨a5,aA,aq,aV,L,aa,be,a4,rfl,U,cI,bV,cv,cu,bw,bL,b2,cO⟩),Z⟩:=V6 @P f depth loop pure a3 (W4.length:Int) (it-1) bl H vl count q call z B W4 V (MS.mv C) (by subst_vars;exact AP.snoc J asm)
    ·refine ch Z ?_
     exact Ah ⟨[(W4.length:Int),H,q],[],[W4],[]⟩ (.inl (⟨_,_,_,_,rfl,(MS.mv C),(by first|assumption|(subst_vars;exact AP.snoc J asm)),kn,kn,kn,kn⟩))
    ·refine cm Z ?_
     refine ch Z ?_
     have ⟨_,_,cG,cQ,ct,b3,cR,ci,_,_,_⟩:=Y
     exact Ah ⟨[aP,ah,ae],[],[a8],[]⟩ (.inl (⟨_,_,_,_,rfl,(MS.mv Y),(by first|assumption|(subst_vars;exact AP.snoc J asm)),kn,kn,kn,kn⟩))
    refine cm Z ?_
    refine cm Z ?_
    refine ch Z ?_
    have ⟨_,_,bF,cB,bH,cj,bP,cF,_,_,_⟩:=U
    exact Ah ⟨[aA,aq,aV,L,aa],[],[be,a4],[]⟩ (.inr (.inr ((⟨a5,_,_,_,_,_,_,_,rfl,(MS.mv U),(by first|assumption|(subst_vars;exact AP.snoc J asm)),A9,kn,kn,kn,kn,kn,kn⟩))))
   refine cm G3 ?_
   refine ch G3 ?_
   have ⟨_,_,cy,bW,bM,bQ,ce,cT,_,_,_⟩:=A
   refine ll aU ak ?_
   refine ll aX aw ?_
   refine ll aK al ?_
   refine ll aB ao ?_
   refine dL (R++[AQ bi 0 bb bf bj ay aI aN aH aY ak 0 0 0 [] 0 aw al ao]) (fun W6 e6=>?_) (Bq rfl pe)
   have f6:=cL e6;try simp only [lA,lC,lN,lT']at f6
   refine E6 (W6.length:Int) 1048576 ?_
   obtain ⟨_,(rfl|⟨aQ,ax,ad,bm,rfl,Q,b6,bI,bX,b8,b0⟩|⟨bc,aL,au,a0,O,ab,a7,a6,rfl,X,b7,cC,bS,bt,cM,bB,bT,bz⟩),G7⟩:=V6 @P f depth loop pure a3 (W6.length:Int) (it-1) bl I x j v call z B W6 N (MS.mv A) (by subst_vars;exact AP.snoc J asm)
   ·refine ch G7 ?_
    exact Ah ⟨[(W6.length:Int),I,x,j,v],[],[W6,N],[]⟩ (.inr (.inr ((⟨ai,_,_,_,_,_,_,_,rfl,(MS.mv A),(by first|assumption|(subst_vars;exact AP.snoc J asm)),A9,kn,kn,kn,kn,kn,kn⟩))))
   ·refine cm G7 ?_
    refine ch G7 ?_
    have ⟨_,_,bZ,b1,cS,b9,bD,bG,_,_,_⟩:=Q
    exact Ah ⟨[aQ,ax,x,j,ad],[],[bm,N],[]⟩ (.inr (.inr ((⟨ai,_,_,_,_,_,_,_,rfl,(MS.mv Q),(by first|assumption|(subst_vars;exact AP.snoc J asm)),A9,kn,kn,kn,kn,kn,kn⟩))))
   refine cm G7 ?_
   refine cm G7 ?_
   refine ch G7 ?_
   have ⟨_,_,bJ,bC,cw,b4,bR,bK,_,_,_⟩:=X
   exact Ah ⟨[aL,au,a0,O,ab],[],[a7,a6],[]⟩ (.inr (.inr ((⟨bc,_,_,_,_,_,_,_,rfl,(MS.mv X),(by first|assumption|(subst_vars;exact AP.snoc J asm)),A9,kn,kn,kn,kn,kn,kn⟩))))
  exact Ah v0 (.inr (.inl rfl))
 exact Ah v0 (.inr (.inl rfl))
theorem Ah8:Yz false 12 58:=by
 intro m ab Γ K M f depth loop pure bl pos j count left call v B V R h
 have ⟨hm,bB,bv,bI,bw,bx,bG,bA,bE,bz,bH⟩:=R;have ⟨hB,hl,hvl,GP,hV,hb,hc,hd⟩:=hm;have bD:G 3=40:=rfl;have bF:G 2=12:=rfl;have bC:G (3-1)=12:=rfl
 refine .of (t:=Afy) rfl ?_
 conv=>arg 3;reduce
 obtain ⟨_,⟨al,q,rfl,bo,bp,bm⟩,G1⟩:=Lr hB hl pos j count left call v V
 refine ch G1 ?_
 obtain ⟨_,(rfl|⟨J,ad,Z,af,rfl,L,aN,aD,a7,a0,ba⟩|⟨bn,N,aa,aj,x,P,ac,ao,rfl,I,aY,aM,a9,a5,aU,ax,aP,bi⟩),Y⟩:=AoS @ab f depth loop pure j (1+(al%3)) bl q j count left call v B V (MS.mv R)
 ·refine ch Y ?_
  refine Dv j 0 ?_
  refine E6 j j ?_
  refine de [] ?_
  refine ll 0 [] ?_
  refine fr ?_
  obtain ⟨_,(⟨H,ag,Q,ae,rfl,O,aC,a6,aA,aB,a4⟩|rfl|⟨bt,C,ah,ak,z,X,ai,an,rfl,A,aW,bg,bj,a8,aQ,bc,aE,ay⟩),U⟩:=AoQ @ab f depth loop pure j 0 (1+(al%3)) bl q j count left call v [] B V (MS.mv R) (AP.nil (left:=left) om)
  ·refine ch U ?_
   have ⟨_,_,bf,aI,aH,a3,aZ,bh,_,_,_⟩:=O
   refine ll H ae ?_
   refine fr ?_
   exact Ah ⟨[H,ag,Q],[],[ae],[]⟩ (.inl (⟨_,_,_,_,rfl,(MS.mv O),(by first|exact I3.nil om|exact I3.mk asm),kn,kn,kn⟩))
  ·refine cm U ?_
   refine ch U ?_
   exact Ah ⟨[0,q,left],[],[[]],[]⟩ (.inl (⟨_,_,_,_,rfl,(MS.mv R),(by first|exact I3.nil om|exact I3.mk asm),kn,kn,kn⟩))
  refine cm U ?_
  refine cm U ?_
  refine ch U ?_
  have ⟨_,_,au,a1,aq,aF,be,az,_,_,_⟩:=A
  refine E6 j ak ?_
  refine ll C ai ?_
  refine fr ?_
  exact Ah ⟨[C,ah,j,z,X],[],[ai,an],[]⟩ (.inr ((⟨_,_,_,_,_,_,rfl,(MS.back R (MS.mv A) asm om),(by first|exact I3.nil om|exact I3.mk asm),A9,kn,kn,kn,kn⟩)))
 ·refine cm Y ?_
  refine ch Y ?_
  have ⟨_,_,aV,aw,aJ,av,aG,aO,_,_,_⟩:=L
  refine Dv j 0 ?_
  refine E6 j j ?_
  refine ll J af ?_
  refine fr ?_
  exact Ah ⟨[J,ad,Z],[],[af],[]⟩ (.inl (⟨_,_,_,_,rfl,(MS.mv L),(by first|exact I3.nil om|exact I3.mk asm),kn,kn,kn⟩))
 refine cm Y ?_
 refine cm Y ?_
 refine ch Y ?_
 have ⟨_,_,aX,aK,aR,bb,a2,aL,_,_,_⟩:=I
 refine Dv j 0 ?_
 refine E6 j aj ?_
 refine ll N ac ?_
 refine fr ?_
 exact Ah ⟨[N,aa,j,x,P],[],[ac,ao],[]⟩ (.inr ((⟨_,_,_,_,_,_,rfl,(MS.back R (MS.mv I) asm om),(by first|exact I3.nil om|exact I3.mk asm),A9,kn,kn,kn,kn⟩)))
theorem RE:Aed false 12:=@UN false 1 12 12 8 14 15 16 17 18 19 58 8 58 rfl @Lr @AhE @Apv @IZ @Oo @Apu @AhD @Ah8 @Lr @Ah8 (fun _ h=>h)
def Aqx (U N:Nat) (m n:Nat):Prop:=∀{Γ:Ctx} {K M:Int} {O:Ctx} {z:Int} (f depth:Int) (loop pure:Int) (P I:Int) (it bl:Int) (pos C:Int) (count left:Int) (call q:Int) (B V R:Rs) (X:MS true Γ f K M bl pos C count left call q B V) (Y:AP loop pure (depth+1) O Γ z left R) (h:0<=depth/\depth<=2/\(pure=0∨pure=1)/\(loop=0∨loop=1)/\depth.toNat<m/\it<=10/\I=R.length/\I+it<=20/\0<=I/\it.toNat<n),Ok trees N ⟨[f,depth,loop,pure,P,I,it,bl,pos,C,count,left,call,q],[],[B,V,R],[]⟩ fun L=>(L=(0,v0))∨(∃(x j left':Int),∃(A:Rs),L=(1,(⟨[x,j,left'],[],[A],[]⟩:Aj))/\(MS true Γ f K M bl j C count left' call q B V)/\(AP loop pure (depth+1) O Γ z left' A)/\(x=A.length)/\(x<=20)/\(left'<=left)/\(j+300*left'<=pos+300*left))∨(∃(Q:Ctx),∃(x j H v left':Int),∃(A J:Rs),L=(2,(⟨[x,j,H,v,left'],[],[A,J],[]⟩:Aj))/\(MS false Q f K M bl j H v left' call q B J)/\(AP loop pure (depth+1) O Q z left' A)/\(Ext C V J)/\(count<=v)/\(C<=H)/\(x=A.length)/\(x<=20)/\(left'<=left)/\(j+300*left'<=pos+300*left))
def ApQ (P N:Nat):Prop:=∀{m:Nat} (X:FX true P m) {Γ:Ctx} {K M:Int} {O:Ctx} {z:Int} (f depth:Int) (loop pure:Int) (Q I:Int) (it bl:Int) (pos C:Int) (count left:Int) (call q:Int) (B V R:Rs) (Y:MS true Γ f K M bl pos C count left call q B V) (Z:AP loop pure (depth+1) O Γ z left R) (h:0<=depth/\depth<=2/\(pure=0∨pure=1)/\(loop=0∨loop=1)/\depth.toNat<m/\it<=10/\I=R.length/\I+it<=20/\0<=I:=by exact kn),Ok trees N ⟨[f,depth,loop,pure,Q,I,it,bl,pos,C,count,left,call,q],[],[B,V,R],[]⟩ fun L=>(L=(0,v0))∨(∃(x j left':Int),∃(A:Rs),L=(1,(⟨[x,j,left'],[],[A],[]⟩:Aj))/\(MS true Γ f K M bl j C count left' call q B V)/\(AP loop pure (depth+1) O Γ z left' A)/\(x=A.length)/\(x<=20)/\(left'<=left)/\(j+300*left'<=pos+300*left))∨(∃(U:Ctx),∃(x j H v left':Int),∃(A J:Rs),L=(2,(⟨[x,j,H,v,left'],[],[A,J],[]⟩:Aj))/\(MS false U f K M bl j H v left' call q B J)/\(AP loop pure (depth+1) O U z left' A)/\(Ext C V J)/\(count<=v)/\(C<=H)/\(x=A.length)/\(x<=20)/\(left'<=left)/\(j+300*left'<=pos+300*left))
theorem Aob {m:Nat} (bj:FX true 13 m) (n:Nat):Aqx 13 66 m n:=by
 induction n with
 |zero=>intro Γ K M Γ0 aK f depth loop pure ah rl it bl pos vl count left call q B V R hM C h;exact absurd h.2.2.2.2.2.2.2.2.2 (Nat.not_lt_zero _)
 |succ n ih=>
 intro Γ K M Γ0 aK f depth loop pure ah rl it bl pos vl count left call q B V R hM C h
 have ⟨hm,db,c7,dk,c4,c8,di,c9,dd,c5,dj⟩:=hM;have ⟨hB,hl,hvl,GP,hV,hb,hc,hd⟩:=hm;have c6:G 3=40:=rfl;have dh:G 2=12:=rfl;have dc:G (3-1)=12:=rfl
 refine .of (t:=Afs) rfl ?_
 conv=>arg 3;reduce
 refine gt it 0 (fun t1=>?_) fun t1=>?_
 ·refine gt left 0 (fun t2=>?_) fun t2=>?_
  ·obtain ⟨_,(⟨bc,br,bm,aG,aN,aU,a3,a1,aY,aP,aJ,aE,az,aC,aD,I,v,bb,a4,aF,ae,ap,av,af,rfl,H,ct,cO,bA,cr,cM,ci,cK⟩|⟨ai,bn,be,bi,ay,aI,aO,a0,aW,aZ,aL,aB,J,z,j,x,bo,aH,ak,aw,al,ao,N,rfl,A,bQ,bC,b0,cE,cF,cp,cc,cg,bG,bv⟩),G3⟩:=bj f depth 0 loop pure bl pos vl count left call q B V (MS.mv hM) kn
   ·refine ch G3 ?_
    have ⟨_,_,cd,cA,cy,bW,cI,ce,_,_,_⟩:=H
    refine ll a1 ae ?_
    refine ll az ap ?_
    refine ll aC av ?_
    refine ll aD af ?_
    refine dL (R++[AQ bc br 0 bm bb aG aN aU a4 a3 ae aY aP aJ aF aE ap av af]) (fun W4 e4=>?_) (Bq (pw rl R) pe)
    have f4:=cL e4;try simp only [lA,lC,lN,lT']at f4
    refine E6 (W4.length:Int) 1048576 ?_
    obtain ⟨_,(rfl|⟨aQ,ag,ad,ba,rfl,X,bP,bx,cQ,cq,cB⟩|⟨a6,aA,aq,aX,L,Z,bh,a5,rfl,Q,cJ,bX,cw,cv,bz,bN,b4,cP⟩),Y⟩:=ih f depth loop pure ah (W4.length:Int) (it-1) bl I vl count v call q B V W4 (MS.mv H) (by subst_vars;exact AP.snoc C asm) kn
    ·refine ch Y ?_
     exact Ah ⟨[(W4.length:Int),I,v],[],[W4],[]⟩ (.inr (.inl (⟨_,_,_,_,rfl,(MS.mv H),(by first|assumption|(subst_vars;exact AP.snoc C asm)),kn,kn,kn,kn⟩)))
    ·refine cm Y ?_
     refine ch Y ?_
     have ⟨_,_,cH,cR,cu,b5,cS,cj,_,_,_⟩:=X
     exact Ah ⟨[aQ,ag,ad],[],[ba],[]⟩ (.inr (.inl (⟨_,_,_,_,rfl,(MS.mv X),(by first|assumption|(subst_vars;exact AP.snoc C asm)),kn,kn,kn,kn⟩)))
    refine cm Y ?_
    refine cm Y ?_
    refine ch Y ?_
    have ⟨_,_,bH,cC,bJ,co,bR,cG,_,_,_⟩:=Q
    exact Ah ⟨[aA,aq,aX,L,Z],[],[bh,a5],[]⟩ (.inr (.inr ((⟨a6,_,_,_,_,_,_,_,rfl,(MS.mv Q),(by first|assumption|(subst_vars;exact AP.snoc C asm)),A9,kn,kn,kn,kn,kn,kn⟩))))
   refine cm G3 ?_
   refine ch G3 ?_
   have ⟨_,_,cz,bY,bO,bS,cf,cU,_,_,_⟩:=A
   refine ll aW ak ?_
   refine ll aZ aw ?_
   refine ll aL al ?_
   refine ll aB ao ?_
   refine dL (R++[AQ bn 0 be bi bo ay aI aO aH a0 ak 0 0 0 [] 0 aw al ao]) (fun W6 e6=>?_) (Bq (pw rl R) pe)
   have f6:=cL e6;try simp only [lA,lC,lN,lT']at f6
   refine E6 (W6.length:Int) 1048576 ?_
   obtain ⟨_,(rfl|⟨aR,ax,ac,bp,rfl,P,b7,bK,bZ,b9,b2⟩|⟨bf,aM,au,a2,O,aa,a9,a8,rfl,U,b8,cD,bU,bw,cN,bD,bV,bB⟩),G7⟩:=V6 (FX.of (n:=10) @RE) f depth loop pure ah (W6.length:Int) (it-1) bl J z j x call q B W6 N (MS.mv A) (by subst_vars;exact AP.snoc C asm)
   ·refine ch G7 ?_
    exact Ah ⟨[(W6.length:Int),J,z,j,x],[],[W6,N],[]⟩ (.inr (.inr ((⟨ai,_,_,_,_,_,_,_,rfl,(MS.mv A),(by first|assumption|(subst_vars;exact AP.snoc C asm)),A9,kn,kn,kn,kn,kn,kn⟩))))
   ·refine cm G7 ?_
    refine ch G7 ?_
    have ⟨_,_,b1,b3,cT,cb,bF,bI,_,_,_⟩:=P
    exact Ah ⟨[aR,ax,z,j,ac],[],[bp,N],[]⟩ (.inr (.inr ((⟨ai,_,_,_,_,_,_,_,rfl,(MS.mv P),(by first|assumption|(subst_vars;exact AP.snoc C asm)),A9,kn,kn,kn,kn,kn,kn⟩))))
   refine cm G7 ?_
   refine cm G7 ?_
   refine ch G7 ?_
   have ⟨_,_,bL,bE,cx,b6,bT,bM,_,_,_⟩:=U
   exact Ah ⟨[aM,au,a2,O,aa],[],[a9,a8],[]⟩ (.inr (.inr ((⟨bf,_,_,_,_,_,_,_,rfl,(MS.mv U),(by first|assumption|(subst_vars;exact AP.snoc C asm)),A9,kn,kn,kn,kn,kn,kn⟩))))
  exact Ah v0 (.inl rfl)
 exact Ah v0 (.inl rfl)
theorem Alk:ApQ 13 66:=fun {m} hC12 {Γ} {K} {M} {Γ0} {left0} f depth loop pure vn0 rl it bl pos vl count left call loads B V R hM hL h=>Aob @hC12 (it.toNat+1) f depth loop pure vn0 rl it bl pos vl count left call loads B V R hM hL ⟨h.1,h.2.1,h.2.2.1,h.2.2.2.1,h.2.2.2.2.1,h.2.2.2.2.2.1,h.2.2.2.2.2.2.1,h.2.2.2.2.2.2.2.1,h.2.2.2.2.2.2.2.2,Nat.lt_succ_self _⟩
def ApS (J N:Nat):Prop:=∀{m:Nat} (O:FX true J m) {Γ:Ctx} {K M:Int} (f depth:Int) (loop pure:Int) (vn0 it:Int) (C pos:Int) (z count:Int) (left call loads:Int) (B V:Rs) (P:MS true Γ f K M C pos z count left call loads B V) (h:0<=depth/\depth<=2/\(pure=0∨pure=1)/\(loop=0∨loop=1)/\depth.toNat<m/\it<=10:=by exact kn),Ok trees N ⟨[f,depth,loop,pure,vn0,it,C,pos,z,count,left,call,loads],[],[B,V],[]⟩ fun I=>(I=(0,v0))∨(∃(v j left':Int),∃(x:Rs),I=(1,(⟨[v,j,left'],[],[x],[]⟩:Aj))/\(MS true Γ f K M C j z count left' call loads B V)/\(AP loop pure (depth+1) Γ Γ left left' x)/\(v=x.length)/\(v<=20)/\(left'<=left)/\(j+300*left'<=pos+300*left))∨(∃(L:Ctx),∃(v j A q left':Int),∃(x H:Rs),I=(2,(⟨[v,j,A,q,left'],[],[x,H],[]⟩:Aj))/\(MS false L f K M C j A q left' call loads B H)/\(AP loop pure (depth+1) Γ L left left' x)/\(Ext z V H)/\(count<=q)/\(z<=A)/\(v=x.length)/\(v<=20)/\(left'<=left)/\(j+300*left'<=pos+300*left))
theorem AoR:ApS 13 63:=by
 intro m ai Γ K M f depth loop pure aZ it bl pos vl count left call z B V hM h
 have ⟨hm,c5,c2,dc,cY,c3,c9,c4,c7,cZ,db⟩:=hM;have ⟨hB,hl,hvl,GP,hV,hb,hc,hd⟩:=hm;have c1:G 3=40:=rfl;have c8:G 2=12:=rfl;have c6:G (3-1)=12:=rfl
 refine .of (t:=Afu) rfl ?_
 conv=>arg 3;reduce
 refine gt it 0 (fun t1=>?_) fun t1=>?_
 ·refine gt left 0 (fun t2=>?_) fun t2=>?_
  ·obtain ⟨_,(⟨a6,bk,be,aC,aI,aN,aX,aV,aQ,aK,aF,aA,av,ay,az,H,q,a5,aY,aB,ac,ak,ao,ad,rfl,C,co,cJ,bv,cj,cH,cd,cG⟩|⟨af,bg,a7,bb,au,aE,aJ,aU,aO,aR,aG,ax,I,x,j,v,bh,aD,ag,ap,ah,aj,L,rfl,A,bM,bx,bW,cA,cB,cg,b7,cc,bC,bo⟩),G3⟩:=ai f depth 0 loop pure bl pos vl count left call z B V (MS.mv hM) kn
   ·refine ch G3 ?_
    have ⟨_,_,b8,cw,cu,bS,cE,b9,_,_,_⟩:=C
    refine ll aV ac ?_
    refine ll av ak ?_
    refine ll ay ao ?_
    refine ll az ad ?_
    refine dL [AQ a6 bk 0 be a5 aC aI aN aY aX ac aQ aK aF aB aA ak ao ad] (fun W4 e4=>?_)
    have f4:=cL e4;try simp only [lA,lC,lN,lT']at f4
    refine ll 1 W4 ?_
    obtain ⟨_,(rfl|⟨aL,ae,ab,a4,rfl,R,bL,br,cM,ci,cx⟩|⟨a1,aw,al,aP,J,X,ba,a0,rfl,P,cF,bT,cr,cq,bt,bJ,b0,cK⟩),U⟩:=Alk @ai f depth loop pure aZ 1 (it-1) bl H vl count q call z B V W4 (MS.mv C) (by subst_vars;exact AP.one asm om)
    ·refine ch U ?_
     exact Ah ⟨[1,H,q],[],[W4],[]⟩ (.inr (.inl (⟨_,_,_,_,rfl,(MS.mv C),(by first|assumption|(subst_vars;exact AP.one asm om)),kn,kn,kn,kn⟩)))
    ·refine cm U ?_
     refine ch U ?_
     have ⟨_,_,cD,cN,cp,b1,cO,ce,_,_,_⟩:=R
     exact Ah ⟨[aL,ae,ab],[],[a4],[]⟩ (.inr (.inl (⟨_,_,_,_,rfl,(MS.mv R),(by first|assumption|(subst_vars;exact AP.one asm om)),kn,kn,kn,kn⟩)))
    refine cm U ?_
    refine cm U ?_
    refine ch U ?_
    have ⟨_,_,bD,cy,bF,cf,bN,cC,_,_,_⟩:=P
    exact Ah ⟨[aw,al,aP,J,X],[],[ba,a0],[]⟩ (.inr (.inr ((⟨a1,_,_,_,_,_,_,_,rfl,(MS.mv P),(by first|assumption|(subst_vars;exact AP.one asm om)),A9,kn,kn,kn,kn,kn,kn⟩))))
   refine cm G3 ?_
   refine ch G3 ?_
   have ⟨_,_,cv,bU,bK,bO,cb,cQ,_,_,_⟩:=A
   refine ll aO ag ?_
   refine ll aR ap ?_
   refine ll aG ah ?_
   refine ll ax aj ?_
   refine dL [AQ bg 0 a7 bb bh au aE aJ aD aU ag 0 0 0 [] 0 ap ah aj] (fun W6 e6=>?_)
   have f6:=cL e6;try simp only [lA,lC,lN,lT']at f6
   refine ll 1 W6 ?_
   obtain ⟨_,(rfl|⟨aM,aq,aa,bj,rfl,O,b3,bG,bV,b5,bY⟩|⟨a9,aH,an,aW,N,Y,a3,a2,rfl,Q,b4,cz,bQ,bp,cI,bz,bR,bw⟩),Z⟩:=V6 (FX.of (n:=10) @RE) f depth loop pure aZ 1 (it-1) bl I x j v call z B W6 L (MS.mv A) (by subst_vars;exact AP.one asm om)
   ·refine ch Z ?_
    exact Ah ⟨[1,I,x,j,v],[],[W6,L],[]⟩ (.inr (.inr ((⟨af,_,_,_,_,_,_,_,rfl,(MS.mv A),(by first|assumption|(subst_vars;exact AP.one asm om)),A9,kn,kn,kn,kn,kn,kn⟩))))
   ·refine cm Z ?_
    refine ch Z ?_
    have ⟨_,_,bX,bZ,cP,b6,bB,bE,_,_,_⟩:=O
    exact Ah ⟨[aM,aq,x,j,aa],[],[bj,L],[]⟩ (.inr (.inr ((⟨af,_,_,_,_,_,_,_,rfl,(MS.mv O),(by first|assumption|(subst_vars;exact AP.one asm om)),A9,kn,kn,kn,kn,kn,kn⟩))))
   refine cm Z ?_
   refine cm Z ?_
   refine ch Z ?_
   have ⟨_,_,bH,bA,ct,b2,bP,bI,_,_,_⟩:=Q
   exact Ah ⟨[aH,an,aW,N,Y],[],[a3,a2],[]⟩ (.inr (.inr ((⟨a9,_,_,_,_,_,_,_,rfl,(MS.mv Q),(by first|assumption|(subst_vars;exact AP.one asm om)),A9,kn,kn,kn,kn,kn,kn⟩))))
  exact Ah v0 (.inl rfl)
 exact Ah v0 (.inl rfl)
def ApM (P N:Nat):Prop:=∀{m:Nat} (X:FX true P m) {Γ:Ctx} {K M:Int} {O:Ctx} {z:Int} (f depth:Int) (loop pure:Int) (Q I:Int) (it bl:Int) (pos C:Int) (count left:Int) (call q:Int) (R B V:Rs) (Y:MS true Γ f K M bl pos C count left call q B V) (Z:AP loop pure (depth+1) O Γ z left R) (h:0<=depth/\depth<=2/\(pure=0∨pure=1)/\(loop=0∨loop=1)/\depth.toNat<m/\it<=10/\I=R.length/\I+it<=20/\0<=I:=by exact kn),Ok trees N ⟨[f,depth,loop,pure,Q,I,it,bl,pos,C,count,left,call,q],[],[R,B,V],[]⟩ fun L=>(∃(x j left':Int),∃(A:Rs),L=(0,(⟨[x,j,left'],[],[A],[]⟩:Aj))/\(MS true Γ f K M bl j C count left' call q B V)/\(AP loop pure (depth+1) O Γ z left' A)/\(x=A.length)/\(x<=20)/\(left'<=left)/\(j+300*left'<=pos+300*left))∨(L=(1,v0))∨(∃(U:Ctx),∃(x j H v left':Int),∃(A J:Rs),L=(2,(⟨[x,j,H,v,left'],[],[A,J],[]⟩:Aj))/\(MS false U f K M bl j H v left' call q B J)/\(AP loop pure (depth+1) O U z left' A)/\(Ext C V J)/\(count<=v)/\(C<=H)/\(x=A.length)/\(x<=20)/\(left'<=left)/\(j+300*left'<=pos+300*left))
theorem AoP:ApM 13 72:=by
 intro m al Γ K M Γ0 b5 f depth loop pure a3 rl it bl pos vl count left call z R B V hM J h
 have ⟨hm,c8,c5,di,c2,c6,dd,c7,db,c3,dh⟩:=hM;have ⟨hB,hl,hvl,GP,hV,hb,hc,hd⟩:=hm;have c4:G 3=40:=rfl;have dc:G 2=12:=rfl;have c9:G (3-1)=12:=rfl
 refine .of (t:=Afp) rfl ?_
 conv=>arg 3;reduce
 refine gt it 0 (fun t1=>?_) fun t1=>?_
 ·refine gt left 0 (fun t2=>?_) fun t2=>?_
  ·obtain ⟨_,(⟨ba,bn,bh,aG,aM,aR,a1,aZ,aW,aO,aJ,aE,az,aC,aD,H,q,a9,a2,aF,ae,ap,av,af,rfl,C,cr,cN,bx,cq,cK,cg,cJ⟩|⟨ah,bi,bb,bf,ay,aI,aN,aY,aU,aX,aK,aB,I,x,j,v,bj,aH,aj,aw,ak,ao,N,rfl,A,bO,bA,bY,cD,cE,co,cb,cf,bE,br⟩),G3⟩:=al f depth 0 loop pure bl pos vl count left call z B V (MS.mv hM) kn
   ·refine ch G3 ?_
    have ⟨_,_,cc,cz,cx,bU,cH,cd,_,_,_⟩:=C
    refine ll aZ ae ?_
    refine ll az ap ?_
    refine ll aC av ?_
    refine ll aD af ?_
    refine dL (R++[AQ ba bn 0 bh a9 aG aM aR a2 a1 ae aW aO aJ aF aE ap av af]) (fun W4 e4=>?_) (Bq rfl pe)
    have f4:=cL e4;try simp only [lA,lC,lN,lT']at f4
    refine E6 (W4.length:Int) 1048576 ?_
    obtain ⟨_,(rfl|⟨aP,ag,ad,a8,rfl,X,bN,bv,cP,cp,cA⟩|⟨a5,aA,aq,aV,L,Z,be,a4,rfl,Q,cI,bV,cv,cu,bw,bL,b2,cO⟩),Y⟩:=Alk @al f depth loop pure a3 (W4.length:Int) (it-1) bl H vl count q call z B V W4 (MS.mv C) (by subst_vars;exact AP.snoc J asm)
    ·refine ch Y ?_
     exact Ah ⟨[(W4.length:Int),H,q],[],[W4],[]⟩ (.inl (⟨_,_,_,_,rfl,(MS.mv C),(by first|assumption|(subst_vars;exact AP.snoc J asm)),kn,kn,kn,kn⟩))
    ·refine cm Y ?_
     refine ch Y ?_
     have ⟨_,_,cG,cQ,ct,b3,cR,ci,_,_,_⟩:=X
     exact Ah ⟨[aP,ag,ad],[],[a8],[]⟩ (.inl (⟨_,_,_,_,rfl,(MS.mv X),(by first|assumption|(subst_vars;exact AP.snoc J asm)),kn,kn,kn,kn⟩))
    refine cm Y ?_
    refine cm Y ?_
    refine ch Y ?_
    have ⟨_,_,bF,cB,bH,cj,bP,cF,_,_,_⟩:=Q
    exact Ah ⟨[aA,aq,aV,L,Z],[],[be,a4],[]⟩ (.inr (.inr ((⟨a5,_,_,_,_,_,_,_,rfl,(MS.mv Q),(by first|assumption|(subst_vars;exact AP.snoc J asm)),A9,kn,kn,kn,kn,kn,kn⟩))))
   refine cm G3 ?_
   refine ch G3 ?_
   have ⟨_,_,cy,bW,bM,bQ,ce,cT,_,_,_⟩:=A
   refine ll aU aj ?_
   refine ll aX aw ?_
   refine ll aK ak ?_
   refine ll aB ao ?_
   refine dL (R++[AQ bi 0 bb bf bj ay aI aN aH aY aj 0 0 0 [] 0 aw ak ao]) (fun W6 e6=>?_) (Bq rfl pe)
   have f6:=cL e6;try simp only [lA,lC,lN,lT']at f6
   refine E6 (W6.length:Int) 1048576 ?_
   obtain ⟨_,(rfl|⟨aQ,ax,ac,bm,rfl,P,b6,bI,bX,b8,b0⟩|⟨bc,aL,au,a0,O,aa,a7,a6,rfl,U,b7,cC,bS,bt,cM,bB,bT,bz⟩),G7⟩:=V6 (FX.of (n:=10) @RE) f depth loop pure a3 (W6.length:Int) (it-1) bl I x j v call z B W6 N (MS.mv A) (by subst_vars;exact AP.snoc J asm)
   ·refine ch G7 ?_
    exact Ah ⟨[(W6.length:Int),I,x,j,v],[],[W6,N],[]⟩ (.inr (.inr ((⟨ah,_,_,_,_,_,_,_,rfl,(MS.mv A),(by first|assumption|(subst_vars;exact AP.snoc J asm)),A9,kn,kn,kn,kn,kn,kn⟩))))
   ·refine cm G7 ?_
    refine ch G7 ?_
    have ⟨_,_,bZ,b1,cS,b9,bD,bG,_,_,_⟩:=P
    exact Ah ⟨[aQ,ax,x,j,ac],[],[bm,N],[]⟩ (.inr (.inr ((⟨ah,_,_,_,_,_,_,_,rfl,(MS.mv P),(by first|assumption|(subst_vars;exact AP.snoc J asm)),A9,kn,kn,kn,kn,kn,kn⟩))))
   refine cm G7 ?_
   refine cm G7 ?_
   refine ch G7 ?_
   have ⟨_,_,bJ,bC,cw,b4,bR,bK,_,_,_⟩:=U
   exact Ah ⟨[aL,au,a0,O,aa],[],[a7,a6],[]⟩ (.inr (.inr ((⟨bc,_,_,_,_,_,_,_,rfl,(MS.mv U),(by first|assumption|(subst_vars;exact AP.snoc J asm)),A9,kn,kn,kn,kn,kn,kn⟩))))
  exact Ah v0 (.inr (.inl rfl))
 exact Ah v0 (.inr (.inl rfl))
theorem AoT:Yz true 13 59:=by
 intro m ab Γ K M f depth loop pure bl pos j count left call v B V R h
 have ⟨hm,bB,bv,bI,bw,bx,bG,bA,bE,bz,bH⟩:=R;have ⟨hB,hl,hvl,GP,hV,hb,hc,hd⟩:=hm;have bD:G 3=40:=rfl;have bF:G 2=12:=rfl;have bC:G (3-1)=12:=rfl
 refine .of (t:=Afx) rfl ?_
 conv=>arg 3;reduce
 obtain ⟨_,⟨al,q,rfl,bo,bp,bm⟩,G1⟩:=Yr hB hl pos j count left call v V
 refine ch G1 ?_
 obtain ⟨_,(rfl|⟨J,ad,Z,af,rfl,L,aN,aD,a7,a0,ba⟩|⟨bn,N,aa,aj,x,P,ac,ao,rfl,I,aY,aM,a9,a5,aU,ax,aP,bi⟩),Y⟩:=AoR @ab f depth loop pure j (1+(al%3)) bl q j count left call v B V (MS.mv R)
 ·refine ch Y ?_
  refine de [] ?_
  refine ll 0 [] ?_
  refine fr ?_
  obtain ⟨_,(⟨H,ag,Q,ae,rfl,O,aC,a6,aA,aB,a4⟩|rfl|⟨bt,C,ah,ak,z,X,ai,an,rfl,A,aW,bg,bj,a8,aQ,bc,aE,ay⟩),U⟩:=AoP @ab f depth loop pure j 0 (1+(al%3)) bl q j count left call v [] B V (MS.mv R) (AP.nil (left:=left) om)
  ·refine ch U ?_
   have ⟨_,_,bf,aI,aH,a3,aZ,bh,_,_,_⟩:=O
   refine ll H ae ?_
   refine fr ?_
   exact Ah ⟨[H,ag,Q],[],[ae],[]⟩ (.inl (⟨_,_,_,_,rfl,(MS.mv O),(by first|exact I3.nil om|exact I3.mk asm),kn,kn,kn⟩))
  ·refine cm U ?_
   refine ch U ?_
   exact Ah ⟨[0,q,left],[],[[]],[]⟩ (.inl (⟨_,_,_,_,rfl,(MS.mv R),(by first|exact I3.nil om|exact I3.mk asm),kn,kn,kn⟩))
  refine cm U ?_
  refine cm U ?_
  refine ch U ?_
  have ⟨_,_,au,a1,aq,aF,be,az,_,_,_⟩:=A
  refine Dv j 0 ?_
  refine E6 j ak ?_
  refine ll C ai ?_
  refine fr ?_
  exact Ah ⟨[C,ah,j,z,X],[],[ai,an],[]⟩ (.inr ((⟨_,_,_,_,_,_,rfl,(MS.back R (MS.mv A) asm om),(by first|exact I3.nil om|exact I3.mk asm),A9,kn,kn,kn,kn⟩)))
 ·refine cm Y ?_
  refine ch Y ?_
  have ⟨_,_,aV,aw,aJ,av,aG,aO,_,_,_⟩:=L
  refine ll J af ?_
  refine fr ?_
  exact Ah ⟨[J,ad,Z],[],[af],[]⟩ (.inl (⟨_,_,_,_,rfl,(MS.mv L),(by first|exact I3.nil om|exact I3.mk asm),kn,kn,kn⟩))
 refine cm Y ?_
 refine cm Y ?_
 refine ch Y ?_
 have ⟨_,_,aX,aK,aR,bb,a2,aL,_,_,_⟩:=I
 refine Dv j 0 ?_
 refine E6 j aj ?_
 refine ll N ac ?_
 refine fr ?_
 exact Ah ⟨[N,aa,j,x,P],[],[ac,ao],[]⟩ (.inr ((⟨_,_,_,_,_,_,rfl,(MS.back R (MS.mv I) asm om),(by first|exact I3.nil om|exact I3.mk asm),A9,kn,kn,kn,kn⟩)))
theorem AlG:Aed true 13:=@UN true 0 13 12 9 20 21 22 23 24 25 59 8 58 rfl @Yr @AhC @Apt @V7 @Aps @Apr @AhB @AoT @Lr @Ah8 (fun _ _=>FX.of @RE)
end
end Go.Proofs.YtaolbokoijfhnaaGreatDoor.Am
