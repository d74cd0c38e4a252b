/- Part 16 of the proof of TypesRenames. -/
import Derived.Test.YtbmofjdmgjpfoaaGreatDoorE11
import Derived.Test.YtbmofjdmgjpfoaaGreatDoorE15
set_option linter.all false
section
set_option maxHeartbeats 4000000
set_option maxRecDepth 100000
namespace Go.Proofs.YtbmofjdmgjpfoaaGreatDoor.Am
open Go.AM Go.AM.K
def AqH (J N:Nat) (m n:Nat):Prop:=∀{Γ:Ctx} {K M:Int} {z:Ctx} {k:Int} (f depth:Int) (loop pure:Int) (D y:Int) (it bl:Int) (pos u:Int) (count left:Int) (call d:Int) (B R V:Rs) (O:MS false Γ f K M bl pos u count left call d B V) (P:AT loop pure (depth+1) z Γ k left R) (h:0≤depth∧depth≤2∧(pure=0∨pure=1)∧(loop=0∨loop=1)∧depth.toNat<m∧it≤10∧y=R.length∧y+it≤20∧0≤y∧it.toNat<n),Ok trees N ⟨[f,depth,loop,pure,D,y,it,bl,pos,u,count,left,call,d],[],[B,R,V],[]⟩ fun C=>(C=(0,v0))∨(∃(g c left':Int),∃(o:Rs),C=(1,(⟨[g,c,left'],[],[o],[]⟩:Ah))∧(MS false Γ f K M bl c u count left' call d B V)∧(AT loop pure (depth+1) z Γ k left' o)∧(g=o.length)∧(g≤20)∧(left'≤left)∧(c+300*left'≤pos+300*left))∨(∃(H:Ctx),∃(g c x j left':Int),∃(o A:Rs),C=(2,(⟨[g,c,x,j,left'],[],[o,A],[]⟩:Ah))∧(MS false H f K M bl c x j left' call d B A)∧(AT loop pure (depth+1) z H k left' o)∧(Ext u V A)∧(count≤j)∧(u≤x)∧(g=o.length)∧(g≤20)∧(left'≤left)∧(c+300*left'≤pos+300*left))
def Aqj (J N:Nat):Prop:=∀{m:Nat} (O:G0 false J m) {Γ:Ctx} {K M:Int} {z:Ctx} {k:Int} (f depth:Int) (loop pure:Int) (D y:Int) (it bl:Int) (pos u:Int) (count left:Int) (call d:Int) (B R V:Rs) (P:MS false Γ f K M bl pos u count left call d B V) (Q:AT loop pure (depth+1) z Γ k left R) (h:0≤depth∧depth≤2∧(pure=0∨pure=1)∧(loop=0∨loop=1)∧depth.toNat<m∧it≤10∧y=R.length∧y+it≤20∧0≤y:=by exact kn),Ok trees N ⟨[f,depth,loop,pure,D,y,it,bl,pos,u,count,left,call,d],[],[B,R,V],[]⟩ fun C=>(C=(0,v0))∨(∃(g c left':Int),∃(o:Rs),C=(1,(⟨[g,c,left'],[],[o],[]⟩:Ah))∧(MS false Γ f K M bl c u count left' call d B V)∧(AT loop pure (depth+1) z Γ k left' o)∧(g=o.length)∧(g≤20)∧(left'≤left)∧(c+300*left'≤pos+300*left))∨(∃(H:Ctx),∃(g c x j left':Int),∃(o A:Rs),C=(2,(⟨[g,c,x,j,left'],[],[o,A],[]⟩:Ah))∧(MS false H f K M bl c x j left' call d B A)∧(AT loop pure (depth+1) z H k left' o)∧(Ext u V A)∧(count≤j)∧(u≤x)∧(g=o.length)∧(g≤20)∧(left'≤left)∧(c+300*left'≤pos+300*left))
theorem Aok {m:Nat} (bc:G0 false 12 m) (n:Nat):AqH 12 65 m n:=by
 induction n with
 |zero=>intro Γ K M Γ0 aw f depth loop pure aq rl it bl pos vl count left call d B R V hM u h;exact absurd h.2.2.2.2.2.2.2.2.2 (Nat.not_lt_zero _)
 |succ n ih=>
 intro Γ K M Γ0 aw f depth loop pure aq rl it bl pos vl count left call d B R V hM u h
 have ⟨hm,c4,c5,c1,c8,c2,c6,cY,c3,c7,cW⟩:=hM;have ⟨hB,hl,hvl,H6,hV,hb,hc,hd⟩:=hm;have cZ:G 3=40:=rfl;have c9:G 2=12:=rfl;have cX:G (3-1)=12:=rfl
 refine .of (t:=AdU) rfl ?_
 unfold AdU
 refine gt it 0 (fun t1=>?_) fun t1=>?_
 ·refine gt left 0 (fun t2=>?_) fun t2=>?_
  ·obtain ⟨_,(⟨a6,bd,a2,aU,aW,aG,aC,aV,aQ,aB,a0,ax,aK,aD,aF,z,g,bh,aI,ay,ad,ao,ac,ah,rfl,k,bJ,cC,cJ,cy,cH,bo,cp⟩|⟨ae,be,a1,a3,aE,aX,aN,aZ,aH,az,aJ,aO,y,o,c,j,a5,av,ap,ai,am,aj,D,rfl,x,b2,bt,bQ,cD,cB,bU,cw,bp,bB,bn⟩),G3⟩:=bc f depth 0 loop pure bl pos vl count left call d B V (MS.mv hM) kn
   ·refine ch G3 ?_
    have ⟨_,_,cj,bV,bW,cx,b8,cr,_,_,_⟩:=k
    refine ll aV ad ?_
    refine ll aK ao ?_
    refine ll aD ac ?_
    refine ll aF ah ?_
    refine dL (R++[AZ a6 bd 0 a2 bh aU aW aG aI aC ad aQ aB a0 ay ax ao ac ah]) (fun W4 e4=>?_) (BC (pw rl R) pe)
    have f4:=cL e4;try simp only [lA,lC,lN,lT']at f4
    refine FM (W4.length:Int) 1048576 ?_
    obtain ⟨_,(rfl|⟨aR,ak,X,bm,rfl,H,b9,cA,ce,b4,bN⟩|⟨bg,au,an,aM,A,Z,a8,bf,rfl,J,b6,cE,bx,bZ,bv,cN,bL,bS⟩),Q⟩:=ih f depth loop pure aq (W4.length:Int) (it-1) bl z vl count g call d B W4 V (MS.mv k) (by subst_vars;exact AT.snoc u ‹_›) kn
    ·refine ch Q ?_
     exact Ai ⟨[(W4.length:Int),z,g],[],[W4],[]⟩ (.inr (.inl (⟨_,_,_,_,rfl,(MS.mv k),(by first|assumption|(subst_vars;exact AT.snoc u ‹_›)),kn,kn,kn,kn⟩)))
    ·refine cm Q ?_
     refine ch Q ?_
     have ⟨_,_,bw,cG,bA,bR,bz,bq,_,_,_⟩:=H
     exact Ai ⟨[aR,ak,X],[],[bm],[]⟩ (.inr (.inl (⟨_,_,_,_,rfl,(MS.mv H),(by first|assumption|(subst_vars;exact AT.snoc u ‹_›)),kn,kn,kn,kn⟩)))
    refine cm Q ?_
    refine cm Q ?_
    refine ch Q ?_
    have ⟨_,_,cc,ct,b5,b0,cf,br,_,_,_⟩:=J
    exact Ai ⟨[au,an,aM,A,Z],[],[a8,bf],[]⟩ (.inr (.inr ((⟨bg,_,_,_,_,_,_,_,rfl,(MS.mv J),(by first|assumption|(subst_vars;exact AT.snoc u ‹_›)),AA,kn,kn,kn,kn,kn,kn⟩))))
   refine cm G3 ?_
   refine ch G3 ?_
   have ⟨_,_,cF,co,bM,bK,bI,cv,_,_,_⟩:=x
   refine ll aH ap ?_
   refine ll az ai ?_
   refine ll aJ am ?_
   refine ll aO aj ?_
   refine dL (R++[AZ be 0 a1 a3 a5 aE aX aN av aZ ap 0 0 0 [] 0 ai am aj]) (fun W6 e6=>?_) (BC (pw rl R) pe)
   have f6:=cL e6;try simp only [lA,lC,lN,lT']at f6
   refine FM (W6.length:Int) 1048576 ?_
   obtain ⟨_,(rfl|⟨aA,af,aa,bk,rfl,N,bE,cb,cz,bX,cK⟩|⟨bb,aL,ag,aY,C,U,a4,bi,rfl,O,cI,cu,bD,bG,bO,b3,ci,cd⟩),P⟩:=ih f depth loop pure aq (W6.length:Int) (it-1) bl y o c j call d B W6 D (MS.mv x) (by subst_vars;exact AT.snoc u ‹_›) kn
   ·refine ch P ?_
    exact Ai ⟨[(W6.length:Int),y,o,c,j],[],[W6,D],[]⟩ (.inr (.inr ((⟨ae,_,_,_,_,_,_,_,rfl,(MS.mv x),(by first|assumption|(subst_vars;exact AT.snoc u ‹_›)),AA,kn,kn,kn,kn,kn,kn⟩))))
   ·refine cm P ?_
    refine ch P ?_
    have ⟨_,_,bC,cM,cg,b7,bY,cq,_,_,_⟩:=N
    exact Ai ⟨[aA,af,o,c,aa],[],[bk,D],[]⟩ (.inr (.inr ((⟨ae,_,_,_,_,_,_,_,rfl,(MS.mv N),(by first|assumption|(subst_vars;exact AT.snoc u ‹_›)),AA,kn,kn,kn,kn,kn,kn⟩))))
   refine cm P ?_
   refine cm P ?_
   refine ch P ?_
   have ⟨_,_,bP,bF,b1,bH,bT,cn,_,_,_⟩:=O
   exact Ai ⟨[aL,ag,aY,C,U],[],[a4,bi],[]⟩ (.inr (.inr ((⟨bb,_,_,_,_,_,_,_,rfl,(MS.mv O),(by first|assumption|(subst_vars;exact AT.snoc u ‹_›)),AA,kn,kn,kn,kn,kn,kn⟩))))
  exact Ai v0 (.inl rfl)
 exact Ai v0 (.inl rfl)
theorem Wo:Aqj 12 65:=fun {m} hC12 {Γ} {K} {M} {Γ0} {left0} f depth loop pure vn0 rl it bl pos vl count left call loads B R V hM hL h=>Aok @hC12 (it.toNat+1) f depth loop pure vn0 rl it bl pos vl count left call loads B R V hM hL ⟨h.1,h.2.1,h.2.2.1,h.2.2.2.1,h.2.2.2.2.1,h.2.2.2.2.2.1,h.2.2.2.2.2.2.1,h.2.2.2.2.2.2.2.1,h.2.2.2.2.2.2.2.2,Nat.lt_succ_self _⟩
def Aqm (A N:Nat):Prop:=∀{m:Nat} (C:G0 false A m) {Γ:Ctx} {K M:Int} (f depth:Int) (loop pure:Int) (vn0 it:Int) (u pos:Int) (k count:Int) (left call loads:Int) (B V:Rs) (D:MS false Γ f K M u pos k count left call loads B V) (h:0≤depth∧depth≤2∧(pure=0∨pure=1)∧(loop=0∨loop=1)∧depth.toNat<m∧it≤10:=by exact kn),Ok trees N ⟨[f,depth,loop,pure,vn0,it,u,pos,k,count,left,call,loads],[],[B,V],[]⟩ fun y=>(y=(0,v0))∨(∃(d c left':Int),∃(j:Rs),y=(1,(⟨[d,c,left'],[],[j],[]⟩:Ah))∧(MS false Γ f K M u c k count left' call loads B V)∧(AT loop pure (depth+1) Γ Γ left left' j)∧(d=j.length)∧(d≤20)∧(left'≤left)∧(c+300*left'≤pos+300*left))∨(∃(z:Ctx),∃(d c o g left':Int),∃(j x:Rs),y=(2,(⟨[d,c,o,g,left'],[],[j,x],[]⟩:Ah))∧(MS false z f K M u c o g left' call loads B x)∧(AT loop pure (depth+1) Γ z left left' j)∧(Ext k V x)∧(count≤g)∧(k≤o)∧(d=j.length)∧(d≤20)∧(left'≤left)∧(c+300*left'≤pos+300*left))
theorem AoZ:Aqm 12 62:=by
 intro m C Γ K M f depth loop pure aV it bl pos vl count left call k B V hM h
 have ⟨hm,cY,cZ,cV,c3,cW,c1,cT,cX,c2,cR⟩:=hM;have ⟨hB,hl,hvl,H6,hV,hb,hc,hd⟩:=hm;have cU:G 3=40:=rfl;have c4:G 2=12:=rfl;have cS:G (3-1)=12:=rfl
 refine .of (t:=AdW) rfl ?_
 unfold AdW
 refine gt it 0 (fun t1=>?_) fun t1=>?_
 ·refine gt left 0 (fun t2=>?_) fun t2=>?_
  ·obtain ⟨_,(⟨a2,a6,aY,aM,aO,aB,ax,aN,aK,aw,aU,ap,aF,ay,aA,y,d,bc,aD,aq,ab,al,aa,af,rfl,j,bF,cy,cF,cu,cD,bj,ci⟩|⟨ac,a8,aW,aZ,az,aP,aI,aR,aC,au,aE,aJ,x,o,c,g,a1,ao,am,ag,aj,ah,D,rfl,u,bY,bp,bM,cz,cx,bQ,cr,bk,bw,bi⟩),G3⟩:=C f depth 0 loop pure bl pos vl count left call k B V (MS.mv hM) kn
   ·refine ch G3 ?_
    have ⟨_,_,ce,bR,bS,ct,b4,cn,_,_,_⟩:=j
    refine ll aN ab ?_
    refine ll aF al ?_
    refine ll ay aa ?_
    refine ll aA af ?_
    refine dL [AZ a2 a6 0 aY bc aM aO aB aD ax ab aK aw aU aq ap al aa af] (fun W4 e4=>?_)
    have f4:=cL e4;try simp only [lA,lC,lN,lT']at f4
    refine ll 1 W4 ?_
    obtain ⟨_,(rfl|⟨aL,ai,U,bf,rfl,H,b5,cw,b9,b0,bJ⟩|⟨bb,an,ak,aH,z,X,a3,ba,rfl,J,b2,cA,br,bV,bo,cI,bH,bO⟩),Q⟩:=Wo @C f depth loop pure aV 1 (it-1) bl y vl count d call k B W4 V (MS.mv j) (by subst_vars;exact AT.one ‹_› om)
    ·refine ch Q ?_
     exact Ai ⟨[1,y,d],[],[W4],[]⟩ (.inr (.inl (⟨_,_,_,_,rfl,(MS.mv j),(by first|assumption|(subst_vars;exact AT.one ‹_› om)),kn,kn,kn,kn⟩)))
    ·refine cm Q ?_
     refine ch Q ?_
     have ⟨_,_,bq,cC,bv,bN,bt,bm,_,_,_⟩:=H
     exact Ai ⟨[aL,ai,U],[],[bf],[]⟩ (.inr (.inl (⟨_,_,_,_,rfl,(MS.mv H),(by first|assumption|(subst_vars;exact AT.one ‹_› om)),kn,kn,kn,kn⟩)))
    refine cm Q ?_
    refine cm Q ?_
    refine ch Q ?_
    have ⟨_,_,b7,co,b1,bW,cb,bn,_,_,_⟩:=J
    exact Ai ⟨[an,ak,aH,z,X],[],[a3,ba],[]⟩ (.inr (.inr ((⟨bb,_,_,_,_,_,_,_,rfl,(MS.mv J),(by first|assumption|(subst_vars;exact AT.one ‹_› om)),AA,kn,kn,kn,kn,kn,kn⟩))))
   refine cm G3 ?_
   refine ch G3 ?_
   have ⟨_,_,cB,cg,bI,bG,bE,cq,_,_,_⟩:=u
   refine ll aC am ?_
   refine ll au ag ?_
   refine ll aE aj ?_
   refine ll aJ ah ?_
   refine dL [AZ a8 0 aW aZ a1 az aP aI ao aR am 0 0 0 [] 0 ag aj ah] (fun W6 e6=>?_)
   have f6:=cL e6;try simp only [lA,lC,lN,lT']at f6
   refine ll 1 W6 ?_
   obtain ⟨_,(rfl|⟨av,ad,Z,be,rfl,N,bA,b6,cv,bT,cG⟩|⟨a5,aG,ae,aQ,A,R,a0,bd,rfl,O,cE,cp,bz,bC,bK,bZ,cd,b8⟩),P⟩:=Wo @C f depth loop pure aV 1 (it-1) bl x o c g call k B W6 D (MS.mv u) (by subst_vars;exact AT.one ‹_› om)
   ·refine ch P ?_
    exact Ai ⟨[1,x,o,c,g],[],[W6,D],[]⟩ (.inr (.inr ((⟨ac,_,_,_,_,_,_,_,rfl,(MS.mv u),(by first|assumption|(subst_vars;exact AT.one ‹_› om)),AA,kn,kn,kn,kn,kn,kn⟩))))
   ·refine cm P ?_
    refine ch P ?_
    have ⟨_,_,bx,cH,cc,b3,bU,cj,_,_,_⟩:=N
    exact Ai ⟨[av,ad,o,c,Z],[],[be,D],[]⟩ (.inr (.inr ((⟨ac,_,_,_,_,_,_,_,rfl,(MS.mv N),(by first|assumption|(subst_vars;exact AT.one ‹_› om)),AA,kn,kn,kn,kn,kn,kn⟩))))
   refine cm P ?_
   refine cm P ?_
   refine ch P ?_
   have ⟨_,_,bL,bB,bX,bD,bP,cf,_,_,_⟩:=O
   exact Ai ⟨[aG,ae,aQ,A,R],[],[a0,bd],[]⟩ (.inr (.inr ((⟨a5,_,_,_,_,_,_,_,rfl,(MS.mv O),(by first|assumption|(subst_vars;exact AT.one ‹_› om)),AA,kn,kn,kn,kn,kn,kn⟩))))
  exact Ai v0 (.inl rfl)
 exact Ai v0 (.inl rfl)
def Aqd (J N:Nat):Prop:=∀{m:Nat} (O:G0 false J m) {Γ:Ctx} {K M:Int} {z:Ctx} {k:Int} (f depth:Int) (loop pure:Int) (D y:Int) (it bl:Int) (pos u:Int) (count left:Int) (call d:Int) (R B V:Rs) (P:MS false Γ f K M bl pos u count left call d B V) (Q:AT loop pure (depth+1) z Γ k left R) (h:0≤depth∧depth≤2∧(pure=0∨pure=1)∧(loop=0∨loop=1)∧depth.toNat<m∧it≤10∧y=R.length∧y+it≤20∧0≤y:=by exact kn),Ok trees N ⟨[f,depth,loop,pure,D,y,it,bl,pos,u,count,left,call,d],[],[R,B,V],[]⟩ fun C=>(∃(g c left':Int),∃(o:Rs),C=(0,(⟨[g,c,left'],[],[o],[]⟩:Ah))∧(MS false Γ f K M bl c u count left' call d B V)∧(AT loop pure (depth+1) z Γ k left' o)∧(g=o.length)∧(g≤20)∧(left'≤left)∧(c+300*left'≤pos+300*left))∨(C=(1,v0))∨(∃(H:Ctx),∃(g c x j left':Int),∃(o A:Rs),C=(2,(⟨[g,c,x,j,left'],[],[o,A],[]⟩:Ah))∧(MS false H f K M bl c x j left' call d B A)∧(AT loop pure (depth+1) z H k left' o)∧(Ext u V A)∧(count≤j)∧(u≤x)∧(g=o.length)∧(g≤20)∧(left'≤left)∧(c+300*left'≤pos+300*left))
theorem AoV:Aqd 12 71:=by
 intro m D Γ K M Γ0 bq f depth loop pure aZ rl it bl pos vl count left call k R B V hM y h
 have ⟨hm,c2,c3,cY,c6,cZ,c4,cW,c1,c5,cU⟩:=hM;have ⟨hB,hl,hvl,H6,hV,hb,hc,hd⟩:=hm;have cX:G 3=40:=rfl;have c7:G 2=12:=rfl;have cV:G (3-1)=12:=rfl
 refine .of (t:=AdQ) rfl ?_
 unfold AdQ
 refine gt it 0 (fun t1=>?_) fun t1=>?_
 ·refine gt left 0 (fun t2=>?_) fun t2=>?_
  ·obtain ⟨_,(⟨a5,a9,a1,aQ,aU,aF,aB,aR,aO,aA,aY,aw,aJ,aC,aE,z,d,be,aH,ax,ae,ap,ad,ai,rfl,j,bI,cB,cI,cx,cG,bm,co⟩|⟨af,bb,a0,a2,aD,aV,aM,aX,aG,ay,aI,aN,x,o,c,g,a4,av,aq,aj,an,ak,H,rfl,u,b1,br,bP,cC,cA,bT,cv,bn,bA,bk⟩),G3⟩:=D f depth 0 loop pure bl pos vl count left call k B V (MS.mv hM) kn
   ·refine ch G3 ?_
    have ⟨_,_,ci,bU,bV,cw,b7,cq,_,_,_⟩:=j
    refine ll aR ae ?_
    refine ll aJ ap ?_
    refine ll aC ad ?_
    refine ll aE ai ?_
    refine dL (R++[AZ a5 a9 0 a1 be aQ aU aF aH aB ae aO aA aY ax aw ap ad ai]) (fun W4 e4=>?_) (BC rfl pe)
    have f4:=cL e4;try simp only [lA,lC,lN,lT']at f4
    refine FM (W4.length:Int) 1048576 ?_
    obtain ⟨_,(rfl|⟨aP,al,Z,bh,rfl,J,b8,cz,cd,b3,bM⟩|⟨bd,au,ao,aL,A,aa,a6,bc,rfl,N,b5,cD,bw,bY,bt,cM,bK,bR⟩),U⟩:=Wo @D f depth loop pure aZ (W4.length:Int) (it-1) bl z vl count d call k B W4 V (MS.mv j) (by subst_vars;exact AT.snoc y ‹_›)
    ·refine ch U ?_
     exact Ai ⟨[(W4.length:Int),z,d],[],[W4],[]⟩ (.inl (⟨_,_,_,_,rfl,(MS.mv j),(by first|assumption|(subst_vars;exact AT.snoc y ‹_›)),kn,kn,kn,kn⟩))
    ·refine cm U ?_
     refine ch U ?_
     have ⟨_,_,bv,cF,bz,bQ,bx,bo,_,_,_⟩:=J
     exact Ai ⟨[aP,al,Z],[],[bh],[]⟩ (.inl (⟨_,_,_,_,rfl,(MS.mv J),(by first|assumption|(subst_vars;exact AT.snoc y ‹_›)),kn,kn,kn,kn⟩))
    refine cm U ?_
    refine cm U ?_
    refine ch U ?_
    have ⟨_,_,cb,cr,b4,bZ,ce,bp,_,_,_⟩:=N
    exact Ai ⟨[au,ao,aL,A,aa],[],[a6,bc],[]⟩ (.inr (.inr ((⟨bd,_,_,_,_,_,_,_,rfl,(MS.mv N),(by first|assumption|(subst_vars;exact AT.snoc y ‹_›)),AA,kn,kn,kn,kn,kn,kn⟩))))
   refine cm G3 ?_
   refine ch G3 ?_
   have ⟨_,_,cE,cn,bL,bJ,bH,cu,_,_,_⟩:=u
   refine ll aG aq ?_
   refine ll ay aj ?_
   refine ll aI an ?_
   refine ll aN ak ?_
   refine dL (R++[AZ bb 0 a0 a2 a4 aD aV aM av aX aq 0 0 0 [] 0 aj an ak]) (fun W6 e6=>?_) (BC rfl pe)
   have f6:=cL e6;try simp only [lA,lC,lN,lT']at f6
   refine FM (W6.length:Int) 1048576 ?_
   obtain ⟨_,(rfl|⟨az,ag,ab,bg,rfl,O,bD,b9,cy,bW,cJ⟩|⟨a8,aK,ah,aW,C,X,a3,bf,rfl,P,cH,ct,bC,bF,bN,b2,cg,cc⟩),Q⟩:=Wo @D f depth loop pure aZ (W6.length:Int) (it-1) bl x o c g call k B W6 H (MS.mv u) (by subst_vars;exact AT.snoc y ‹_›)
   ·refine ch Q ?_
    exact Ai ⟨[(W6.length:Int),x,o,c,g],[],[W6,H],[]⟩ (.inr (.inr ((⟨af,_,_,_,_,_,_,_,rfl,(MS.mv u),(by first|assumption|(subst_vars;exact AT.snoc y ‹_›)),AA,kn,kn,kn,kn,kn,kn⟩))))
   ·refine cm Q ?_
    refine ch Q ?_
    have ⟨_,_,bB,cK,cf,b6,bX,cp,_,_,_⟩:=O
    exact Ai ⟨[az,ag,o,c,ab],[],[bg,H],[]⟩ (.inr (.inr ((⟨af,_,_,_,_,_,_,_,rfl,(MS.mv O),(by first|assumption|(subst_vars;exact AT.snoc y ‹_›)),AA,kn,kn,kn,kn,kn,kn⟩))))
   refine cm Q ?_
   refine cm Q ?_
   refine ch Q ?_
   have ⟨_,_,bO,bE,b0,bG,bS,cj,_,_,_⟩:=P
   exact Ai ⟨[aK,ah,aW,C,X],[],[a3,bf],[]⟩ (.inr (.inr ((⟨a8,_,_,_,_,_,_,_,rfl,(MS.mv P),(by first|assumption|(subst_vars;exact AT.snoc y ‹_›)),AA,kn,kn,kn,kn,kn,kn⟩))))
  exact Ai v0 (.inr (.inl rfl))
 exact Ai v0 (.inr (.inl rfl))
theorem Ai7:Z8 false 12 58:=by
 intro m af Γ K M f depth loop pure bl pos c count left call d B V O h
 have ⟨hm,bp,bt,bv,bA,bw,bx,bq,bB,bz,bn⟩:=O;have ⟨hB,hl,hvl,H6,hV,hb,hc,hd⟩:=hm;have br:G 3=40:=rfl;have bC:G 2=12:=rfl;have bo:G (3-1)=12:=rfl
 refine .of (t:=AdZ) rfl ?_
 unfold AdZ
 obtain ⟨_,⟨ai,g,rfl,bk,bm,bi⟩,G1⟩:=Ma hB hl pos c count left call d V
 refine ch G1 ?_
 obtain ⟨_,(rfl|⟨u,ae,Q,U,rfl,x,aR,ao,a4,aI,aG⟩|⟨bh,z,ad,ah,j,N,Z,ak,rfl,D,bc,az,aM,aB,aX,aJ,av,au⟩),R⟩:=AoZ @af f depth loop pure c (1+(ai%3)) bl g c count left call d B V (MS.mv O)
 ·refine ch R ?_
  refine CG c 0 ?_
  refine FM c c ?_
  refine de [] ?_
  refine ll 0 [] ?_
  refine fr ?_
  obtain ⟨_,(⟨C,ab,J,X,rfl,o,aW,aV,a7,aO,a5⟩|rfl|⟨bf,y,aa,ag,k,H,ac,aj,rfl,A,aY,a6,bd,aA,aq,aQ,am,ba⟩),P⟩:=AoV @af f depth loop pure c 0 (1+(ai%3)) bl g c count left call d [] B V (MS.mv O) (AT.nil (left:=left) om)
  ·refine ch P ?_
   have ⟨_,_,aF,a9,bb,aN,aC,aK,_,_,_⟩:=o
   refine ll C X ?_
   refine fr ?_
   exact Ai ⟨[C,ab,J],[],[X],[]⟩ (.inl (⟨_,_,_,_,rfl,(MS.mv o),(by first|exact IZ.nil om|exact IZ.mk ‹_›),kn,kn,kn⟩))
  ·refine cm P ?_
   refine ch P ?_
   exact Ai ⟨[0,g,left],[],[[]],[]⟩ (.inl (⟨_,_,_,_,rfl,(MS.mv O),(by first|exact IZ.nil om|exact IZ.mk ‹_›),kn,kn,kn⟩))
  refine cm P ?_
  refine cm P ?_
  refine ch P ?_
  have ⟨_,_,aZ,ay,aL,aw,a8,a2,_,_,_⟩:=A
  refine FM c ag ?_
  refine ll y ac ?_
  refine fr ?_
  exact Ai ⟨[y,aa,c,k,H],[],[ac,aj],[]⟩ (.inr ((⟨_,_,_,_,_,_,rfl,(MS.back O (MS.mv A) ‹_› om),(by first|exact IZ.nil om|exact IZ.mk ‹_›),AA,kn,kn,kn,kn⟩)))
 ·refine cm R ?_
  refine ch R ?_
  have ⟨_,_,an,a1,ax,a0,aD,ap,_,_,_⟩:=x
  refine CG c 0 ?_
  refine FM c c ?_
  refine ll u U ?_
  refine fr ?_
  exact Ai ⟨[u,ae,Q],[],[U],[]⟩ (.inl (⟨_,_,_,_,rfl,(MS.mv x),(by first|exact IZ.nil om|exact IZ.mk ‹_›),kn,kn,kn⟩))
 refine cm R ?_
 refine cm R ?_
 refine ch R ?_
 have ⟨_,_,a3,aE,aU,aH,be,aP,_,_,_⟩:=D
 refine CG c 0 ?_
 refine FM c ah ?_
 refine ll z Z ?_
 refine fr ?_
 exact Ai ⟨[z,ad,c,j,N],[],[Z,ak],[]⟩ (.inr ((⟨_,_,_,_,_,_,rfl,(MS.back O (MS.mv D) ‹_› om),(by first|exact IZ.nil om|exact IZ.mk ‹_›),AA,kn,kn,kn,kn⟩)))
theorem Sb:Afm false 12:=@VB false 1 12 12 8 14 15 16 17 18 19 58 8 58 rfl @Ma @AiF @Ap1 @J3 @OQ @Ap0 @AiE @Ai7 @Ma @Ai7 (fun _ h=>h)
def AqG (J N:Nat) (m n:Nat):Prop:=∀{Γ:Ctx} {K M:Int} {z:Ctx} {k:Int} (f depth:Int) (loop pure:Int) (D y:Int) (it bl:Int) (pos u:Int) (count left:Int) (call d:Int) (B V R:Rs) (O:MS true Γ f K M bl pos u count left call d B V) (P:AT loop pure (depth+1) z Γ k left R) (h:0≤depth∧depth≤2∧(pure=0∨pure=1)∧(loop=0∨loop=1)∧depth.toNat<m∧it≤10∧y=R.length∧y+it≤20∧0≤y∧it.toNat<n),Ok trees N ⟨[f,depth,loop,pure,D,y,it,bl,pos,u,count,left,call,d],[],[B,V,R],[]⟩ fun C=>(C=(0,v0))∨(∃(g c left':Int),∃(o:Rs),C=(1,(⟨[g,c,left'],[],[o],[]⟩:Ah))∧(MS true Γ f K M bl c u count left' call d B V)∧(AT loop pure (depth+1) z Γ k left' o)∧(g=o.length)∧(g≤20)∧(left'≤left)∧(c+300*left'≤pos+300*left))∨(∃(H:Ctx),∃(g c x j left':Int),∃(o A:Rs),C=(2,(⟨[g,c,x,j,left'],[],[o,A],[]⟩:Ah))∧(MS false H f K M bl c x j left' call d B A)∧(AT loop pure (depth+1) z H k left' o)∧(Ext u V A)∧(count≤j)∧(u≤x)∧(g=o.length)∧(g≤20)∧(left'≤left)∧(c+300*left'≤pos+300*left))
def Aqi (J N:Nat):Prop:=∀{m:Nat} (O:G0 true J m) {Γ:Ctx} {K M:Int} {z:Ctx} {k:Int} (f depth:Int) (loop pure:Int) (D y:Int) (it bl:Int) (pos u:Int) (count left:Int) (call d:Int) (B V R:Rs) (P:MS true Γ f K M bl pos u count left call d B V) (Q:AT loop pure (depth+1) z Γ k left R) (h:0≤depth∧depth≤2∧(pure=0∨pure=1)∧(loop=0∨loop=1)∧depth.toNat<m∧it≤10∧y=R.length∧y+it≤20∧0≤y:=by exact kn),Ok trees N ⟨[f,depth,loop,pure,D,y,it,bl,pos,u,count,left,call,d],[],[B,V,R],[]⟩ fun C=>(C=(0,v0))∨(∃(g c left':Int),∃(o:Rs),C=(1,(⟨[g,c,left'],[],[o],[]⟩:Ah))∧(MS true Γ f K M bl c u count left' call d B V)∧(AT loop pure (depth+1) z Γ k left' o)∧(g=o.length)∧(g≤20)∧(left'≤left)∧(c+300*left'≤pos+300*left))∨(∃(H:Ctx),∃(g c x j left':Int),∃(o A:Rs),C=(2,(⟨[g,c,x,j,left'],[],[o,A],[]⟩:Ah))∧(MS false H f K M bl c x j left' call d B A)∧(AT loop pure (depth+1) z H k left' o)∧(Ext u V A)∧(count≤j)∧(u≤x)∧(g=o.length)∧(g≤20)∧(left'≤left)∧(c+300*left'≤pos+300*left))
theorem Aoj {m:Nat} (bc:G0 true 13 m) (n:Nat):AqG 13 66 m n:=by
 induction n with
 |zero=>intro Γ K M Γ0 aw f depth loop pure aq rl it bl pos vl count left call d B V R hM u h;exact absurd h.2.2.2.2.2.2.2.2.2 (Nat.not_lt_zero _)
 |succ n ih=>
 intro Γ K M Γ0 aw f depth loop pure aq rl it bl pos vl count left call d B V R hM u h
 have ⟨hm,c4,c5,c1,c8,c2,c6,cY,c3,c7,cW⟩:=hM;have ⟨hB,hl,hvl,H6,hV,hb,hc,hd⟩:=hm;have cZ:G 3=40:=rfl;have c9:G 2=12:=rfl;have cX:G (3-1)=12:=rfl
 refine .of (t:=AdT) rfl ?_
 unfold AdT
 refine gt it 0 (fun t1=>?_) fun t1=>?_
 ·refine gt left 0 (fun t2=>?_) fun t2=>?_
  ·obtain ⟨_,(⟨a6,bd,a2,aU,aW,aG,aC,aV,aQ,aB,a0,ax,aK,aD,aF,z,g,bh,aI,ay,ad,ao,ac,ah,rfl,k,bJ,cC,cJ,cy,cH,bo,cp⟩|⟨ae,be,a1,a3,aE,aX,aN,aZ,aH,az,aJ,aO,y,o,c,j,a5,av,ap,ai,am,aj,D,rfl,x,b2,bt,bQ,cD,cB,bU,cw,bp,bB,bn⟩),G3⟩:=bc f depth 0 loop pure bl pos vl count left call d B V (MS.mv hM) kn
   ·refine ch G3 ?_
    have ⟨_,_,cj,bV,bW,cx,b8,cr,_,_,_⟩:=k
    refine ll aV ad ?_
    refine ll aK ao ?_
    refine ll aD ac ?_
    refine ll aF ah ?_
    refine dL (R++[AZ a6 bd 0 a2 bh aU aW aG aI aC ad aQ aB a0 ay ax ao ac ah]) (fun W4 e4=>?_) (BC (pw rl R) pe)
    have f4:=cL e4;try simp only [lA,lC,lN,lT']at f4
    refine FM (W4.length:Int) 1048576 ?_
    obtain ⟨_,(rfl|⟨aR,ak,X,bm,rfl,H,b9,cA,ce,b4,bN⟩|⟨bg,au,an,aM,A,Z,a8,bf,rfl,J,b6,cE,bx,bZ,bv,cN,bL,bS⟩),Q⟩:=ih f depth loop pure aq (W4.length:Int) (it-1) bl z vl count g call d B V W4 (MS.mv k) (by subst_vars;exact AT.snoc u ‹_›) kn
    ·refine ch Q ?_
     exact Ai ⟨[(W4.length:Int),z,g],[],[W4],[]⟩ (.inr (.inl (⟨_,_,_,_,rfl,(MS.mv k),(by first|assumption|(subst_vars;exact AT.snoc u ‹_›)),kn,kn,kn,kn⟩)))
    ·refine cm Q ?_
     refine ch Q ?_
     have ⟨_,_,bw,cG,bA,bR,bz,bq,_,_,_⟩:=H
     exact Ai ⟨[aR,ak,X],[],[bm],[]⟩ (.inr (.inl (⟨_,_,_,_,rfl,(MS.mv H),(by first|assumption|(subst_vars;exact AT.snoc u ‹_›)),kn,kn,kn,kn⟩)))
    refine cm Q ?_
    refine cm Q ?_
    refine ch Q ?_
    have ⟨_,_,cc,ct,b5,b0,cf,br,_,_,_⟩:=J
    exact Ai ⟨[au,an,aM,A,Z],[],[a8,bf],[]⟩ (.inr (.inr ((⟨bg,_,_,_,_,_,_,_,rfl,(MS.mv J),(by first|assumption|(subst_vars;exact AT.snoc u ‹_›)),AA,kn,kn,kn,kn,kn,kn⟩))))
   refine cm G3 ?_
   refine ch G3 ?_
   have ⟨_,_,cF,co,bM,bK,bI,cv,_,_,_⟩:=x
   refine ll aH ap ?_
   refine ll az ai ?_
   refine ll aJ am ?_
   refine ll aO aj ?_
   refine dL (R++[AZ be 0 a1 a3 a5 aE aX aN av aZ ap 0 0 0 [] 0 ai am aj]) (fun W6 e6=>?_) (BC (pw rl R) pe)
   have f6:=cL e6;try simp only [lA,lC,lN,lT']at f6
   refine FM (W6.length:Int) 1048576 ?_
   obtain ⟨_,(rfl|⟨aA,af,aa,bk,rfl,N,bE,cb,cz,bX,cK⟩|⟨bb,aL,ag,aY,C,U,a4,bi,rfl,O,cI,cu,bD,bG,bO,b3,ci,cd⟩),P⟩:=Wo (G0.of (n:=10) @Sb) f depth loop pure aq (W6.length:Int) (it-1) bl y o c j call d B W6 D (MS.mv x) (by subst_vars;exact AT.snoc u ‹_›)
   ·refine ch P ?_
    exact Ai ⟨[(W6.length:Int),y,o,c,j],[],[W6,D],[]⟩ (.inr (.inr ((⟨ae,_,_,_,_,_,_,_,rfl,(MS.mv x),(by first|assumption|(subst_vars;exact AT.snoc u ‹_›)),AA,kn,kn,kn,kn,kn,kn⟩))))
   ·refine cm P ?_
    refine ch P ?_
    have ⟨_,_,bC,cM,cg,b7,bY,cq,_,_,_⟩:=N
    exact Ai ⟨[aA,af,o,c,aa],[],[bk,D],[]⟩ (.inr (.inr ((⟨ae,_,_,_,_,_,_,_,rfl,(MS.mv N),(by first|assumption|(subst_vars;exact AT.snoc u ‹_›)),AA,kn,kn,kn,kn,kn,kn⟩))))
   refine cm P ?_
   refine cm P ?_
   refine ch P ?_
   have ⟨_,_,bP,bF,b1,bH,bT,cn,_,_,_⟩:=O
   exact Ai ⟨[aL,ag,aY,C,U],[],[a4,bi],[]⟩ (.inr (.inr ((⟨bb,_,_,_,_,_,_,_,rfl,(MS.mv O),(by first|assumption|(subst_vars;exact AT.snoc u ‹_›)),AA,kn,kn,kn,kn,kn,kn⟩))))
  exact Ai v0 (.inl rfl)
 exact Ai v0 (.inl rfl)
theorem Ama:Aqi 13 66:=fun {m} hC12 {Γ} {K} {M} {Γ0} {left0} f depth loop pure vn0 rl it bl pos vl count left call loads B V R hM hL h=>Aoj @hC12 (it.toNat+1) f depth loop pure vn0 rl it bl pos vl count left call loads B V R hM hL ⟨h.1,h.2.1,h.2.2.1,h.2.2.2.1,h.2.2.2.2.1,h.2.2.2.2.2.1,h.2.2.2.2.2.2.1,h.2.2.2.2.2.2.2.1,h.2.2.2.2.2.2.2.2,Nat.lt_succ_self _⟩
def Aql (A N:Nat):Prop:=∀{m:Nat} (C:G0 true A m) {Γ:Ctx} {K M:Int} (f depth:Int) (loop pure:Int) (vn0 it:Int) (u pos:Int) (k count:Int) (left call loads:Int) (B V:Rs) (D:MS true Γ f K M u pos k count left call loads B V) (h:0≤depth∧depth≤2∧(pure=0∨pure=1)∧(loop=0∨loop=1)∧depth.toNat<m∧it≤10:=by exact kn),Ok trees N ⟨[f,depth,loop,pure,vn0,it,u,pos,k,count,left,call,loads],[],[B,V],[]⟩ fun y=>(y=(0,v0))∨(∃(d c left':Int),∃(j:Rs),y=(1,(⟨[d,c,left'],[],[j],[]⟩:Ah))∧(MS true Γ f K M u c k count left' call loads B V)∧(AT loop pure (depth+1) Γ Γ left left' j)∧(d=j.length)∧(d≤20)∧(left'≤left)∧(c+300*left'≤pos+300*left))∨(∃(z:Ctx),∃(d c o g left':Int),∃(j x:Rs),y=(2,(⟨[d,c,o,g,left'],[],[j,x],[]⟩:Ah))∧(MS false z f K M u c o g left' call loads B x)∧(AT loop pure (depth+1) Γ z left left' j)∧(Ext k V x)∧(count≤g)∧(k≤o)∧(d=j.length)∧(d≤20)∧(left'≤left)∧(c+300*left'≤pos+300*left))
theorem AoY:Aql 13 63:=by
 intro m af Γ K M f depth loop pure aV it bl pos vl count left call k B V hM h
 have ⟨hm,cY,cZ,cV,c3,cW,c1,cT,cX,c2,cR⟩:=hM;have ⟨hB,hl,hvl,H6,hV,hb,hc,hd⟩:=hm;have cU:G 3=40:=rfl;have c4:G 2=12:=rfl;have cS:G (3-1)=12:=rfl
 refine .of (t:=AdV) rfl ?_
 unfold AdV
 refine gt it 0 (fun t1=>?_) fun t1=>?_
 ·refine gt left 0 (fun t2=>?_) fun t2=>?_
  ·obtain ⟨_,(⟨a2,a6,aY,aM,aO,aB,ax,aN,aK,aw,aU,ap,aF,ay,aA,y,d,bc,aD,aq,aa,al,Z,ae,rfl,j,bF,cy,cF,cu,cD,bj,ci⟩|⟨ab,a8,aW,aZ,az,aP,aI,aR,aC,au,aE,aJ,x,o,c,g,a1,ao,am,ag,aj,ah,C,rfl,u,bY,bp,bM,cz,cx,bQ,cr,bk,bw,bi⟩),G3⟩:=af f depth 0 loop pure bl pos vl count left call k B V (MS.mv hM) kn
   ·refine ch G3 ?_
    have ⟨_,_,ce,bR,bS,ct,b4,cn,_,_,_⟩:=j
    refine ll aN aa ?_
    refine ll aF al ?_
    refine ll ay Z ?_
    refine ll aA ae ?_
    refine dL [AZ a2 a6 0 aY bc aM aO aB aD ax aa aK aw aU aq ap al Z ae] (fun W4 e4=>?_)
    have f4:=cL e4;try simp only [lA,lC,lN,lT']at f4
    refine ll 1 W4 ?_
    obtain ⟨_,(rfl|⟨aL,ai,R,bf,rfl,D,b5,cw,b9,b0,bJ⟩|⟨bb,an,ak,aH,z,U,a3,ba,rfl,H,b2,cA,br,bV,bo,cI,bH,bO⟩),P⟩:=Ama @af f depth loop pure aV 1 (it-1) bl y vl count d call k B V W4 (MS.mv j) (by subst_vars;exact AT.one ‹_› om)
    ·refine ch P ?_
     exact Ai ⟨[1,y,d],[],[W4],[]⟩ (.inr (.inl (⟨_,_,_,_,rfl,(MS.mv j),(by first|assumption|(subst_vars;exact AT.one ‹_› om)),kn,kn,kn,kn⟩)))
    ·refine cm P ?_
     refine ch P ?_
     have ⟨_,_,bq,cC,bv,bN,bt,bm,_,_,_⟩:=D
     exact Ai ⟨[aL,ai,R],[],[bf],[]⟩ (.inr (.inl (⟨_,_,_,_,rfl,(MS.mv D),(by first|assumption|(subst_vars;exact AT.one ‹_› om)),kn,kn,kn,kn⟩)))
    refine cm P ?_
    refine cm P ?_
    refine ch P ?_
    have ⟨_,_,b7,co,b1,bW,cb,bn,_,_,_⟩:=H
    exact Ai ⟨[an,ak,aH,z,U],[],[a3,ba],[]⟩ (.inr (.inr ((⟨bb,_,_,_,_,_,_,_,rfl,(MS.mv H),(by first|assumption|(subst_vars;exact AT.one ‹_› om)),AA,kn,kn,kn,kn,kn,kn⟩))))
   refine cm G3 ?_
   refine ch G3 ?_
   have ⟨_,_,cB,cg,bI,bG,bE,cq,_,_,_⟩:=u
   refine ll aC am ?_
   refine ll au ag ?_
   refine ll aE aj ?_
   refine ll aJ ah ?_
   refine dL [AZ a8 0 aW aZ a1 az aP aI ao aR am 0 0 0 [] 0 ag aj ah] (fun W6 e6=>?_)
   have f6:=cL e6;try simp only [lA,lC,lN,lT']at f6
   refine ll 1 W6 ?_
   obtain ⟨_,(rfl|⟨av,ac,X,be,rfl,J,bA,b6,cv,bT,cG⟩|⟨a5,aG,ad,aQ,A,Q,a0,bd,rfl,N,cE,cp,bz,bC,bK,bZ,cd,b8⟩),O⟩:=Wo (G0.of (n:=10) @Sb) f depth loop pure aV 1 (it-1) bl x o c g call k B W6 C (MS.mv u) (by subst_vars;exact AT.one ‹_› om)
   ·refine ch O ?_
    exact Ai ⟨[1,x,o,c,g],[],[W6,C],[]⟩ (.inr (.inr ((⟨ab,_,_,_,_,_,_,_,rfl,(MS.mv u),(by first|assumption|(subst_vars;exact AT.one ‹_› om)),AA,kn,kn,kn,kn,kn,kn⟩))))
   ·refine cm O ?_
    refine ch O ?_
    have ⟨_,_,bx,cH,cc,b3,bU,cj,_,_,_⟩:=J
    exact Ai ⟨[av,ac,o,c,X],[],[be,C],[]⟩ (.inr (.inr ((⟨ab,_,_,_,_,_,_,_,rfl,(MS.mv J),(by first|assumption|(subst_vars;exact AT.one ‹_› om)),AA,kn,kn,kn,kn,kn,kn⟩))))
   refine cm O ?_
   refine cm O ?_
   refine ch O ?_
   have ⟨_,_,bL,bB,bX,bD,bP,cf,_,_,_⟩:=N
   exact Ai ⟨[aG,ad,aQ,A,Q],[],[a0,bd],[]⟩ (.inr (.inr ((⟨a5,_,_,_,_,_,_,_,rfl,(MS.mv N),(by first|assumption|(subst_vars;exact AT.one ‹_› om)),AA,kn,kn,kn,kn,kn,kn⟩))))
  exact Ai v0 (.inl rfl)
 exact Ai v0 (.inl rfl)
def Aqc (J N:Nat):Prop:=∀{m:Nat} (O:G0 true J m) {Γ:Ctx} {K M:Int} {z:Ctx} {k:Int} (f depth:Int) (loop pure:Int) (D y:Int) (it bl:Int) (pos u:Int) (count left:Int) (call d:Int) (R B V:Rs) (P:MS true Γ f K M bl pos u count left call d B V) (Q:AT loop pure (depth+1) z Γ k left R) (h:0≤depth∧depth≤2∧(pure=0∨pure=1)∧(loop=0∨loop=1)∧depth.toNat<m∧it≤10∧y=R.length∧y+it≤20∧0≤y:=by exact kn),Ok trees N ⟨[f,depth,loop,pure,D,y,it,bl,pos,u,count,left,call,d],[],[R,B,V],[]⟩ fun C=>(∃(g c left':Int),∃(o:Rs),C=(0,(⟨[g,c,left'],[],[o],[]⟩:Ah))∧(MS true Γ f K M bl c u count left' call d B V)∧(AT loop pure (depth+1) z Γ k left' o)∧(g=o.length)∧(g≤20)∧(left'≤left)∧(c+300*left'≤pos+300*left))∨(C=(1,v0))∨(∃(H:Ctx),∃(g c x j left':Int),∃(o A:Rs),C=(2,(⟨[g,c,x,j,left'],[],[o,A],[]⟩:Ah))∧(MS false H f K M bl c x j left' call d B A)∧(AT loop pure (depth+1) z H k left' o)∧(Ext u V A)∧(count≤j)∧(u≤x)∧(g=o.length)∧(g≤20)∧(left'≤left)∧(c+300*left'≤pos+300*left))
theorem AoU:Aqc 13 72:=by
 intro m ai Γ K M Γ0 bq f depth loop pure aZ rl it bl pos vl count left call k R B V hM y h
 have ⟨hm,c2,c3,cY,c6,cZ,c4,cW,c1,c5,cU⟩:=hM;have ⟨hB,hl,hvl,H6,hV,hb,hc,hd⟩:=hm;have cX:G 3=40:=rfl;have c7:G 2=12:=rfl;have cV:G (3-1)=12:=rfl
 refine .of (t:=AdP) rfl ?_
 unfold AdP
 refine gt it 0 (fun t1=>?_) fun t1=>?_
 ·refine gt left 0 (fun t2=>?_) fun t2=>?_
  ·obtain ⟨_,(⟨a5,a9,a1,aQ,aU,aF,aB,aR,aO,aA,aY,aw,aJ,aC,aE,z,d,be,aH,ax,ad,ap,ac,ah,rfl,j,bI,cB,cI,cx,cG,bm,co⟩|⟨ae,bb,a0,a2,aD,aV,aM,aX,aG,ay,aI,aN,x,o,c,g,a4,av,aq,aj,an,ak,D,rfl,u,b1,br,bP,cC,cA,bT,cv,bn,bA,bk⟩),G3⟩:=ai f depth 0 loop pure bl pos vl count left call k B V (MS.mv hM) kn
   ·refine ch G3 ?_
    have ⟨_,_,ci,bU,bV,cw,b7,cq,_,_,_⟩:=j
    refine ll aR ad ?_
    refine ll aJ ap ?_
    refine ll aC ac ?_
    refine ll aE ah ?_
    refine dL (R++[AZ a5 a9 0 a1 be aQ aU aF aH aB ad aO aA aY ax aw ap ac ah]) (fun W4 e4=>?_) (BC rfl pe)
    have f4:=cL e4;try simp only [lA,lC,lN,lT']at f4
    refine FM (W4.length:Int) 1048576 ?_
    obtain ⟨_,(rfl|⟨aP,al,X,bh,rfl,H,b8,cz,cd,b3,bM⟩|⟨bd,au,ao,aL,A,Z,a6,bc,rfl,J,b5,cD,bw,bY,bt,cM,bK,bR⟩),Q⟩:=Ama @ai f depth loop pure aZ (W4.length:Int) (it-1) bl z vl count d call k B V W4 (MS.mv j) (by subst_vars;exact AT.snoc y ‹_›)
    ·refine ch Q ?_
     exact Ai ⟨[(W4.length:Int),z,d],[],[W4],[]⟩ (.inl (⟨_,_,_,_,rfl,(MS.mv j),(by first|assumption|(subst_vars;exact AT.snoc y ‹_›)),kn,kn,kn,kn⟩))
    ·refine cm Q ?_
     refine ch Q ?_
     have ⟨_,_,bv,cF,bz,bQ,bx,bo,_,_,_⟩:=H
     exact Ai ⟨[aP,al,X],[],[bh],[]⟩ (.inl (⟨_,_,_,_,rfl,(MS.mv H),(by first|assumption|(subst_vars;exact AT.snoc y ‹_›)),kn,kn,kn,kn⟩))
    refine cm Q ?_
    refine cm Q ?_
    refine ch Q ?_
    have ⟨_,_,cb,cr,b4,bZ,ce,bp,_,_,_⟩:=J
    exact Ai ⟨[au,ao,aL,A,Z],[],[a6,bc],[]⟩ (.inr (.inr ((⟨bd,_,_,_,_,_,_,_,rfl,(MS.mv J),(by first|assumption|(subst_vars;exact AT.snoc y ‹_›)),AA,kn,kn,kn,kn,kn,kn⟩))))
   refine cm G3 ?_
   refine ch G3 ?_
   have ⟨_,_,cE,cn,bL,bJ,bH,cu,_,_,_⟩:=u
   refine ll aG aq ?_
   refine ll ay aj ?_
   refine ll aI an ?_
   refine ll aN ak ?_
   refine dL (R++[AZ bb 0 a0 a2 a4 aD aV aM av aX aq 0 0 0 [] 0 aj an ak]) (fun W6 e6=>?_) (BC rfl pe)
   have f6:=cL e6;try simp only [lA,lC,lN,lT']at f6
   refine FM (W6.length:Int) 1048576 ?_
   obtain ⟨_,(rfl|⟨az,af,aa,bg,rfl,N,bD,b9,cy,bW,cJ⟩|⟨a8,aK,ag,aW,C,U,a3,bf,rfl,O,cH,ct,bC,bF,bN,b2,cg,cc⟩),P⟩:=Wo (G0.of (n:=10) @Sb) f depth loop pure aZ (W6.length:Int) (it-1) bl x o c g call k B W6 D (MS.mv u) (by subst_vars;exact AT.snoc y ‹_›)
   ·refine ch P ?_
    exact Ai ⟨[(W6.length:Int),x,o,c,g],[],[W6,D],[]⟩ (.inr (.inr ((⟨ae,_,_,_,_,_,_,_,rfl,(MS.mv u),(by first|assumption|(subst_vars;exact AT.snoc y ‹_›)),AA,kn,kn,kn,kn,kn,kn⟩))))
   ·refine cm P ?_
    refine ch P ?_
    have ⟨_,_,bB,cK,cf,b6,bX,cp,_,_,_⟩:=N
    exact Ai ⟨[az,af,o,c,aa],[],[bg,D],[]⟩ (.inr (.inr ((⟨ae,_,_,_,_,_,_,_,rfl,(MS.mv N),(by first|assumption|(subst_vars;exact AT.snoc y ‹_›)),AA,kn,kn,kn,kn,kn,kn⟩))))
   refine cm P ?_
   refine cm P ?_
   refine ch P ?_
   have ⟨_,_,bO,bE,b0,bG,bS,cj,_,_,_⟩:=O
   exact Ai ⟨[aK,ag,aW,C,U],[],[a3,bf],[]⟩ (.inr (.inr ((⟨a8,_,_,_,_,_,_,_,rfl,(MS.mv O),(by first|assumption|(subst_vars;exact AT.snoc y ‹_›)),AA,kn,kn,kn,kn,kn,kn⟩))))
  exact Ai v0 (.inr (.inl rfl))
 exact Ai v0 (.inr (.inl rfl))
theorem Apb:Z8 true 13 59:=by
 intro m af Γ K M f depth loop pure bl pos c count left call d B V O h
 have ⟨hm,bp,bt,bv,bA,bw,bx,bq,bB,bz,bn⟩:=O;have ⟨hB,hl,hvl,H6,hV,hb,hc,hd⟩:=hm;have br:G 3=40:=rfl;have bC:G 2=12:=rfl;have bo:G (3-1)=12:=rfl
 refine .of (t:=AdY) rfl ?_
 unfold AdY
 obtain ⟨_,⟨ai,g,rfl,bk,bm,bi⟩,G1⟩:=Zx hB hl pos c count left call d V
 refine ch G1 ?_
 obtain ⟨_,(rfl|⟨u,ae,Q,U,rfl,x,aR,ao,a4,aI,aG⟩|⟨bh,z,ad,ah,j,N,Z,ak,rfl,D,bc,az,aM,aB,aX,aJ,av,au⟩),R⟩:=AoY @af f depth loop pure c (1+(ai%3)) bl g c count left call d B V (MS.mv O)
 ·refine ch R ?_
  refine de [] ?_
  refine ll 0 [] ?_
  refine fr ?_
  obtain ⟨_,(⟨C,ab,J,X,rfl,o,aW,aV,a7,aO,a5⟩|rfl|⟨bf,y,aa,ag,k,H,ac,aj,rfl,A,aY,a6,bd,aA,aq,aQ,am,ba⟩),P⟩:=AoU @af f depth loop pure c 0 (1+(ai%3)) bl g c count left call d [] B V (MS.mv O) (AT.nil (left:=left) om)
  ·refine ch P ?_
   have ⟨_,_,aF,a9,bb,aN,aC,aK,_,_,_⟩:=o
   refine ll C X ?_
   refine fr ?_
   exact Ai ⟨[C,ab,J],[],[X],[]⟩ (.inl (⟨_,_,_,_,rfl,(MS.mv o),(by first|exact IZ.nil om|exact IZ.mk ‹_›),kn,kn,kn⟩))
  ·refine cm P ?_
   refine ch P ?_
   exact Ai ⟨[0,g,left],[],[[]],[]⟩ (.inl (⟨_,_,_,_,rfl,(MS.mv O),(by first|exact IZ.nil om|exact IZ.mk ‹_›),kn,kn,kn⟩))
  refine cm P ?_
  refine cm P ?_
  refine ch P ?_
  have ⟨_,_,aZ,ay,aL,aw,a8,a2,_,_,_⟩:=A
  refine CG c 0 ?_
  refine FM c ag ?_
  refine ll y ac ?_
  refine fr ?_
  exact Ai ⟨[y,aa,c,k,H],[],[ac,aj],[]⟩ (.inr ((⟨_,_,_,_,_,_,rfl,(MS.back O (MS.mv A) ‹_› om),(by first|exact IZ.nil om|exact IZ.mk ‹_›),AA,kn,kn,kn,kn⟩)))
 ·refine cm R ?_
  refine ch R ?_
  have ⟨_,_,an,a1,ax,a0,aD,ap,_,_,_⟩:=x
  refine ll u U ?_
  refine fr ?_
  exact Ai ⟨[u,ae,Q],[],[U],[]⟩ (.inl (⟨_,_,_,_,rfl,(MS.mv x),(by first|exact IZ.nil om|exact IZ.mk ‹_›),kn,kn,kn⟩))
 refine cm R ?_
 refine cm R ?_
 refine ch R ?_
 have ⟨_,_,a3,aE,aU,aH,be,aP,_,_,_⟩:=D
 refine CG c 0 ?_
 refine FM c ah ?_
 refine ll z Z ?_
 refine fr ?_
 exact Ai ⟨[z,ad,c,j,N],[],[Z,ak],[]⟩ (.inr ((⟨_,_,_,_,_,_,rfl,(MS.back O (MS.mv D) ‹_› om),(by first|exact IZ.nil om|exact IZ.mk ‹_›),AA,kn,kn,kn,kn⟩)))
theorem Amx:Afm true 13:=@VB true 0 13 12 9 20 21 22 23 24 25 59 8 58 rfl @Zx @AiD @Apz @Wp @Apy @Apx @AiC @Apb @Ma @Ai7 (fun _ _=>G0.of @Sb)
end Go.Proofs.YtbmofjdmgjpfoaaGreatDoor.Am
end
