/- Part 16 of the proof of TypesPrefix. -/
import Derived.Test.YtbmofjdmgjpfoaaGreatDoorD11
import Derived.Test.YtbmofjdmgjpfoaaGreatDoorD15
set_option linter.all false
section
set_option maxHeartbeats 4000000
set_option maxRecDepth 100000
namespace Go.Proofs.YtbmofjdmgjpfoaaGreatDoor.Am
open Go.AM Go.AM.K
def Ank (D N:Nat) (m n:Nat):Prop:=∀{Γ:Ctx} {K M:Int} {y:Ctx} {k:Int} (f depth:Int) (loop pure:Int) (C v:Int) (it bl:Int) (pos u:Int) (count left:Int) (call d:Int) (B R V:Rs) (J:MS false Γ f K M bl pos u count left call d B V) (H:AZ loop pure (depth+1) y Γ k left R) (h:0≤depth∧depth≤2∧(pure=0∨pure=1)∧(loop=0∨loop=1)∧depth.toNat<m∧it≤10∧v=R.length∧v+it≤20∧0≤v∧it.toNat<n),Ok trees N ⟨[f,depth,loop,pure,C,v,it,bl,pos,u,count,left,call,d],[],[B,R,V],[]⟩ fun x=>(x=(0,v0))∨(∃(j c left':Int),∃(o:Rs),x=(1,(⟨[j,c,left'],[],[o],[]⟩:Ah))∧(MS false Γ f K M bl c u count left' call d B V)∧(AZ loop pure (depth+1) y Γ k left' o)∧(j=o.length)∧(j≤20)∧(left'≤left)∧(c+300*left'≤pos+300*left))∨(∃(A:Ctx),∃(j c q g left':Int),∃(o z:Rs),x=(2,(⟨[j,c,q,g,left'],[],[o,z],[]⟩:Ah))∧(MS false A f K M bl c q g left' call d B z)∧(AZ loop pure (depth+1) y A k left' o)∧(Ext u V z)∧(count≤g)∧(u≤q)∧(j=o.length)∧(j≤20)∧(left'≤left)∧(c+300*left'≤pos+300*left))
def AmH (D N:Nat):Prop:=∀{m:Nat} (H:Gn false D m) {Γ:Ctx} {K M:Int} {y:Ctx} {k:Int} (f depth:Int) (loop pure:Int) (C v:Int) (it bl:Int) (pos u:Int) (count left:Int) (call d:Int) (B R V:Rs) (O:MS false Γ f K M bl pos u count left call d B V) (J:AZ loop pure (depth+1) y Γ k left R) (h:0≤depth∧depth≤2∧(pure=0∨pure=1)∧(loop=0∨loop=1)∧depth.toNat<m∧it≤10∧v=R.length∧v+it≤20∧0≤v:=by exact kn),Ok trees N ⟨[f,depth,loop,pure,C,v,it,bl,pos,u,count,left,call,d],[],[B,R,V],[]⟩ fun x=>(x=(0,v0))∨(∃(j c left':Int),∃(o:Rs),x=(1,(⟨[j,c,left'],[],[o],[]⟩:Ah))∧(MS false Γ f K M bl c u count left' call d B V)∧(AZ loop pure (depth+1) y Γ k left' o)∧(j=o.length)∧(j≤20)∧(left'≤left)∧(c+300*left'≤pos+300*left))∨(∃(A:Ctx),∃(j c q g left':Int),∃(o z:Rs),x=(2,(⟨[j,c,q,g,left'],[],[o,z],[]⟩:Ah))∧(MS false A f K M bl c q g left' call d B z)∧(AZ loop pure (depth+1) y A k left' o)∧(Ext u V z)∧(count≤g)∧(u≤q)∧(j=o.length)∧(j≤20)∧(left'≤left)∧(c+300*left'≤pos+300*left))
theorem AkX {m:Nat} (bd:Gn false 12 m) (n:Nat):Ank 12 65 m n:=by
 induction n with
 |zero=>intro Γ K M Γ0 aY f depth loop pure ao rl it bl pos vl count left call d B R V hM k h;exact absurd h.2.2.2.2.2.2.2.2.2 (Nat.not_lt_zero _)
 |succ n ih=>
 intro Γ K M Γ0 aY f depth loop pure ao rl it bl pos vl count left call d B R V hM k h
 have ⟨hm,cV,c5,c2,c1,c4,cU,cW,c7,cX,cZ⟩:=hM;have ⟨hB,hl,hvl,Hq,hV,hb,hc,hd⟩:=hm;have cY:G 3=40:=rfl;have c3:G 2=12:=rfl;have c6:G (3-1)=12:=rfl
 refine .of (t:=Acv) rfl ?_
 unfold Acv
 refine gt it 0 (fun t1=>?_) fun t1=>?_
 ·refine gt left 0 (fun t2=>?_) fun t2=>?_
  ·obtain ⟨_,(⟨aZ,bg,bj,aG,ap,aU,aF,aD,aX,ax,au,aP,aH,aO,aC,v,j,a9,ay,aw,ae,ad,Z,ac,rfl,o,bo,cc,bq,bB,cJ,b6,b2⟩|⟨ab,bc,a5,a1,aR,aA,aV,az,aI,aE,aM,aB,x,u,c,g,bh,aL,ai,al,aa,ah,z,rfl,q,cr,cx,cp,bJ,cb,bn,cK,bE,b5,bk⟩),G3⟩:=bd f depth 0 loop pure bl pos vl count left call d B V (MS.mv hM) kn
   ·refine ch G3 ?_
    have ⟨_,_,b8,cg,bD,cI,bw,cu,_,_,_⟩:=o
    refine ll aD ae ?_
    refine ll aH ad ?_
    refine ll aO Z ?_
    refine ll aC ac ?_
    refine dL (R++[Be aZ bg 0 bj a9 aG ap aU ay aF ae aX ax au aw aP ad Z ac]) (fun W4 e4=>?_) (BG (pw rl R) pe)
    have f4:=cL e4;try simp only [lA,lC,lN,lT']at f4
    refine FA (W4.length:Int) 1048576 ?_
    obtain ⟨_,(rfl|⟨aq,am,Q,bi,rfl,C,cq,bN,bK,bL,bV⟩|⟨a3,aJ,an,av,A,U,ba,a7,rfl,J,b7,bH,bO,cD,bA,cz,cG,cB⟩),X⟩:=ih f depth loop pure ao (W4.length:Int) (it-1) bl v vl count j call d B W4 V (MS.mv o) (by subst_vars;exact AZ.snoc k ‹_›) kn
    ·refine ch X ?_
     exact Aj ⟨[(W4.length:Int),v,j],[],[W4],[]⟩ (.inr (.inl (⟨_,_,_,_,rfl,(MS.mv o),(by first|assumption|(subst_vars;exact AZ.snoc k ‹_›)),kn,kn,kn,kn⟩)))
    ·refine cm X ?_
     refine ch X ?_
     have ⟨_,_,bz,bW,cF,bG,b9,bI,_,_,_⟩:=C
     exact Aj ⟨[aq,am,Q],[],[bi],[]⟩ (.inr (.inl (⟨_,_,_,_,rfl,(MS.mv C),(by first|assumption|(subst_vars;exact AZ.snoc k ‹_›)),kn,kn,kn,kn⟩)))
    refine cm X ?_
    refine cm X ?_
    refine ch X ?_
    have ⟨_,_,b3,bM,bP,bX,bx,b4,_,_,_⟩:=J
    exact Aj ⟨[aJ,an,av,A,U],[],[ba,a7],[]⟩ (.inr (.inr ((⟨a3,_,_,_,_,_,_,_,rfl,(MS.mv J),(by first|assumption|(subst_vars;exact AZ.snoc k ‹_›)),AE,kn,kn,kn,kn,kn,kn⟩))))
   refine cm G3 ?_
   refine ch G3 ?_
   have ⟨_,_,bS,bm,br,b0,bY,bp,_,_,_⟩:=q
   refine ll aI ai ?_
   refine ll aE al ?_
   refine ll aM aa ?_
   refine ll aB ah ?_
   refine dL (R++[Be bc 0 a5 a1 bh aR aA aV aL az ai 0 0 0 [] 0 al aa ah]) (fun W6 e6=>?_) (BG (pw rl R) pe)
   have f6:=cL e6;try simp only [lA,lC,lN,lT']at f6
   refine FA (W6.length:Int) 1048576 ?_
   obtain ⟨_,(rfl|⟨aK,aj,P,a2,rfl,H,bt,cj,cH,cn,bF⟩|⟨a0,aQ,af,aW,y,N,a6,be,rfl,D,bR,cd,ce,bT,ct,bZ,bC,cE⟩),O⟩:=ih f depth loop pure ao (W6.length:Int) (it-1) bl x u c g call d B W6 z (MS.mv q) (by subst_vars;exact AZ.snoc k ‹_›) kn
   ·refine ch O ?_
    exact Aj ⟨[(W6.length:Int),x,u,c,g],[],[W6,z],[]⟩ (.inr (.inr ((⟨ab,_,_,_,_,_,_,_,rfl,(MS.mv q),(by first|assumption|(subst_vars;exact AZ.snoc k ‹_›)),AE,kn,kn,kn,kn,kn,kn⟩))))
   ·refine cm O ?_
    refine ch O ?_
    have ⟨_,_,cC,co,cf,bU,cw,ci,_,_,_⟩:=H
    exact Aj ⟨[aK,aj,u,c,P],[],[a2,z],[]⟩ (.inr (.inr ((⟨ab,_,_,_,_,_,_,_,rfl,(MS.mv H),(by first|assumption|(subst_vars;exact AZ.snoc k ‹_›)),AE,kn,kn,kn,kn,kn,kn⟩))))
   refine cm O ?_
   refine cm O ?_
   refine ch O ?_
   have ⟨_,_,cA,cv,cy,bQ,bv,b1,_,_,_⟩:=D
   exact Aj ⟨[aQ,af,aW,y,N],[],[a6,be],[]⟩ (.inr (.inr ((⟨a0,_,_,_,_,_,_,_,rfl,(MS.mv D),(by first|assumption|(subst_vars;exact AZ.snoc k ‹_›)),AE,kn,kn,kn,kn,kn,kn⟩))))
  exact Aj v0 (.inl rfl)
 exact Aj v0 (.inl rfl)
theorem Vj:AmH 12 65:=fun {m} hC12 {Γ} {K} {M} {Γ0} {left0} f depth loop pure vn0 rl it bl pos vl count left call loads B R V hM hL h=>AkX @hC12 (it.toNat+1) f depth loop pure vn0 rl it bl pos vl count left call loads B R V hM hL ⟨h.1,h.2.1,h.2.2.1,h.2.2.2.1,h.2.2.2.2.1,h.2.2.2.2.2.1,h.2.2.2.2.2.2.1,h.2.2.2.2.2.2.2.1,h.2.2.2.2.2.2.2.2,Nat.lt_succ_self _⟩
def AmJ (y N:Nat):Prop:=∀{m:Nat} (z:Gn false y m) {Γ:Ctx} {K M:Int} (f depth:Int) (loop pure:Int) (vn0 it:Int) (q pos:Int) (o count:Int) (left call loads:Int) (B V:Rs) (A:MS false Γ f K M q pos o count left call loads B V) (h:0≤depth∧depth≤2∧(pure=0∨pure=1)∧(loop=0∨loop=1)∧depth.toNat<m∧it≤10:=by exact kn),Ok trees N ⟨[f,depth,loop,pure,vn0,it,q,pos,o,count,left,call,loads],[],[B,V],[]⟩ fun u=>(u=(0,v0))∨(∃(g c left':Int),∃(j:Rs),u=(1,(⟨[g,c,left'],[],[j],[]⟩:Ah))∧(MS false Γ f K M q c o count left' call loads B V)∧(AZ loop pure (depth+1) Γ Γ left left' j)∧(g=j.length)∧(g≤20)∧(left'≤left)∧(c+300*left'≤pos+300*left))∨(∃(x:Ctx),∃(g c k d left':Int),∃(j v:Rs),u=(2,(⟨[g,c,k,d,left'],[],[j,v],[]⟩:Ah))∧(MS false x f K M q c k d left' call loads B v)∧(AZ loop pure (depth+1) Γ x left left' j)∧(Ext o V v)∧(count≤d)∧(o≤k)∧(g=j.length)∧(g≤20)∧(left'≤left)∧(c+300*left'≤pos+300*left))
theorem AlG:AmJ 12 62:=by
 intro m z Γ K M f depth loop pure aR it bl pos vl count left call j B V hM h
 have ⟨hm,cQ,cZ,cW,cV,cY,cP,cR,c2,cS,cU⟩:=hM;have ⟨hB,hl,hvl,Hq,hV,hb,hc,hd⟩:=hm;have cT:G 3=40:=rfl;have cX:G 2=12:=rfl;have c1:G (3-1)=12:=rfl
 refine .of (t:=Acx) rfl ?_
 unfold Acx
 refine gt it 0 (fun t1=>?_) fun t1=>?_
 ·refine gt left 0 (fun t2=>?_) fun t2=>?_
  ·obtain ⟨_,(⟨aU,a9,bd,aC,al,aN,aB,az,aQ,aq,an,aK,aD,aJ,ay,u,g,a4,au,ap,ad,ac,X,ab,rfl,k,bj,b8,bm,bw,cF,b3,bZ⟩|⟨aa,a7,a0,aW,aM,aw,aO,av,aE,aA,aI,ax,v,q,c,d,bb,aH,ag,ai,Z,af,y,rfl,o,co,cu,cj,bG,b7,bi,bE,bA,b2,bf⟩),G3⟩:=z f depth 0 loop pure bl pos vl count left call j B V (MS.mv hM) kn
   ·refine ch G3 ?_
    have ⟨_,_,b5,cd,bz,cE,bq,cq,_,_,_⟩:=k
    refine ll az ad ?_
    refine ll aD ac ?_
    refine ll aJ X ?_
    refine ll ay ab ?_
    refine dL [Be aU a9 0 bd a4 aC al aN au aB ad aQ aq an ap aK ac X ab] (fun W4 e4=>?_)
    have f4:=cL e4;try simp only [lA,lC,lN,lT']at f4
    refine ll 1 W4 ?_
    obtain ⟨_,(rfl|⟨am,aj,Q,bc,rfl,C,cn,bK,bH,bI,bS⟩|⟨aY,aF,ak,ao,A,R,a5,a2,rfl,J,b4,bD,bL,cA,bv,cw,cG,cy⟩),U⟩:=Vj @z f depth loop pure aR 1 (it-1) bl u vl count g call j B W4 V (MS.mv k) (by subst_vars;exact AZ.one ‹_› om)
    ·refine ch U ?_
     exact Aj ⟨[1,u,g],[],[W4],[]⟩ (.inr (.inl (⟨_,_,_,_,rfl,(MS.mv k),(by first|assumption|(subst_vars;exact AZ.one ‹_› om)),kn,kn,kn,kn⟩)))
    ·refine cm U ?_
     refine ch U ?_
     have ⟨_,_,bt,bT,cC,bC,b6,bF,_,_,_⟩:=C
     exact Aj ⟨[am,aj,Q],[],[bc],[]⟩ (.inr (.inl (⟨_,_,_,_,rfl,(MS.mv C),(by first|assumption|(subst_vars;exact AZ.one ‹_› om)),kn,kn,kn,kn⟩)))
    refine cm U ?_
    refine cm U ?_
    refine ch U ?_
    have ⟨_,_,b0,bJ,bM,bU,br,b1,_,_,_⟩:=J
    exact Aj ⟨[aF,ak,ao,A,R],[],[a5,a2],[]⟩ (.inr (.inr ((⟨aY,_,_,_,_,_,_,_,rfl,(MS.mv J),(by first|assumption|(subst_vars;exact AZ.one ‹_› om)),AE,kn,kn,kn,kn,kn,kn⟩))))
   refine cm G3 ?_
   refine ch G3 ?_
   have ⟨_,_,bP,bh,bn,bX,bV,bk,_,_,_⟩:=o
   refine ll aE ag ?_
   refine ll aA ai ?_
   refine ll aI Z ?_
   refine ll ax af ?_
   refine dL [Be a7 0 a0 aW bb aM aw aO aH av ag 0 0 0 [] 0 ai Z af] (fun W6 e6=>?_)
   have f6:=cL e6;try simp only [lA,lC,lN,lT']at f6
   refine ll 1 W6 ?_
   obtain ⟨_,(rfl|⟨aG,ah,P,aX,rfl,H,bo,cf,cD,cg,bB⟩|⟨aV,aL,ae,aP,x,N,a1,a8,rfl,D,bO,b9,cb,bQ,cp,bW,bx,cB⟩),O⟩:=Vj @z f depth loop pure aR 1 (it-1) bl v q c d call j B W6 y (MS.mv o) (by subst_vars;exact AZ.one ‹_› om)
   ·refine ch O ?_
    exact Aj ⟨[1,v,q,c,d],[],[W6,y],[]⟩ (.inr (.inr ((⟨aa,_,_,_,_,_,_,_,rfl,(MS.mv o),(by first|assumption|(subst_vars;exact AZ.one ‹_› om)),AE,kn,kn,kn,kn,kn,kn⟩))))
   ·refine cm O ?_
    refine ch O ?_
    have ⟨_,_,cz,ci,cc,bR,ct,ce,_,_,_⟩:=H
    exact Aj ⟨[aG,ah,q,c,P],[],[aX,y],[]⟩ (.inr (.inr ((⟨aa,_,_,_,_,_,_,_,rfl,(MS.mv H),(by first|assumption|(subst_vars;exact AZ.one ‹_› om)),AE,kn,kn,kn,kn,kn,kn⟩))))
   refine cm O ?_
   refine cm O ?_
   refine ch O ?_
   have ⟨_,_,cx,cr,cv,bN,bp,bY,_,_,_⟩:=D
   exact Aj ⟨[aL,ae,aP,x,N],[],[a1,a8],[]⟩ (.inr (.inr ((⟨aV,_,_,_,_,_,_,_,rfl,(MS.mv D),(by first|assumption|(subst_vars;exact AZ.one ‹_› om)),AE,kn,kn,kn,kn,kn,kn⟩))))
  exact Aj v0 (.inl rfl)
 exact Aj v0 (.inl rfl)
def AmD (D N:Nat):Prop:=∀{m:Nat} (H:Gn false D m) {Γ:Ctx} {K M:Int} {y:Ctx} {k:Int} (f depth:Int) (loop pure:Int) (C v:Int) (it bl:Int) (pos u:Int) (count left:Int) (call d:Int) (R B V:Rs) (O:MS false Γ f K M bl pos u count left call d B V) (J:AZ loop pure (depth+1) y Γ k left R) (h:0≤depth∧depth≤2∧(pure=0∨pure=1)∧(loop=0∨loop=1)∧depth.toNat<m∧it≤10∧v=R.length∧v+it≤20∧0≤v:=by exact kn),Ok trees N ⟨[f,depth,loop,pure,C,v,it,bl,pos,u,count,left,call,d],[],[R,B,V],[]⟩ fun x=>(∃(j c left':Int),∃(o:Rs),x=(0,(⟨[j,c,left'],[],[o],[]⟩:Ah))∧(MS false Γ f K M bl c u count left' call d B V)∧(AZ loop pure (depth+1) y Γ k left' o)∧(j=o.length)∧(j≤20)∧(left'≤left)∧(c+300*left'≤pos+300*left))∨(x=(1,v0))∨(∃(A:Ctx),∃(j c q g left':Int),∃(o z:Rs),x=(2,(⟨[j,c,q,g,left'],[],[o,z],[]⟩:Ah))∧(MS false A f K M bl c q g left' call d B z)∧(AZ loop pure (depth+1) y A k left' o)∧(Ext u V z)∧(count≤g)∧(u≤q)∧(j=o.length)∧(j≤20)∧(left'≤left)∧(c+300*left'≤pos+300*left))
theorem AlE:AmD 12 71:=by
 intro m A Γ K M Γ0 cD f depth loop pure aX rl it bl pos vl count left call j R B V hM u h
 have ⟨hm,cT,c3,cZ,cY,c2,cS,cU,c5,cV,cX⟩:=hM;have ⟨hB,hl,hvl,Hq,hV,hb,hc,hd⟩:=hm;have cW:G 3=40:=rfl;have c1:G 2=12:=rfl;have c4:G (3-1)=12:=rfl
 refine .of (t:=Acq) rfl ?_
 unfold Acq
 refine gt it 0 (fun t1=>?_) fun t1=>?_
 ·refine gt left 0 (fun t2=>?_) fun t2=>?_
  ·obtain ⟨_,(⟨aY,bb,bf,aG,ap,aR,aF,aD,aW,ax,au,aO,aH,aN,aC,v,g,a7,ay,aw,af,ae,aa,ad,rfl,k,bm,b9,bo,bz,cI,b4,b0⟩|⟨ac,a9,a4,a0,aQ,aA,aU,az,aI,aE,aM,aB,x,q,c,d,bd,aL,aj,am,ab,ai,z,rfl,o,cp,cv,cn,bH,b8,bk,cJ,bC,b3,bh⟩),G3⟩:=A f depth 0 loop pure bl pos vl count left call j B V (MS.mv hM) kn
   ·refine ch G3 ?_
    have ⟨_,_,b6,ce,bB,cH,bt,cr,_,_,_⟩:=k
    refine ll aD af ?_
    refine ll aH ae ?_
    refine ll aN aa ?_
    refine ll aC ad ?_
    refine dL (R++[Be aY bb 0 bf a7 aG ap aR ay aF af aW ax au aw aO ae aa ad]) (fun W4 e4=>?_) (BG rfl pe)
    have f4:=cL e4;try simp only [lA,lC,lN,lT']at f4
    refine FA (W4.length:Int) 1048576 ?_
    obtain ⟨_,(rfl|⟨aq,an,U,be,rfl,D,co,bL,bI,bJ,bT⟩|⟨a2,aJ,ao,av,C,X,a8,a6,rfl,N,b5,bF,bM,cB,bx,cx,cF,cz⟩),Z⟩:=Vj @A f depth loop pure aX (W4.length:Int) (it-1) bl v vl count g call j B W4 V (MS.mv k) (by subst_vars;exact AZ.snoc u ‹_›)
    ·refine ch Z ?_
     exact Aj ⟨[(W4.length:Int),v,g],[],[W4],[]⟩ (.inl (⟨_,_,_,_,rfl,(MS.mv k),(by first|assumption|(subst_vars;exact AZ.snoc u ‹_›)),kn,kn,kn,kn⟩))
    ·refine cm Z ?_
     refine ch Z ?_
     have ⟨_,_,bw,bU,cE,bE,b7,bG,_,_,_⟩:=D
     exact Aj ⟨[aq,an,U],[],[be],[]⟩ (.inl (⟨_,_,_,_,rfl,(MS.mv D),(by first|assumption|(subst_vars;exact AZ.snoc u ‹_›)),kn,kn,kn,kn⟩))
    refine cm Z ?_
    refine cm Z ?_
    refine ch Z ?_
    have ⟨_,_,b1,bK,bN,bV,bv,b2,_,_,_⟩:=N
    exact Aj ⟨[aJ,ao,av,C,X],[],[a8,a6],[]⟩ (.inr (.inr ((⟨a2,_,_,_,_,_,_,_,rfl,(MS.mv N),(by first|assumption|(subst_vars;exact AZ.snoc u ‹_›)),AE,kn,kn,kn,kn,kn,kn⟩))))
   refine cm G3 ?_
   refine ch G3 ?_
   have ⟨_,_,bQ,bj,bp,bY,bW,bn,_,_,_⟩:=o
   refine ll aI aj ?_
   refine ll aE am ?_
   refine ll aM ab ?_
   refine ll aB ai ?_
   refine dL (R++[Be a9 0 a4 a0 bd aQ aA aU aL az aj 0 0 0 [] 0 am ab ai]) (fun W6 e6=>?_) (BG rfl pe)
   have f6:=cL e6;try simp only [lA,lC,lN,lT']at f6
   refine FA (W6.length:Int) 1048576 ?_
   obtain ⟨_,(rfl|⟨aK,ak,Q,a1,rfl,J,bq,cg,cG,ci,bD⟩|⟨aZ,aP,ag,aV,y,O,a5,ba,rfl,H,bP,cb,cc,bR,cq,bX,bA,cC⟩),P⟩:=Vj @A f depth loop pure aX (W6.length:Int) (it-1) bl x q c d call j B W6 z (MS.mv o) (by subst_vars;exact AZ.snoc u ‹_›)
   ·refine ch P ?_
    exact Aj ⟨[(W6.length:Int),x,q,c,d],[],[W6,z],[]⟩ (.inr (.inr ((⟨ac,_,_,_,_,_,_,_,rfl,(MS.mv o),(by first|assumption|(subst_vars;exact AZ.snoc u ‹_›)),AE,kn,kn,kn,kn,kn,kn⟩))))
   ·refine cm P ?_
    refine ch P ?_
    have ⟨_,_,cA,cj,cd,bS,cu,cf,_,_,_⟩:=J
    exact Aj ⟨[aK,ak,q,c,Q],[],[a1,z],[]⟩ (.inr (.inr ((⟨ac,_,_,_,_,_,_,_,rfl,(MS.mv J),(by first|assumption|(subst_vars;exact AZ.snoc u ‹_›)),AE,kn,kn,kn,kn,kn,kn⟩))))
   refine cm P ?_
   refine cm P ?_
   refine ch P ?_
   have ⟨_,_,cy,ct,cw,bO,br,bZ,_,_,_⟩:=H
   exact Aj ⟨[aP,ag,aV,y,O],[],[a5,ba],[]⟩ (.inr (.inr ((⟨aZ,_,_,_,_,_,_,_,rfl,(MS.mv H),(by first|assumption|(subst_vars;exact AZ.snoc u ‹_›)),AE,kn,kn,kn,kn,kn,kn⟩))))
  exact Aj v0 (.inr (.inl rfl))
 exact Aj v0 (.inr (.inl rfl))
theorem AfB:Y3 false 12 58:=by
 intro m Q Γ K M f depth loop pure bl pos c count left call g B V N h
 have ⟨hm,bm,bx,bq,bp,bt,bk,bo,bA,bv,bn⟩:=N;have ⟨hB,hl,hvl,Hq,hV,hb,hc,hd⟩:=hm;have bw:G 3=40:=rfl;have br:G 2=12:=rfl;have bz:G (3-1)=12:=rfl
 refine .of (t:=Ac0) rfl ?_
 unfold Ac0
 obtain ⟨_,⟨ag,d,rfl,bf,bg,be⟩,G1⟩:=LB hB hl pos c count left call g V
 refine ch G1 ?_
 obtain ⟨_,(rfl|⟨u,X,P,R,rfl,A,a7,aX,a3,a9,aR⟩|⟨bj,y,Z,af,k,J,ac,ah,rfl,o,aI,aB,ao,aD,ba,ax,aY,aP⟩),D⟩:=AlG @Q f depth loop pure c (1+(ag%3)) bl d c count left call g B V (MS.mv N)
 ·refine ch D ?_
  refine CJ c 0 ?_
  refine FA c c ?_
  refine de [] ?_
  refine ll 0 [] ?_
  refine fr ?_
  obtain ⟨_,(⟨q,U,C,ab,rfl,v,an,az,ap,aG,a8⟩|rfl|⟨bi,z,ad,ae,j,O,aa,ai,rfl,x,au,aZ,aV,a1,aN,aq,aC,aO⟩),H⟩:=AlE @Q f depth loop pure c 0 (1+(ag%3)) bl d c count left call g [] B V (MS.mv N) (AZ.nil (left:=left) om)
  ·refine ch H ?_
   have ⟨_,_,aw,aH,aL,bb,ay,aW,_,_,_⟩:=v
   refine ll q ab ?_
   refine fr ?_
   exact Aj ⟨[q,U,C],[],[ab],[]⟩ (.inl (⟨_,_,_,_,rfl,(MS.mv v),(by first|exact IG.nil om|exact IG.mk ‹_›),kn,kn,kn⟩))
  ·refine cm H ?_
   refine ch H ?_
   exact Aj ⟨[0,d,left],[],[[]],[]⟩ (.inl (⟨_,_,_,_,rfl,(MS.mv N),(by first|exact IG.nil om|exact IG.mk ‹_›),kn,kn,kn⟩))
  refine cm H ?_
  refine cm H ?_
  refine ch H ?_
  have ⟨_,_,bc,aU,a2,aQ,a5,aE,_,_,_⟩:=x
  refine FA c ae ?_
  refine ll z aa ?_
  refine fr ?_
  exact Aj ⟨[z,ad,c,j,O],[],[aa,ai],[]⟩ (.inr ((⟨_,_,_,_,_,_,rfl,(MS.back N (MS.mv x) ‹_› om),(by first|exact IG.nil om|exact IG.mk ‹_›),AE,kn,kn,kn,kn⟩)))
 ·refine cm D ?_
  refine ch D ?_
  have ⟨_,_,aJ,aA,al,aM,am,a6,_,_,_⟩:=A
  refine CJ c 0 ?_
  refine FA c c ?_
  refine ll u R ?_
  refine fr ?_
  exact Aj ⟨[u,X,P],[],[R],[]⟩ (.inl (⟨_,_,_,_,rfl,(MS.mv A),(by first|exact IG.nil om|exact IG.mk ‹_›),kn,kn,kn⟩))
 refine cm D ?_
 refine cm D ?_
 refine ch D ?_
 have ⟨_,_,ak,a0,aK,a4,aF,av,_,_,_⟩:=o
 refine CJ c 0 ?_
 refine FA c af ?_
 refine ll y ac ?_
 refine fr ?_
 exact Aj ⟨[y,Z,c,k,J],[],[ac,ah],[]⟩ (.inr ((⟨_,_,_,_,_,_,rfl,(MS.back N (MS.mv o) ‹_› om),(by first|exact IG.nil om|exact IG.mk ‹_›),AE,kn,kn,kn,kn⟩)))
theorem Rw:AdA false 12:=@U5 false 1 12 12 8 14 15 16 17 18 19 58 8 58 rfl @LB @AfJ @Amf @Jm @O5 @Ame @AfI @AfB @LB @AfB (fun _ h=>h)
def Anj (D N:Nat) (m n:Nat):Prop:=∀{Γ:Ctx} {K M:Int} {y:Ctx} {k:Int} (f depth:Int) (loop pure:Int) (C v:Int) (it bl:Int) (pos u:Int) (count left:Int) (call d:Int) (B V R:Rs) (J:MS true Γ f K M bl pos u count left call d B V) (H:AZ loop pure (depth+1) y Γ k left R) (h:0≤depth∧depth≤2∧(pure=0∨pure=1)∧(loop=0∨loop=1)∧depth.toNat<m∧it≤10∧v=R.length∧v+it≤20∧0≤v∧it.toNat<n),Ok trees N ⟨[f,depth,loop,pure,C,v,it,bl,pos,u,count,left,call,d],[],[B,V,R],[]⟩ fun x=>(x=(0,v0))∨(∃(j c left':Int),∃(o:Rs),x=(1,(⟨[j,c,left'],[],[o],[]⟩:Ah))∧(MS true Γ f K M bl c u count left' call d B V)∧(AZ loop pure (depth+1) y Γ k left' o)∧(j=o.length)∧(j≤20)∧(left'≤left)∧(c+300*left'≤pos+300*left))∨(∃(A:Ctx),∃(j c q g left':Int),∃(o z:Rs),x=(2,(⟨[j,c,q,g,left'],[],[o,z],[]⟩:Ah))∧(MS false A f K M bl c q g left' call d B z)∧(AZ loop pure (depth+1) y A k left' o)∧(Ext u V z)∧(count≤g)∧(u≤q)∧(j=o.length)∧(j≤20)∧(left'≤left)∧(c+300*left'≤pos+300*left))
def AmG (D N:Nat):Prop:=∀{m:Nat} (H:Gn true D m) {Γ:Ctx} {K M:Int} {y:Ctx} {k:Int} (f depth:Int) (loop pure:Int) (C v:Int) (it bl:Int) (pos u:Int) (count left:Int) (call d:Int) (B V R:Rs) (O:MS true Γ f K M bl pos u count left call d B V) (J:AZ loop pure (depth+1) y Γ k left R) (h:0≤depth∧depth≤2∧(pure=0∨pure=1)∧(loop=0∨loop=1)∧depth.toNat<m∧it≤10∧v=R.length∧v+it≤20∧0≤v:=by exact kn),Ok trees N ⟨[f,depth,loop,pure,C,v,it,bl,pos,u,count,left,call,d],[],[B,V,R],[]⟩ fun x=>(x=(0,v0))∨(∃(j c left':Int),∃(o:Rs),x=(1,(⟨[j,c,left'],[],[o],[]⟩:Ah))∧(MS true Γ f K M bl c u count left' call d B V)∧(AZ loop pure (depth+1) y Γ k left' o)∧(j=o.length)∧(j≤20)∧(left'≤left)∧(c+300*left'≤pos+300*left))∨(∃(A:Ctx),∃(j c q g left':Int),∃(o z:Rs),x=(2,(⟨[j,c,q,g,left'],[],[o,z],[]⟩:Ah))∧(MS false A f K M bl c q g left' call d B z)∧(AZ loop pure (depth+1) y A k left' o)∧(Ext u V z)∧(count≤g)∧(u≤q)∧(j=o.length)∧(j≤20)∧(left'≤left)∧(c+300*left'≤pos+300*left))
theorem AkW {m:Nat} (bd:Gn true 13 m) (n:Nat):Anj 13 66 m n:=by
 induction n with
 |zero=>intro Γ K M Γ0 aY f depth loop pure ao rl it bl pos vl count left call d B V R hM k h;exact absurd h.2.2.2.2.2.2.2.2.2 (Nat.not_lt_zero _)
 |succ n ih=>
 intro Γ K M Γ0 aY f depth loop pure ao rl it bl pos vl count left call d B V R hM k h
 have ⟨hm,cV,c5,c2,c1,c4,cU,cW,c7,cX,cZ⟩:=hM;have ⟨hB,hl,hvl,Hq,hV,hb,hc,hd⟩:=hm;have cY:G 3=40:=rfl;have c3:G 2=12:=rfl;have c6:G (3-1)=12:=rfl
 refine .of (t:=Acu) rfl ?_
 unfold Acu
 refine gt it 0 (fun t1=>?_) fun t1=>?_
 ·refine gt left 0 (fun t2=>?_) fun t2=>?_
  ·obtain ⟨_,(⟨aZ,bg,bj,aG,ap,aU,aF,aD,aX,ax,au,aP,aH,aO,aC,v,j,a9,ay,aw,ae,ad,Z,ac,rfl,o,bo,cc,bq,bB,cJ,b6,b2⟩|⟨ab,bc,a5,a1,aR,aA,aV,az,aI,aE,aM,aB,x,u,c,g,bh,aL,ai,al,aa,ah,z,rfl,q,cr,cx,cp,bJ,cb,bn,cK,bE,b5,bk⟩),G3⟩:=bd f depth 0 loop pure bl pos vl count left call d B V (MS.mv hM) kn
   ·refine ch G3 ?_
    have ⟨_,_,b8,cg,bD,cI,bw,cu,_,_,_⟩:=o
    refine ll aD ae ?_
    refine ll aH ad ?_
    refine ll aO Z ?_
    refine ll aC ac ?_
    refine dL (R++[Be aZ bg 0 bj a9 aG ap aU ay aF ae aX ax au aw aP ad Z ac]) (fun W4 e4=>?_) (BG (pw rl R) pe)
    have f4:=cL e4;try simp only [lA,lC,lN,lT']at f4
    refine FA (W4.length:Int) 1048576 ?_
    obtain ⟨_,(rfl|⟨aq,am,Q,bi,rfl,C,cq,bN,bK,bL,bV⟩|⟨a3,aJ,an,av,A,U,ba,a7,rfl,J,b7,bH,bO,cD,bA,cz,cG,cB⟩),X⟩:=ih f depth loop pure ao (W4.length:Int) (it-1) bl v vl count j call d B V W4 (MS.mv o) (by subst_vars;exact AZ.snoc k ‹_›) kn
    ·refine ch X ?_
     exact Aj ⟨[(W4.length:Int),v,j],[],[W4],[]⟩ (.inr (.inl (⟨_,_,_,_,rfl,(MS.mv o),(by first|assumption|(subst_vars;exact AZ.snoc k ‹_›)),kn,kn,kn,kn⟩)))
    ·refine cm X ?_
     refine ch X ?_
     have ⟨_,_,bz,bW,cF,bG,b9,bI,_,_,_⟩:=C
     exact Aj ⟨[aq,am,Q],[],[bi],[]⟩ (.inr (.inl (⟨_,_,_,_,rfl,(MS.mv C),(by first|assumption|(subst_vars;exact AZ.snoc k ‹_›)),kn,kn,kn,kn⟩)))
    refine cm X ?_
    refine cm X ?_
    refine ch X ?_
    have ⟨_,_,b3,bM,bP,bX,bx,b4,_,_,_⟩:=J
    exact Aj ⟨[aJ,an,av,A,U],[],[ba,a7],[]⟩ (.inr (.inr ((⟨a3,_,_,_,_,_,_,_,rfl,(MS.mv J),(by first|assumption|(subst_vars;exact AZ.snoc k ‹_›)),AE,kn,kn,kn,kn,kn,kn⟩))))
   refine cm G3 ?_
   refine ch G3 ?_
   have ⟨_,_,bS,bm,br,b0,bY,bp,_,_,_⟩:=q
   refine ll aI ai ?_
   refine ll aE al ?_
   refine ll aM aa ?_
   refine ll aB ah ?_
   refine dL (R++[Be bc 0 a5 a1 bh aR aA aV aL az ai 0 0 0 [] 0 al aa ah]) (fun W6 e6=>?_) (BG (pw rl R) pe)
   have f6:=cL e6;try simp only [lA,lC,lN,lT']at f6
   refine FA (W6.length:Int) 1048576 ?_
   obtain ⟨_,(rfl|⟨aK,aj,P,a2,rfl,H,bt,cj,cH,cn,bF⟩|⟨a0,aQ,af,aW,y,N,a6,be,rfl,D,bR,cd,ce,bT,ct,bZ,bC,cE⟩),O⟩:=Vj (Gn.of (n:=10) @Rw) f depth loop pure ao (W6.length:Int) (it-1) bl x u c g call d B W6 z (MS.mv q) (by subst_vars;exact AZ.snoc k ‹_›)
   ·refine ch O ?_
    exact Aj ⟨[(W6.length:Int),x,u,c,g],[],[W6,z],[]⟩ (.inr (.inr ((⟨ab,_,_,_,_,_,_,_,rfl,(MS.mv q),(by first|assumption|(subst_vars;exact AZ.snoc k ‹_›)),AE,kn,kn,kn,kn,kn,kn⟩))))
   ·refine cm O ?_
    refine ch O ?_
    have ⟨_,_,cC,co,cf,bU,cw,ci,_,_,_⟩:=H
    exact Aj ⟨[aK,aj,u,c,P],[],[a2,z],[]⟩ (.inr (.inr ((⟨ab,_,_,_,_,_,_,_,rfl,(MS.mv H),(by first|assumption|(subst_vars;exact AZ.snoc k ‹_›)),AE,kn,kn,kn,kn,kn,kn⟩))))
   refine cm O ?_
   refine cm O ?_
   refine ch O ?_
   have ⟨_,_,cA,cv,cy,bQ,bv,b1,_,_,_⟩:=D
   exact Aj ⟨[aQ,af,aW,y,N],[],[a6,be],[]⟩ (.inr (.inr ((⟨a0,_,_,_,_,_,_,_,rfl,(MS.mv D),(by first|assumption|(subst_vars;exact AZ.snoc k ‹_›)),AE,kn,kn,kn,kn,kn,kn⟩))))
  exact Aj v0 (.inl rfl)
 exact Aj v0 (.inl rfl)
theorem AiQ:AmG 13 66:=fun {m} hC12 {Γ} {K} {M} {Γ0} {left0} f depth loop pure vn0 rl it bl pos vl count left call loads B V R hM hL h=>AkW @hC12 (it.toNat+1) f depth loop pure vn0 rl it bl pos vl count left call loads B V R hM hL ⟨h.1,h.2.1,h.2.2.1,h.2.2.2.1,h.2.2.2.2.1,h.2.2.2.2.2.1,h.2.2.2.2.2.2.1,h.2.2.2.2.2.2.2.1,h.2.2.2.2.2.2.2.2,Nat.lt_succ_self _⟩
def AmI (y N:Nat):Prop:=∀{m:Nat} (z:Gn true y m) {Γ:Ctx} {K M:Int} (f depth:Int) (loop pure:Int) (vn0 it:Int) (q pos:Int) (o count:Int) (left call loads:Int) (B V:Rs) (A:MS true Γ f K M q pos o count left call loads B V) (h:0≤depth∧depth≤2∧(pure=0∨pure=1)∧(loop=0∨loop=1)∧depth.toNat<m∧it≤10:=by exact kn),Ok trees N ⟨[f,depth,loop,pure,vn0,it,q,pos,o,count,left,call,loads],[],[B,V],[]⟩ fun u=>(u=(0,v0))∨(∃(g c left':Int),∃(j:Rs),u=(1,(⟨[g,c,left'],[],[j],[]⟩:Ah))∧(MS true Γ f K M q c o count left' call loads B V)∧(AZ loop pure (depth+1) Γ Γ left left' j)∧(g=j.length)∧(g≤20)∧(left'≤left)∧(c+300*left'≤pos+300*left))∨(∃(x:Ctx),∃(g c k d left':Int),∃(j v:Rs),u=(2,(⟨[g,c,k,d,left'],[],[j,v],[]⟩:Ah))∧(MS false x f K M q c k d left' call loads B v)∧(AZ loop pure (depth+1) Γ x left left' j)∧(Ext o V v)∧(count≤d)∧(o≤k)∧(g=j.length)∧(g≤20)∧(left'≤left)∧(c+300*left'≤pos+300*left))
theorem AlF:AmI 13 63:=by
 intro m ai Γ K M f depth loop pure aR it bl pos vl count left call j B V hM h
 have ⟨hm,cQ,cZ,cW,cV,cY,cP,cR,c2,cS,cU⟩:=hM;have ⟨hB,hl,hvl,Hq,hV,hb,hc,hd⟩:=hm;have cT:G 3=40:=rfl;have cX:G 2=12:=rfl;have c1:G (3-1)=12:=rfl
 refine .of (t:=Acw) rfl ?_
 unfold Acw
 refine gt it 0 (fun t1=>?_) fun t1=>?_
 ·refine gt left 0 (fun t2=>?_) fun t2=>?_
  ·obtain ⟨_,(⟨aU,a9,bd,aC,al,aN,aB,az,aQ,aq,an,aK,aD,aJ,ay,u,g,a4,au,ap,ac,ab,U,aa,rfl,k,bj,b8,bm,bw,cF,b3,bZ⟩|⟨Z,a7,a0,aW,aM,aw,aO,av,aE,aA,aI,ax,v,q,c,d,bb,aH,af,ah,X,ae,y,rfl,o,co,cu,cj,bG,b7,bi,bE,bA,b2,bf⟩),G3⟩:=ai f depth 0 loop pure bl pos vl count left call j B V (MS.mv hM) kn
   ·refine ch G3 ?_
    have ⟨_,_,b5,cd,bz,cE,bq,cq,_,_,_⟩:=k
    refine ll az ac ?_
    refine ll aD ab ?_
    refine ll aJ U ?_
    refine ll ay aa ?_
    refine dL [Be aU a9 0 bd a4 aC al aN au aB ac aQ aq an ap aK ab U aa] (fun W4 e4=>?_)
    have f4:=cL e4;try simp only [lA,lC,lN,lT']at f4
    refine ll 1 W4 ?_
    obtain ⟨_,(rfl|⟨am,aj,P,bc,rfl,A,cn,bK,bH,bI,bS⟩|⟨aY,aF,ak,ao,z,Q,a5,a2,rfl,H,b4,bD,bL,cA,bv,cw,cG,cy⟩),R⟩:=AiQ @ai f depth loop pure aR 1 (it-1) bl u vl count g call j B V W4 (MS.mv k) (by subst_vars;exact AZ.one ‹_› om)
    ·refine ch R ?_
     exact Aj ⟨[1,u,g],[],[W4],[]⟩ (.inr (.inl (⟨_,_,_,_,rfl,(MS.mv k),(by first|assumption|(subst_vars;exact AZ.one ‹_› om)),kn,kn,kn,kn⟩)))
    ·refine cm R ?_
     refine ch R ?_
     have ⟨_,_,bt,bT,cC,bC,b6,bF,_,_,_⟩:=A
     exact Aj ⟨[am,aj,P],[],[bc],[]⟩ (.inr (.inl (⟨_,_,_,_,rfl,(MS.mv A),(by first|assumption|(subst_vars;exact AZ.one ‹_› om)),kn,kn,kn,kn⟩)))
    refine cm R ?_
    refine cm R ?_
    refine ch R ?_
    have ⟨_,_,b0,bJ,bM,bU,br,b1,_,_,_⟩:=H
    exact Aj ⟨[aF,ak,ao,z,Q],[],[a5,a2],[]⟩ (.inr (.inr ((⟨aY,_,_,_,_,_,_,_,rfl,(MS.mv H),(by first|assumption|(subst_vars;exact AZ.one ‹_› om)),AE,kn,kn,kn,kn,kn,kn⟩))))
   refine cm G3 ?_
   refine ch G3 ?_
   have ⟨_,_,bP,bh,bn,bX,bV,bk,_,_,_⟩:=o
   refine ll aE af ?_
   refine ll aA ah ?_
   refine ll aI X ?_
   refine ll ax ae ?_
   refine dL [Be a7 0 a0 aW bb aM aw aO aH av af 0 0 0 [] 0 ah X ae] (fun W6 e6=>?_)
   have f6:=cL e6;try simp only [lA,lC,lN,lT']at f6
   refine ll 1 W6 ?_
   obtain ⟨_,(rfl|⟨aG,ag,O,aX,rfl,D,bo,cf,cD,cg,bB⟩|⟨aV,aL,ad,aP,x,J,a1,a8,rfl,C,bO,b9,cb,bQ,cp,bW,bx,cB⟩),N⟩:=Vj (Gn.of (n:=10) @Rw) f depth loop pure aR 1 (it-1) bl v q c d call j B W6 y (MS.mv o) (by subst_vars;exact AZ.one ‹_› om)
   ·refine ch N ?_
    exact Aj ⟨[1,v,q,c,d],[],[W6,y],[]⟩ (.inr (.inr ((⟨Z,_,_,_,_,_,_,_,rfl,(MS.mv o),(by first|assumption|(subst_vars;exact AZ.one ‹_› om)),AE,kn,kn,kn,kn,kn,kn⟩))))
   ·refine cm N ?_
    refine ch N ?_
    have ⟨_,_,cz,ci,cc,bR,ct,ce,_,_,_⟩:=D
    exact Aj ⟨[aG,ag,q,c,O],[],[aX,y],[]⟩ (.inr (.inr ((⟨Z,_,_,_,_,_,_,_,rfl,(MS.mv D),(by first|assumption|(subst_vars;exact AZ.one ‹_› om)),AE,kn,kn,kn,kn,kn,kn⟩))))
   refine cm N ?_
   refine cm N ?_
   refine ch N ?_
   have ⟨_,_,cx,cr,cv,bN,bp,bY,_,_,_⟩:=C
   exact Aj ⟨[aL,ad,aP,x,J],[],[a1,a8],[]⟩ (.inr (.inr ((⟨aV,_,_,_,_,_,_,_,rfl,(MS.mv C),(by first|assumption|(subst_vars;exact AZ.one ‹_› om)),AE,kn,kn,kn,kn,kn,kn⟩))))
  exact Aj v0 (.inl rfl)
 exact Aj v0 (.inl rfl)
def AmC (D N:Nat):Prop:=∀{m:Nat} (H:Gn true D m) {Γ:Ctx} {K M:Int} {y:Ctx} {k:Int} (f depth:Int) (loop pure:Int) (C v:Int) (it bl:Int) (pos u:Int) (count left:Int) (call d:Int) (R B V:Rs) (O:MS true Γ f K M bl pos u count left call d B V) (J:AZ loop pure (depth+1) y Γ k left R) (h:0≤depth∧depth≤2∧(pure=0∨pure=1)∧(loop=0∨loop=1)∧depth.toNat<m∧it≤10∧v=R.length∧v+it≤20∧0≤v:=by exact kn),Ok trees N ⟨[f,depth,loop,pure,C,v,it,bl,pos,u,count,left,call,d],[],[R,B,V],[]⟩ fun x=>(∃(j c left':Int),∃(o:Rs),x=(0,(⟨[j,c,left'],[],[o],[]⟩:Ah))∧(MS true Γ f K M bl c u count left' call d B V)∧(AZ loop pure (depth+1) y Γ k left' o)∧(j=o.length)∧(j≤20)∧(left'≤left)∧(c+300*left'≤pos+300*left))∨(x=(1,v0))∨(∃(A:Ctx),∃(j c q g left':Int),∃(o z:Rs),x=(2,(⟨[j,c,q,g,left'],[],[o,z],[]⟩:Ah))∧(MS false A f K M bl c q g left' call d B z)∧(AZ loop pure (depth+1) y A k left' o)∧(Ext u V z)∧(count≤g)∧(u≤q)∧(j=o.length)∧(j≤20)∧(left'≤left)∧(c+300*left'≤pos+300*left))
theorem AlD:AmC 13 72:=by
 intro m am Γ K M Γ0 cD f depth loop pure aX rl it bl pos vl count left call j R B V hM u h
 have ⟨hm,cT,c3,cZ,cY,c2,cS,cU,c5,cV,cX⟩:=hM;have ⟨hB,hl,hvl,Hq,hV,hb,hc,hd⟩:=hm;have cW:G 3=40:=rfl;have c1:G 2=12:=rfl;have c4:G (3-1)=12:=rfl
 refine .of (t:=Acp) rfl ?_
 unfold Acp
 refine gt it 0 (fun t1=>?_) fun t1=>?_
 ·refine gt left 0 (fun t2=>?_) fun t2=>?_
  ·obtain ⟨_,(⟨aY,bb,bf,aG,ap,aR,aF,aD,aW,ax,au,aO,aH,aN,aC,v,g,a7,ay,aw,ae,ad,Z,ac,rfl,k,bm,b9,bo,bz,cI,b4,b0⟩|⟨ab,a9,a4,a0,aQ,aA,aU,az,aI,aE,aM,aB,x,q,c,d,bd,aL,ai,al,aa,ah,z,rfl,o,cp,cv,cn,bH,b8,bk,cJ,bC,b3,bh⟩),G3⟩:=am f depth 0 loop pure bl pos vl count left call j B V (MS.mv hM) kn
   ·refine ch G3 ?_
    have ⟨_,_,b6,ce,bB,cH,bt,cr,_,_,_⟩:=k
    refine ll aD ae ?_
    refine ll aH ad ?_
    refine ll aN Z ?_
    refine ll aC ac ?_
    refine dL (R++[Be aY bb 0 bf a7 aG ap aR ay aF ae aW ax au aw aO ad Z ac]) (fun W4 e4=>?_) (BG rfl pe)
    have f4:=cL e4;try simp only [lA,lC,lN,lT']at f4
    refine FA (W4.length:Int) 1048576 ?_
    obtain ⟨_,(rfl|⟨aq,an,Q,be,rfl,C,co,bL,bI,bJ,bT⟩|⟨a2,aJ,ao,av,A,U,a8,a6,rfl,J,b5,bF,bM,cB,bx,cx,cF,cz⟩),X⟩:=AiQ @am f depth loop pure aX (W4.length:Int) (it-1) bl v vl count g call j B V W4 (MS.mv k) (by subst_vars;exact AZ.snoc u ‹_›)
    ·refine ch X ?_
     exact Aj ⟨[(W4.length:Int),v,g],[],[W4],[]⟩ (.inl (⟨_,_,_,_,rfl,(MS.mv k),(by first|assumption|(subst_vars;exact AZ.snoc u ‹_›)),kn,kn,kn,kn⟩))
    ·refine cm X ?_
     refine ch X ?_
     have ⟨_,_,bw,bU,cE,bE,b7,bG,_,_,_⟩:=C
     exact Aj ⟨[aq,an,Q],[],[be],[]⟩ (.inl (⟨_,_,_,_,rfl,(MS.mv C),(by first|assumption|(subst_vars;exact AZ.snoc u ‹_›)),kn,kn,kn,kn⟩))
    refine cm X ?_
    refine cm X ?_
    refine ch X ?_
    have ⟨_,_,b1,bK,bN,bV,bv,b2,_,_,_⟩:=J
    exact Aj ⟨[aJ,ao,av,A,U],[],[a8,a6],[]⟩ (.inr (.inr ((⟨a2,_,_,_,_,_,_,_,rfl,(MS.mv J),(by first|assumption|(subst_vars;exact AZ.snoc u ‹_›)),AE,kn,kn,kn,kn,kn,kn⟩))))
   refine cm G3 ?_
   refine ch G3 ?_
   have ⟨_,_,bQ,bj,bp,bY,bW,bn,_,_,_⟩:=o
   refine ll aI ai ?_
   refine ll aE al ?_
   refine ll aM aa ?_
   refine ll aB ah ?_
   refine dL (R++[Be a9 0 a4 a0 bd aQ aA aU aL az ai 0 0 0 [] 0 al aa ah]) (fun W6 e6=>?_) (BG rfl pe)
   have f6:=cL e6;try simp only [lA,lC,lN,lT']at f6
   refine FA (W6.length:Int) 1048576 ?_
   obtain ⟨_,(rfl|⟨aK,aj,P,a1,rfl,H,bq,cg,cG,ci,bD⟩|⟨aZ,aP,af,aV,y,N,a5,ba,rfl,D,bP,cb,cc,bR,cq,bX,bA,cC⟩),O⟩:=Vj (Gn.of (n:=10) @Rw) f depth loop pure aX (W6.length:Int) (it-1) bl x q c d call j B W6 z (MS.mv o) (by subst_vars;exact AZ.snoc u ‹_›)
   ·refine ch O ?_
    exact Aj ⟨[(W6.length:Int),x,q,c,d],[],[W6,z],[]⟩ (.inr (.inr ((⟨ab,_,_,_,_,_,_,_,rfl,(MS.mv o),(by first|assumption|(subst_vars;exact AZ.snoc u ‹_›)),AE,kn,kn,kn,kn,kn,kn⟩))))
   ·refine cm O ?_
    refine ch O ?_
    have ⟨_,_,cA,cj,cd,bS,cu,cf,_,_,_⟩:=H
    exact Aj ⟨[aK,aj,q,c,P],[],[a1,z],[]⟩ (.inr (.inr ((⟨ab,_,_,_,_,_,_,_,rfl,(MS.mv H),(by first|assumption|(subst_vars;exact AZ.snoc u ‹_›)),AE,kn,kn,kn,kn,kn,kn⟩))))
   refine cm O ?_
   refine cm O ?_
   refine ch O ?_
   have ⟨_,_,cy,ct,cw,bO,br,bZ,_,_,_⟩:=D
   exact Aj ⟨[aP,af,aV,y,N],[],[a5,ba],[]⟩ (.inr (.inr ((⟨aZ,_,_,_,_,_,_,_,rfl,(MS.mv D),(by first|assumption|(subst_vars;exact AZ.snoc u ‹_›)),AE,kn,kn,kn,kn,kn,kn⟩))))
  exact Aj v0 (.inr (.inl rfl))
 exact Aj v0 (.inr (.inl rfl))
theorem AlH:Y3 true 13 59:=by
 intro m Q Γ K M f depth loop pure bl pos c count left call g B V N h
 have ⟨hm,bm,bx,bq,bp,bt,bk,bo,bA,bv,bn⟩:=N;have ⟨hB,hl,hvl,Hq,hV,hb,hc,hd⟩:=hm;have bw:G 3=40:=rfl;have br:G 2=12:=rfl;have bz:G (3-1)=12:=rfl
 refine .of (t:=Acz) rfl ?_
 unfold Acz
 obtain ⟨_,⟨ag,d,rfl,bf,bg,be⟩,G1⟩:=Yu hB hl pos c count left call g V
 refine ch G1 ?_
 obtain ⟨_,(rfl|⟨u,X,P,R,rfl,A,a7,aX,a3,a9,aR⟩|⟨bj,y,Z,af,k,J,ac,ah,rfl,o,aI,aB,ao,aD,ba,ax,aY,aP⟩),D⟩:=AlF @Q f depth loop pure c (1+(ag%3)) bl d c count left call g B V (MS.mv N)
 ·refine ch D ?_
  refine de [] ?_
  refine ll 0 [] ?_
  refine fr ?_
  obtain ⟨_,(⟨q,U,C,ab,rfl,v,an,az,ap,aG,a8⟩|rfl|⟨bi,z,ad,ae,j,O,aa,ai,rfl,x,au,aZ,aV,a1,aN,aq,aC,aO⟩),H⟩:=AlD @Q f depth loop pure c 0 (1+(ag%3)) bl d c count left call g [] B V (MS.mv N) (AZ.nil (left:=left) om)
  ·refine ch H ?_
   have ⟨_,_,aw,aH,aL,bb,ay,aW,_,_,_⟩:=v
   refine ll q ab ?_
   refine fr ?_
   exact Aj ⟨[q,U,C],[],[ab],[]⟩ (.inl (⟨_,_,_,_,rfl,(MS.mv v),(by first|exact IG.nil om|exact IG.mk ‹_›),kn,kn,kn⟩))
  ·refine cm H ?_
   refine ch H ?_
   exact Aj ⟨[0,d,left],[],[[]],[]⟩ (.inl (⟨_,_,_,_,rfl,(MS.mv N),(by first|exact IG.nil om|exact IG.mk ‹_›),kn,kn,kn⟩))
  refine cm H ?_
  refine cm H ?_
  refine ch H ?_
  have ⟨_,_,bc,aU,a2,aQ,a5,aE,_,_,_⟩:=x
  refine CJ c 0 ?_
  refine FA c ae ?_
  refine ll z aa ?_
  refine fr ?_
  exact Aj ⟨[z,ad,c,j,O],[],[aa,ai],[]⟩ (.inr ((⟨_,_,_,_,_,_,rfl,(MS.back N (MS.mv x) ‹_› om),(by first|exact IG.nil om|exact IG.mk ‹_›),AE,kn,kn,kn,kn⟩)))
 ·refine cm D ?_
  refine ch D ?_
  have ⟨_,_,aJ,aA,al,aM,am,a6,_,_,_⟩:=A
  refine ll u R ?_
  refine fr ?_
  exact Aj ⟨[u,X,P],[],[R],[]⟩ (.inl (⟨_,_,_,_,rfl,(MS.mv A),(by first|exact IG.nil om|exact IG.mk ‹_›),kn,kn,kn⟩))
 refine cm D ?_
 refine cm D ?_
 refine ch D ?_
 have ⟨_,_,ak,a0,aK,a4,aF,av,_,_,_⟩:=o
 refine CJ c 0 ?_
 refine FA c af ?_
 refine ll y ac ?_
 refine fr ?_
 exact Aj ⟨[y,Z,c,k,J],[],[ac,ah],[]⟩ (.inr ((⟨_,_,_,_,_,_,rfl,(MS.back N (MS.mv o) ‹_› om),(by first|exact IG.nil om|exact IG.mk ‹_›),AE,kn,kn,kn,kn⟩)))
theorem Ajn:AdA true 13:=@U5 true 0 13 12 9 20 21 22 23 24 25 59 8 58 rfl @Yu @AfH @Amd @Vk @Amc @Amb @AfG @AlH @LB @AfB (fun _ _=>Gn.of @Rw)
end Go.Proofs.YtbmofjdmgjpfoaaGreatDoor.Am
end
