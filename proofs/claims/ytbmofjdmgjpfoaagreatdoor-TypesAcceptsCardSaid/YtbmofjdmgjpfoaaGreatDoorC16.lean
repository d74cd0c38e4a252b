/- Part 16 of the proof of TypesAccepts. -/
import Derived.Test.YtbmofjdmgjpfoaaGreatDoorC11
import Derived.Test.YtbmofjdmgjpfoaaGreatDoorC15
set_option linter.all false
section
set_option maxHeartbeats 4000000
set_option maxRecDepth 100000
namespace Go.Proofs.YtbmofjdmgjpfoaaGreatDoor.Am
open Go.AM Go.AM.K
def AmO (D N:Nat) (m n:Nat):Prop:=∀{Γ:Ctx} {K M:Int} {y:Ctx} {k:Int} (f depth:Int) (loop pure:Int) (C v:Int) (it bl:Int) (pos q:Int) (count left:Int) (call d:Int) (B R V:Rs) (J:MS false Γ f K M bl pos q count left call d B V) (H:AZ loop pure (depth+1) y Γ k left R) (h:0≤depth∧depth≤2∧(pure=0∨pure=1)∧(loop=0∨loop=1)∧depth.toNat<m∧it≤10∧v=R.length∧v+it≤20∧0≤v∧it.toNat<n),Ok trees N ⟨[f,depth,loop,pure,C,v,it,bl,pos,q,count,left,call,d],[],[B,R,V],[]⟩ fun z=>(z=(0,v0))∨(∃(g c left':Int),∃(o:Rs),z=(1,(⟨[g,c,left'],[],[o],[]⟩:Ah))∧(MS false Γ f K M bl c q count left' call d B V)∧(AZ loop pure (depth+1) y Γ k left' o)∧(g=o.length)∧(g≤20)∧(left'≤left)∧(c+300*left'≤pos+300*left))∨(∃(A:Ctx),∃(g c u j left':Int),∃(o x:Rs),z=(2,(⟨[g,c,u,j,left'],[],[o,x],[]⟩:Ah))∧(MS false A f K M bl c u j left' call d B x)∧(AZ loop pure (depth+1) y A k left' o)∧(Ext q V x)∧(count≤j)∧(q≤u)∧(g=o.length)∧(g≤20)∧(left'≤left)∧(c+300*left'≤pos+300*left))
def Amw (D N:Nat):Prop:=∀{m:Nat} (H:Gj false D m) {Γ:Ctx} {K M:Int} {y:Ctx} {k:Int} (f depth:Int) (loop pure:Int) (C v:Int) (it bl:Int) (pos q:Int) (count left:Int) (call d:Int) (B R V:Rs) (O:MS false Γ f K M bl pos q count left call d B V) (J:AZ loop pure (depth+1) y Γ k left R) (h:0≤depth∧depth≤2∧(pure=0∨pure=1)∧(loop=0∨loop=1)∧depth.toNat<m∧it≤10∧v=R.length∧v+it≤20∧0≤v:=by exact kn),Ok trees N ⟨[f,depth,loop,pure,C,v,it,bl,pos,q,count,left,call,d],[],[B,R,V],[]⟩ fun z=>(z=(0,v0))∨(∃(g c left':Int),∃(o:Rs),z=(1,(⟨[g,c,left'],[],[o],[]⟩:Ah))∧(MS false Γ f K M bl c q count left' call d B V)∧(AZ loop pure (depth+1) y Γ k left' o)∧(g=o.length)∧(g≤20)∧(left'≤left)∧(c+300*left'≤pos+300*left))∨(∃(A:Ctx),∃(g c u j left':Int),∃(o x:Rs),z=(2,(⟨[g,c,u,j,left'],[],[o,x],[]⟩:Ah))∧(MS false A f K M bl c u j left' call d B x)∧(AZ loop pure (depth+1) y A k left' o)∧(Ext q V x)∧(count≤j)∧(q≤u)∧(g=o.length)∧(g≤20)∧(left'≤left)∧(c+300*left'≤pos+300*left))
theorem AkD {m:Nat} (a2:Gj false 12 m) (n:Nat):AmO 12 65 m n:=by
 induction n with
 |zero=>intro Γ K M Γ0 aE f depth loop pure ab rl it bl pos vl count left call d B R V hM u h;exact absurd h.2.2.2.2.2.2.2.2.2 (Nat.not_lt_zero _)
 |succ n ih=>
 intro Γ K M Γ0 aE f depth loop pure ab rl it bl pos vl count left call d B R V hM u h
 have ⟨hm,c2,cX,cZ,c1,cU,cY,c5,c4,c7,cW⟩:=hM;have ⟨hB,hl,hvl,Hi,hV,hb,hc,hd⟩:=hm;have c6:G 3=40:=rfl;have c3:G 2=12:=rfl;have cV:G (3-1)=12:=rfl
 refine .of (t:=AbW) rfl ?_
 unfold AbW
 refine gt it 0 (fun t1=>?_) fun t1=>?_
 ·refine gt left 0 (fun t2=>?_) fun t2=>?_
  ·obtain ⟨_,(⟨bj,a7,a8,aF,aG,aq,ay,aH,aM,aK,aD,aY,ax,aC,aL,v,g,a9,aZ,aw,ap,ak,an,ad,rfl,q,bo,br,cb,cq,cd,cH,b5⟩|⟨ah,bf,ba,bc,aO,aN,aU,aB,az,aV,aQ,aW,x,o,c,j,bd,aI,ag,ai,aa,am,y,rfl,k,bT,bF,bR,ci,b4,cD,b9,cI,bU,bm⟩),G3⟩:=a2 f depth 0 loop pure bl pos vl count left call d B V (MS.mv hM) kn
   ·refine ch G3 ?_
    have ⟨_,_,bJ,cu,bv,bY,bX,bO,_,_,_⟩:=q
    refine ll aH ap ?_
    refine ll ax ak ?_
    refine ll aC an ?_
    refine ll aL ad ?_
    refine dL (R++[Bh bj a7 0 a8 a9 aF aG aq aZ ay ap aM aK aD aw aY ak an ad]) (fun W4 e4=>?_) (BG (pw rl R) pe)
    have f4:=cL e4;try simp only [lA,lC,lN,lT']at f4
    refine F8 (W4.length:Int) 1048576 ?_
    obtain ⟨_,(rfl|⟨aP,ae,Z,bb,rfl,D,bV,cr,bz,bP,b6⟩|⟨be,aA,al,au,z,Q,a6,bk,rfl,C,b2,cK,bM,bI,cA,cG,ce,bK⟩),O⟩:=ih f depth loop pure ab (W4.length:Int) (it-1) bl v vl count g call d B W4 V (MS.mv q) (by subst_vars;exact AZ.snoc u ‹_›) kn
    ·refine ch O ?_
     exact Aj ⟨[(W4.length:Int),v,g],[],[W4],[]⟩ (.inr (.inl (⟨_,_,_,_,rfl,(MS.mv q),(by first|assumption|(subst_vars;exact AZ.snoc u ‹_›)),kn,kn,kn,kn⟩)))
    ·refine cm O ?_
     refine ch O ?_
     have ⟨_,_,bN,bC,cJ,bH,cv,ck,_,_,_⟩:=D
     exact Aj ⟨[aP,ae,Z],[],[bb],[]⟩ (.inr (.inl (⟨_,_,_,_,rfl,(MS.mv D),(by first|assumption|(subst_vars;exact AZ.snoc u ‹_›)),kn,kn,kn,kn⟩)))
    refine cm O ?_
    refine cm O ?_
    refine ch O ?_
    have ⟨_,_,cx,bq,bD,ct,cf,bw,_,_,_⟩:=C
    exact Aj ⟨[aA,al,au,z,Q],[],[a6,bk],[]⟩ (.inr (.inr ((⟨be,_,_,_,_,_,_,_,rfl,(MS.mv C),(by first|assumption|(subst_vars;exact AZ.snoc u ‹_›)),AE,kn,kn,kn,kn,kn,kn⟩))))
   refine cm G3 ?_
   refine ch G3 ?_
   have ⟨_,_,cg,b1,b7,bt,cC,cw,_,_,_⟩:=k
   refine ll az ag ?_
   refine ll aV ai ?_
   refine ll aQ aa ?_
   refine ll aW am ?_
   refine dL (R++[Bh bf 0 ba bc bd aO aN aU aI aB ag 0 0 0 [] 0 ai aa am]) (fun W6 e6=>?_) (BG (pw rl R) pe)
   have f6:=cL e6;try simp only [lA,lC,lN,lT']at f6
   refine F8 (W6.length:Int) 1048576 ?_
   obtain ⟨_,(rfl|⟨aR,ac,N,a0,rfl,J,cy,b8,bx,cp,bS⟩|⟨a3,av,ao,aX,A,U,bi,a4,rfl,H,bE,cz,co,bW,bn,bp,cc,bZ⟩),P⟩:=ih f depth loop pure ab (W6.length:Int) (it-1) bl x o c j call d B W6 y (MS.mv k) (by subst_vars;exact AZ.snoc u ‹_›) kn
   ·refine ch P ?_
    exact Aj ⟨[(W6.length:Int),x,o,c,j],[],[W6,y],[]⟩ (.inr (.inr ((⟨ah,_,_,_,_,_,_,_,rfl,(MS.mv k),(by first|assumption|(subst_vars;exact AZ.snoc u ‹_›)),AE,kn,kn,kn,kn,kn,kn⟩))))
   ·refine cm P ?_
    refine ch P ?_
    have ⟨_,_,bQ,bB,cB,cj,bA,b3,_,_,_⟩:=J
    exact Aj ⟨[aR,ac,o,c,N],[],[a0,y],[]⟩ (.inr (.inr ((⟨ah,_,_,_,_,_,_,_,rfl,(MS.mv J),(by first|assumption|(subst_vars;exact AZ.snoc u ‹_›)),AE,kn,kn,kn,kn,kn,kn⟩))))
   refine cm P ?_
   refine cm P ?_
   refine ch P ?_
   have ⟨_,_,cE,b0,bL,cF,bG,cn,_,_,_⟩:=H
   exact Aj ⟨[av,ao,aX,A,U],[],[bi,a4],[]⟩ (.inr (.inr ((⟨a3,_,_,_,_,_,_,_,rfl,(MS.mv H),(by first|assumption|(subst_vars;exact AZ.snoc u ‹_›)),AE,kn,kn,kn,kn,kn,kn⟩))))
  exact Aj v0 (.inl rfl)
 exact Aj v0 (.inl rfl)
theorem US:Amw 12 65:=fun {m} hC12 {Γ} {K} {M} {Γ0} {left0} f depth loop pure vn0 rl it bl pos vl count left call loads B R V hM hL h=>AkD @hC12 (it.toNat+1) f depth loop pure vn0 rl it bl pos vl count left call loads B R V hM hL ⟨h.1,h.2.1,h.2.2.1,h.2.2.2.1,h.2.2.2.2.1,h.2.2.2.2.2.1,h.2.2.2.2.2.2.1,h.2.2.2.2.2.2.2.1,h.2.2.2.2.2.2.2.2,Nat.lt_succ_self _⟩
def Amy (y N:Nat):Prop:=∀{m:Nat} (z:Gj false y m) {Γ:Ctx} {K M:Int} (f depth:Int) (loop pure:Int) (vn0 it:Int) (q pos:Int) (k count:Int) (left call loads:Int) (B V:Rs) (A:MS false Γ f K M q pos k count left call loads B V) (h:0≤depth∧depth≤2∧(pure=0∨pure=1)∧(loop=0∨loop=1)∧depth.toNat<m∧it≤10:=by exact kn),Ok trees N ⟨[f,depth,loop,pure,vn0,it,q,pos,k,count,left,call,loads],[],[B,V],[]⟩ fun v=>(v=(0,v0))∨(∃(g c left':Int),∃(j:Rs),v=(1,(⟨[g,c,left'],[],[j],[]⟩:Ah))∧(MS false Γ f K M q c k count left' call loads B V)∧(AZ loop pure (depth+1) Γ Γ left left' j)∧(g=j.length)∧(g≤20)∧(left'≤left)∧(c+300*left'≤pos+300*left))∨(∃(x:Ctx),∃(g c o d left':Int),∃(j u:Rs),v=(2,(⟨[g,c,o,d,left'],[],[j,u],[]⟩:Ah))∧(MS false x f K M q c o d left' call loads B u)∧(AZ loop pure (depth+1) Γ x left left' j)∧(Ext k V u)∧(count≤d)∧(k≤o)∧(g=j.length)∧(g≤20)∧(left'≤left)∧(c+300*left'≤pos+300*left))
theorem Alv:Amy 12 62:=by
 intro m x Γ K M f depth loop pure aU it bl pos vl count left call q B V hM h
 have ⟨hm,cW,cS,cU,cV,cP,cT,cZ,cY,c2,cR⟩:=hM;have ⟨hB,hl,hvl,Hi,hV,hb,hc,hd⟩:=hm;have c1:G 3=40:=rfl;have cX:G 2=12:=rfl;have cQ:G (3-1)=12:=rfl
 refine .of (t:=AbY) rfl ?_
 unfold AbY
 refine gt it 0 (fun t1=>?_) fun t1=>?_
 ·refine gt left 0 (fun t2=>?_) fun t2=>?_
  ·obtain ⟨_,(⟨bd,a0,a1,aA,aB,am,au,aC,aG,aE,az,aQ,aq,ay,aF,u,d,a2,aR,ap,al,ag,aj,ab,rfl,o,bj,bn,b6,ck,b8,cD,b1⟩|⟨ae,ba,a4,a7,aI,aH,aM,ax,av,aN,aK,aO,v,k,c,g,a8,aD,ad,af,Z,ai,y,rfl,j,bP,bB,bN,cd,b0,cz,b5,cE,bQ,bf⟩),G3⟩:=x f depth 0 loop pure bl pos vl count left call q B V (MS.mv hM) kn
   ·refine ch G3 ?_
    have ⟨_,_,bF,cp,bp,bU,bT,bK,_,_,_⟩:=o
    refine ll aC al ?_
    refine ll aq ag ?_
    refine ll ay aj ?_
    refine ll aF ab ?_
    refine dL [Bh bd a0 0 a1 a2 aA aB am aR au al aG aE az ap aQ ag aj ab] (fun W4 e4=>?_)
    have f4:=cL e4;try simp only [lA,lC,lN,lT']at f4
    refine ll 1 W4 ?_
    obtain ⟨_,(rfl|⟨aJ,ac,U,a6,rfl,D,bR,cn,bt,bL,b2⟩|⟨a9,aw,ah,an,z,Q,aZ,be,rfl,C,bY,cG,bI,bE,cw,cC,b9,bG⟩),O⟩:=US @x f depth loop pure aU 1 (it-1) bl u vl count d call q B W4 V (MS.mv o) (by subst_vars;exact AZ.one ‹_› (by omega))
    ·refine ch O ?_
     exact Aj ⟨[1,u,d],[],[W4],[]⟩ (.inr (.inl (⟨_,_,_,_,rfl,(MS.mv o),(by first|assumption|(subst_vars;exact AZ.one ‹_› (by omega))),kn,kn,kn,kn⟩)))
    ·refine cm O ?_
     refine ch O ?_
     have ⟨_,_,bJ,bx,cF,bD,cq,cf,_,_,_⟩:=D
     exact Aj ⟨[aJ,ac,U],[],[a6],[]⟩ (.inr (.inl (⟨_,_,_,_,rfl,(MS.mv D),(by first|assumption|(subst_vars;exact AZ.one ‹_› (by omega))),kn,kn,kn,kn⟩)))
    refine cm O ?_
    refine cm O ?_
    refine ch O ?_
    have ⟨_,_,ct,bm,bz,co,cb,bq,_,_,_⟩:=C
    exact Aj ⟨[aw,ah,an,z,Q],[],[aZ,be],[]⟩ (.inr (.inr ((⟨a9,_,_,_,_,_,_,_,rfl,(MS.mv C),(by first|assumption|(subst_vars;exact AZ.one ‹_› (by omega))),AE,kn,kn,kn,kn,kn,kn⟩))))
   refine cm G3 ?_
   refine ch G3 ?_
   have ⟨_,_,cc,bX,b3,bo,cy,cr,_,_,_⟩:=j
   refine ll av ad ?_
   refine ll aN af ?_
   refine ll aK Z ?_
   refine ll aO ai ?_
   refine dL [Bh ba 0 a4 a7 a8 aI aH aM aD ax ad 0 0 0 [] 0 af Z ai] (fun W6 e6=>?_)
   have f6:=cL e6;try simp only [lA,lC,lN,lT']at f6
   refine ll 1 W6 ?_
   obtain ⟨_,(rfl|⟨aL,aa,N,aV,rfl,J,cu,b4,br,cj,bO⟩|⟨aW,ao,ak,aP,A,R,bc,aX,rfl,H,bA,cv,ci,bS,bi,bk,b7,bV⟩),P⟩:=US @x f depth loop pure aU 1 (it-1) bl v k c g call q B W6 y (MS.mv j) (by subst_vars;exact AZ.one ‹_› (by omega))
   ·refine ch P ?_
    exact Aj ⟨[1,v,k,c,g],[],[W6,y],[]⟩ (.inr (.inr ((⟨ae,_,_,_,_,_,_,_,rfl,(MS.mv j),(by first|assumption|(subst_vars;exact AZ.one ‹_› (by omega))),AE,kn,kn,kn,kn,kn,kn⟩))))
   ·refine cm P ?_
    refine ch P ?_
    have ⟨_,_,bM,bw,cx,ce,bv,bZ,_,_,_⟩:=J
    exact Aj ⟨[aL,aa,k,c,N],[],[aV,y],[]⟩ (.inr (.inr ((⟨ae,_,_,_,_,_,_,_,rfl,(MS.mv J),(by first|assumption|(subst_vars;exact AZ.one ‹_› (by omega))),AE,kn,kn,kn,kn,kn,kn⟩))))
   refine cm P ?_
   refine cm P ?_
   refine ch P ?_
   have ⟨_,_,cA,bW,bH,cB,bC,cg,_,_,_⟩:=H
   exact Aj ⟨[ao,ak,aP,A,R],[],[bc,aX],[]⟩ (.inr (.inr ((⟨aW,_,_,_,_,_,_,_,rfl,(MS.mv H),(by first|assumption|(subst_vars;exact AZ.one ‹_› (by omega))),AE,kn,kn,kn,kn,kn,kn⟩))))
  exact Aj v0 (.inl rfl)
 exact Aj v0 (.inl rfl)
def Ams (D N:Nat):Prop:=∀{m:Nat} (H:Gj false D m) {Γ:Ctx} {K M:Int} {y:Ctx} {k:Int} (f depth:Int) (loop pure:Int) (C v:Int) (it bl:Int) (pos q:Int) (count left:Int) (call d:Int) (R B V:Rs) (O:MS false Γ f K M bl pos q count left call d B V) (J:AZ loop pure (depth+1) y Γ k left R) (h:0≤depth∧depth≤2∧(pure=0∨pure=1)∧(loop=0∨loop=1)∧depth.toNat<m∧it≤10∧v=R.length∧v+it≤20∧0≤v:=by exact kn),Ok trees N ⟨[f,depth,loop,pure,C,v,it,bl,pos,q,count,left,call,d],[],[R,B,V],[]⟩ fun z=>(∃(g c left':Int),∃(o:Rs),z=(0,(⟨[g,c,left'],[],[o],[]⟩:Ah))∧(MS false Γ f K M bl c q count left' call d B V)∧(AZ loop pure (depth+1) y Γ k left' o)∧(g=o.length)∧(g≤20)∧(left'≤left)∧(c+300*left'≤pos+300*left))∨(z=(1,v0))∨(∃(A:Ctx),∃(g c u j left':Int),∃(o x:Rs),z=(2,(⟨[g,c,u,j,left'],[],[o,x],[]⟩:Ah))∧(MS false A f K M bl c u j left' call d B x)∧(AZ loop pure (depth+1) y A k left' o)∧(Ext q V x)∧(count≤j)∧(q≤u)∧(g=o.length)∧(g≤20)∧(left'≤left)∧(c+300*left'≤pos+300*left))
theorem Als:Ams 12 71:=by
 intro m y Γ K M Γ0 bB f depth loop pure aY rl it bl pos vl count left call q R B V hM v h
 have ⟨hm,cZ,cV,cX,cY,cS,cW,c3,c2,c5,cU⟩:=hM;have ⟨hB,hl,hvl,Hi,hV,hb,hc,hd⟩:=hm;have c4:G 3=40:=rfl;have c1:G 2=12:=rfl;have cT:G (3-1)=12:=rfl
 refine .of (t:=AbS) rfl ?_
 unfold AbS
 refine gt it 0 (fun t1=>?_) fun t1=>?_
 ·refine gt left 0 (fun t2=>?_) fun t2=>?_
  ·obtain ⟨_,(⟨bf,a4,a5,aE,aF,aq,ay,aG,aK,aI,aD,aW,ax,aC,aJ,u,d,a6,aX,aw,ap,ak,an,ad,rfl,o,bm,bp,b9,cp,cc,cG,b4⟩|⟨ah,bd,a8,ba,aM,aL,aQ,aB,az,aR,aO,aU,x,k,c,g,bb,aH,ag,ai,ab,am,z,rfl,j,bS,bE,bQ,cg,b3,cC,b8,cH,bT,bh⟩),G3⟩:=y f depth 0 loop pure bl pos vl count left call q B V (MS.mv hM) kn
   ·refine ch G3 ?_
    have ⟨_,_,bI,ct,br,bX,bW,bN,_,_,_⟩:=o
    refine ll aG ap ?_
    refine ll ax ak ?_
    refine ll aC an ?_
    refine ll aJ ad ?_
    refine dL (R++[Bh bf a4 0 a5 a6 aE aF aq aX ay ap aK aI aD aw aW ak an ad]) (fun W4 e4=>?_) (BG rfl pe)
    have f4:=cL e4;try simp only [lA,lC,lN,lT']at f4
    refine F8 (W4.length:Int) 1048576 ?_
    obtain ⟨_,(rfl|⟨aN,ae,aa,a9,rfl,H,bU,cq,bw,bO,b5⟩|⟨bc,aA,al,au,A,U,a3,bg,rfl,D,b1,cJ,bL,bH,cz,cF,cd,bJ⟩),P⟩:=US @y f depth loop pure aY (W4.length:Int) (it-1) bl u vl count d call q B W4 V (MS.mv o) (by subst_vars;exact AZ.snoc v ‹_›)
    ·refine ch P ?_
     exact Aj ⟨[(W4.length:Int),u,d],[],[W4],[]⟩ (.inl (⟨_,_,_,_,rfl,(MS.mv o),(by first|assumption|(subst_vars;exact AZ.snoc v ‹_›)),kn,kn,kn,kn⟩))
    ·refine cm P ?_
     refine ch P ?_
     have ⟨_,_,bM,bA,cI,bG,cu,cj,_,_,_⟩:=H
     exact Aj ⟨[aN,ae,aa],[],[a9],[]⟩ (.inl (⟨_,_,_,_,rfl,(MS.mv H),(by first|assumption|(subst_vars;exact AZ.snoc v ‹_›)),kn,kn,kn,kn⟩))
    refine cm P ?_
    refine cm P ?_
    refine ch P ?_
    have ⟨_,_,cw,bo,bC,cr,ce,bt,_,_,_⟩:=D
    exact Aj ⟨[aA,al,au,A,U],[],[a3,bg],[]⟩ (.inr (.inr ((⟨bc,_,_,_,_,_,_,_,rfl,(MS.mv D),(by first|assumption|(subst_vars;exact AZ.snoc v ‹_›)),AE,kn,kn,kn,kn,kn,kn⟩))))
   refine cm G3 ?_
   refine ch G3 ?_
   have ⟨_,_,cf,b0,b6,bq,cB,cv,_,_,_⟩:=j
   refine ll az ag ?_
   refine ll aR ai ?_
   refine ll aO ab ?_
   refine ll aU am ?_
   refine dL (R++[Bh bd 0 a8 ba bb aM aL aQ aH aB ag 0 0 0 [] 0 ai ab am]) (fun W6 e6=>?_) (BG rfl pe)
   have f6:=cL e6;try simp only [lA,lC,lN,lT']at f6
   refine F8 (W6.length:Int) 1048576 ?_
   obtain ⟨_,(rfl|⟨aP,ac,O,aZ,rfl,N,cx,b7,bv,co,bR⟩|⟨a0,av,ao,aV,C,Z,be,a1,rfl,J,bD,cy,cn,bV,bk,bn,cb,bY⟩),Q⟩:=US @y f depth loop pure aY (W6.length:Int) (it-1) bl x k c g call q B W6 z (MS.mv j) (by subst_vars;exact AZ.snoc v ‹_›)
   ·refine ch Q ?_
    exact Aj ⟨[(W6.length:Int),x,k,c,g],[],[W6,z],[]⟩ (.inr (.inr ((⟨ah,_,_,_,_,_,_,_,rfl,(MS.mv j),(by first|assumption|(subst_vars;exact AZ.snoc v ‹_›)),AE,kn,kn,kn,kn,kn,kn⟩))))
   ·refine cm Q ?_
    refine ch Q ?_
    have ⟨_,_,bP,bz,cA,ci,bx,b2,_,_,_⟩:=N
    exact Aj ⟨[aP,ac,k,c,O],[],[aZ,z],[]⟩ (.inr (.inr ((⟨ah,_,_,_,_,_,_,_,rfl,(MS.mv N),(by first|assumption|(subst_vars;exact AZ.snoc v ‹_›)),AE,kn,kn,kn,kn,kn,kn⟩))))
   refine cm Q ?_
   refine cm Q ?_
   refine ch Q ?_
   have ⟨_,_,cD,bZ,bK,cE,bF,ck,_,_,_⟩:=J
   exact Aj ⟨[av,ao,aV,C,Z],[],[be,a1],[]⟩ (.inr (.inr ((⟨a0,_,_,_,_,_,_,_,rfl,(MS.mv J),(by first|assumption|(subst_vars;exact AZ.snoc v ‹_›)),AE,kn,kn,kn,kn,kn,kn⟩))))
  exact Aj v0 (.inr (.inl rfl))
 exact Aj v0 (.inr (.inl rfl))
theorem Afu:Yn false 12 58:=by
 intro m R Γ K M f depth loop pure bl pos c count left call d B V O h
 have ⟨hm,bp,bw,bB,bo,bm,bz,bv,bq,bA,br⟩:=O;have ⟨hB,hl,hvl,Hi,hV,hb,hc,hd⟩:=hm;have bx:G 3=40:=rfl;have bt:G 2=12:=rfl;have bn:G (3-1)=12:=rfl
 refine .of (t:=Acb) rfl ?_
 unfold Acb
 obtain ⟨_,⟨ah,g,rfl,be,bk,bf⟩,G1⟩:=Lr hB hl pos c count left call d V
 refine ch G1 ?_
 obtain ⟨_,(rfl|⟨v,ab,C,ae,rfl,y,ao,aZ,a0,aN,aW⟩|⟨bg,z,ad,ag,j,P,aa,ai,rfl,u,a9,az,a8,aA,aQ,a5,am,ax⟩),D⟩:=Alv @R f depth loop pure c (1+(ah%3)) bl g c count left call d B V (MS.mv O)
 ·refine ch D ?_
  refine CX c 0 ?_
  refine F8 c c ?_
  refine de [] ?_
  refine ll 0 [] ?_
  refine fr ?_
  obtain ⟨_,(⟨x,U,H,Z,rfl,A,av,ay,aG,aP,aI⟩|rfl|⟨bj,o,ac,af,k,N,Q,aj,rfl,q,ba,a4,au,bc,a1,aH,aD,aE⟩),J⟩:=Als @R f depth loop pure c 0 (1+(ah%3)) bl g c count left call d [] B V (MS.mv O) (AZ.nil (left:=left) (by omega))
  ·refine ch J ?_
   have ⟨_,_,aY,aX,aC,ap,an,a6,_,_,_⟩:=A
   refine ll x Z ?_
   refine fr ?_
   exact Aj ⟨[x,U,H],[],[Z],[]⟩ (.inl (⟨_,_,_,_,rfl,(MS.mv A),(by first|exact ID.nil (by omega) |exact ID.mk ‹_›),kn,kn,kn⟩))
  ·refine cm J ?_
   refine ch J ?_
   exact Aj ⟨[0,g,left],[],[[]],[]⟩ (.inl (⟨_,_,_,_,rfl,(MS.mv O),(by first|exact ID.nil (by omega) |exact ID.mk ‹_›),kn,kn,kn⟩))
  refine cm J ?_
  refine cm J ?_
  refine ch J ?_
  have ⟨_,_,aM,aK,aO,aR,a2,aJ,_,_,_⟩:=q
  refine F8 c af ?_
  refine ll o Q ?_
  refine fr ?_
  exact Aj ⟨[o,ac,c,k,N],[],[Q,aj],[]⟩ (.inr ((⟨_,_,_,_,_,_,rfl,(MS.back O (MS.mv q) ‹_› (by omega)),(by first|exact ID.nil (by omega) |exact ID.mk ‹_›),AE,kn,kn,kn,kn⟩)))
 ·refine cm D ?_
  refine ch D ?_
  have ⟨_,_,aF,aU,aV,al,a7,a3,_,_,_⟩:=y
  refine CX c 0 ?_
  refine F8 c c ?_
  refine ll v ae ?_
  refine fr ?_
  exact Aj ⟨[v,ab,C],[],[ae],[]⟩ (.inl (⟨_,_,_,_,rfl,(MS.mv y),(by first|exact ID.nil (by omega) |exact ID.mk ‹_›),kn,kn,kn⟩))
 refine cm D ?_
 refine cm D ?_
 refine ch D ?_
 have ⟨_,_,aw,bb,bd,aL,aB,aq,_,_,_⟩:=u
 refine CX c 0 ?_
 refine F8 c ag ?_
 refine ll z aa ?_
 refine fr ?_
 exact Aj ⟨[z,ad,c,j,P],[],[aa,ai],[]⟩ (.inr ((⟨_,_,_,_,_,_,rfl,(MS.back O (MS.mv u) ‹_› (by omega)),(by first|exact ID.nil (by omega) |exact ID.mk ‹_›),AE,kn,kn,kn,kn⟩)))
theorem Re:Adm false 12:=@Uo false 1 12 12 8 14 15 16 17 18 19 58 8 58 rfl @Lr @Af1 @AlK @Jj @Ou @AlJ @Af0 @Afu @Lr @Afu (fun _ h=>h)
def AmN (D N:Nat) (m n:Nat):Prop:=∀{Γ:Ctx} {K M:Int} {y:Ctx} {k:Int} (f depth:Int) (loop pure:Int) (C v:Int) (it bl:Int) (pos q:Int) (count left:Int) (call d:Int) (B V R:Rs) (J:MS true Γ f K M bl pos q count left call d B V) (H:AZ loop pure (depth+1) y Γ k left R) (h:0≤depth∧depth≤2∧(pure=0∨pure=1)∧(loop=0∨loop=1)∧depth.toNat<m∧it≤10∧v=R.length∧v+it≤20∧0≤v∧it.toNat<n),Ok trees N ⟨[f,depth,loop,pure,C,v,it,bl,pos,q,count,left,call,d],[],[B,V,R],[]⟩ fun z=>(z=(0,v0))∨(∃(g c left':Int),∃(o:Rs),z=(1,(⟨[g,c,left'],[],[o],[]⟩:Ah))∧(MS true Γ f K M bl c q count left' call d B V)∧(AZ loop pure (depth+1) y Γ k left' o)∧(g=o.length)∧(g≤20)∧(left'≤left)∧(c+300*left'≤pos+300*left))∨(∃(A:Ctx),∃(g c u j left':Int),∃(o x:Rs),z=(2,(⟨[g,c,u,j,left'],[],[o,x],[]⟩:Ah))∧(MS false A f K M bl c u j left' call d B x)∧(AZ loop pure (depth+1) y A k left' o)∧(Ext q V x)∧(count≤j)∧(q≤u)∧(g=o.length)∧(g≤20)∧(left'≤left)∧(c+300*left'≤pos+300*left))
def Amv (D N:Nat):Prop:=∀{m:Nat} (H:Gj true D m) {Γ:Ctx} {K M:Int} {y:Ctx} {k:Int} (f depth:Int) (loop pure:Int) (C v:Int) (it bl:Int) (pos q:Int) (count left:Int) (call d:Int) (B V R:Rs) (O:MS true Γ f K M bl pos q count left call d B V) (J:AZ loop pure (depth+1) y Γ k left R) (h:0≤depth∧depth≤2∧(pure=0∨pure=1)∧(loop=0∨loop=1)∧depth.toNat<m∧it≤10∧v=R.length∧v+it≤20∧0≤v:=by exact kn),Ok trees N ⟨[f,depth,loop,pure,C,v,it,bl,pos,q,count,left,call,d],[],[B,V,R],[]⟩ fun z=>(z=(0,v0))∨(∃(g c left':Int),∃(o:Rs),z=(1,(⟨[g,c,left'],[],[o],[]⟩:Ah))∧(MS true Γ f K M bl c q count left' call d B V)∧(AZ loop pure (depth+1) y Γ k left' o)∧(g=o.length)∧(g≤20)∧(left'≤left)∧(c+300*left'≤pos+300*left))∨(∃(A:Ctx),∃(g c u j left':Int),∃(o x:Rs),z=(2,(⟨[g,c,u,j,left'],[],[o,x],[]⟩:Ah))∧(MS false A f K M bl c u j left' call d B x)∧(AZ loop pure (depth+1) y A k left' o)∧(Ext q V x)∧(count≤j)∧(q≤u)∧(g=o.length)∧(g≤20)∧(left'≤left)∧(c+300*left'≤pos+300*left))
theorem AkC {m:Nat} (a2:Gj true 13 m) (n:Nat):AmN 13 66 m n:=by
 induction n with
 |zero=>intro Γ K M Γ0 aE f depth loop pure ab rl it bl pos vl count left call d B V R hM u h;exact absurd h.2.2.2.2.2.2.2.2.2 (Nat.not_lt_zero _)
 |succ n ih=>
 intro Γ K M Γ0 aE f depth loop pure ab rl it bl pos vl count left call d B V R hM u h
 have ⟨hm,c2,cX,cZ,c1,cU,cY,c5,c4,c7,cW⟩:=hM;have ⟨hB,hl,hvl,Hi,hV,hb,hc,hd⟩:=hm;have c6:G 3=40:=rfl;have c3:G 2=12:=rfl;have cV:G (3-1)=12:=rfl
 refine .of (t:=AbV) rfl ?_
 unfold AbV
 refine gt it 0 (fun t1=>?_) fun t1=>?_
 ·refine gt left 0 (fun t2=>?_) fun t2=>?_
  ·obtain ⟨_,(⟨bj,a7,a8,aF,aG,aq,ay,aH,aM,aK,aD,aY,ax,aC,aL,v,g,a9,aZ,aw,ap,ak,an,ad,rfl,q,bo,br,cb,cq,cd,cH,b5⟩|⟨ah,bf,ba,bc,aO,aN,aU,aB,az,aV,aQ,aW,x,o,c,j,bd,aI,ag,ai,aa,am,y,rfl,k,bT,bF,bR,ci,b4,cD,b9,cI,bU,bm⟩),G3⟩:=a2 f depth 0 loop pure bl pos vl count left call d B V (MS.mv hM) kn
   ·refine ch G3 ?_
    have ⟨_,_,bJ,cu,bv,bY,bX,bO,_,_,_⟩:=q
    refine ll aH ap ?_
    refine ll ax ak ?_
    refine ll aC an ?_
    refine ll aL ad ?_
    refine dL (R++[Bh bj a7 0 a8 a9 aF aG aq aZ ay ap aM aK aD aw aY ak an ad]) (fun W4 e4=>?_) (BG (pw rl R) pe)
    have f4:=cL e4;try simp only [lA,lC,lN,lT']at f4
    refine F8 (W4.length:Int) 1048576 ?_
    obtain ⟨_,(rfl|⟨aP,ae,Z,bb,rfl,D,bV,cr,bz,bP,b6⟩|⟨be,aA,al,au,z,Q,a6,bk,rfl,C,b2,cK,bM,bI,cA,cG,ce,bK⟩),O⟩:=ih f depth loop pure ab (W4.length:Int) (it-1) bl v vl count g call d B V W4 (MS.mv q) (by subst_vars;exact AZ.snoc u ‹_›) kn
    ·refine ch O ?_
     exact Aj ⟨[(W4.length:Int),v,g],[],[W4],[]⟩ (.inr (.inl (⟨_,_,_,_,rfl,(MS.mv q),(by first|assumption|(subst_vars;exact AZ.snoc u ‹_›)),kn,kn,kn,kn⟩)))
    ·refine cm O ?_
     refine ch O ?_
     have ⟨_,_,bN,bC,cJ,bH,cv,ck,_,_,_⟩:=D
     exact Aj ⟨[aP,ae,Z],[],[bb],[]⟩ (.inr (.inl (⟨_,_,_,_,rfl,(MS.mv D),(by first|assumption|(subst_vars;exact AZ.snoc u ‹_›)),kn,kn,kn,kn⟩)))
    refine cm O ?_
    refine cm O ?_
    refine ch O ?_
    have ⟨_,_,cx,bq,bD,ct,cf,bw,_,_,_⟩:=C
    exact Aj ⟨[aA,al,au,z,Q],[],[a6,bk],[]⟩ (.inr (.inr ((⟨be,_,_,_,_,_,_,_,rfl,(MS.mv C),(by first|assumption|(subst_vars;exact AZ.snoc u ‹_›)),AE,kn,kn,kn,kn,kn,kn⟩))))
   refine cm G3 ?_
   refine ch G3 ?_
   have ⟨_,_,cg,b1,b7,bt,cC,cw,_,_,_⟩:=k
   refine ll az ag ?_
   refine ll aV ai ?_
   refine ll aQ aa ?_
   refine ll aW am ?_
   refine dL (R++[Bh bf 0 ba bc bd aO aN aU aI aB ag 0 0 0 [] 0 ai aa am]) (fun W6 e6=>?_) (BG (pw rl R) pe)
   have f6:=cL e6;try simp only [lA,lC,lN,lT']at f6
   refine F8 (W6.length:Int) 1048576 ?_
   obtain ⟨_,(rfl|⟨aR,ac,N,a0,rfl,J,cy,b8,bx,cp,bS⟩|⟨a3,av,ao,aX,A,U,bi,a4,rfl,H,bE,cz,co,bW,bn,bp,cc,bZ⟩),P⟩:=US (Gj.of (n:=10) @Re) f depth loop pure ab (W6.length:Int) (it-1) bl x o c j call d B W6 y (MS.mv k) (by subst_vars;exact AZ.snoc u ‹_›)
   ·refine ch P ?_
    exact Aj ⟨[(W6.length:Int),x,o,c,j],[],[W6,y],[]⟩ (.inr (.inr ((⟨ah,_,_,_,_,_,_,_,rfl,(MS.mv k),(by first|assumption|(subst_vars;exact AZ.snoc u ‹_›)),AE,kn,kn,kn,kn,kn,kn⟩))))
   ·refine cm P ?_
    refine ch P ?_
    have ⟨_,_,bQ,bB,cB,cj,bA,b3,_,_,_⟩:=J
    exact Aj ⟨[aR,ac,o,c,N],[],[a0,y],[]⟩ (.inr (.inr ((⟨ah,_,_,_,_,_,_,_,rfl,(MS.mv J),(by first|assumption|(subst_vars;exact AZ.snoc u ‹_›)),AE,kn,kn,kn,kn,kn,kn⟩))))
   refine cm P ?_
   refine cm P ?_
   refine ch P ?_
   have ⟨_,_,cE,b0,bL,cF,bG,cn,_,_,_⟩:=H
   exact Aj ⟨[av,ao,aX,A,U],[],[bi,a4],[]⟩ (.inr (.inr ((⟨a3,_,_,_,_,_,_,_,rfl,(MS.mv H),(by first|assumption|(subst_vars;exact AZ.snoc u ‹_›)),AE,kn,kn,kn,kn,kn,kn⟩))))
  exact Aj v0 (.inl rfl)
 exact Aj v0 (.inl rfl)
theorem Ai6:Amv 13 66:=fun {m} hC12 {Γ} {K} {M} {Γ0} {left0} f depth loop pure vn0 rl it bl pos vl count left call loads B V R hM hL h=>AkC @hC12 (it.toNat+1) f depth loop pure vn0 rl it bl pos vl count left call loads B V R hM hL ⟨h.1,h.2.1,h.2.2.1,h.2.2.2.1,h.2.2.2.2.1,h.2.2.2.2.2.1,h.2.2.2.2.2.2.1,h.2.2.2.2.2.2.2.1,h.2.2.2.2.2.2.2.2,Nat.lt_succ_self _⟩
def Amx (y N:Nat):Prop:=∀{m:Nat} (z:Gj true y m) {Γ:Ctx} {K M:Int} (f depth:Int) (loop pure:Int) (vn0 it:Int) (q pos:Int) (k count:Int) (left call loads:Int) (B V:Rs) (A:MS true Γ f K M q pos k count left call loads B V) (h:0≤depth∧depth≤2∧(pure=0∨pure=1)∧(loop=0∨loop=1)∧depth.toNat<m∧it≤10:=by exact kn),Ok trees N ⟨[f,depth,loop,pure,vn0,it,q,pos,k,count,left,call,loads],[],[B,V],[]⟩ fun v=>(v=(0,v0))∨(∃(g c left':Int),∃(j:Rs),v=(1,(⟨[g,c,left'],[],[j],[]⟩:Ah))∧(MS true Γ f K M q c k count left' call loads B V)∧(AZ loop pure (depth+1) Γ Γ left left' j)∧(g=j.length)∧(g≤20)∧(left'≤left)∧(c+300*left'≤pos+300*left))∨(∃(x:Ctx),∃(g c o d left':Int),∃(j u:Rs),v=(2,(⟨[g,c,o,d,left'],[],[j,u],[]⟩:Ah))∧(MS false x f K M q c o d left' call loads B u)∧(AZ loop pure (depth+1) Γ x left left' j)∧(Ext k V u)∧(count≤d)∧(k≤o)∧(g=j.length)∧(g≤20)∧(left'≤left)∧(c+300*left'≤pos+300*left))
theorem Alu:Amx 13 63:=by
 intro m U Γ K M f depth loop pure aU it bl pos vl count left call q B V hM h
 have ⟨hm,cW,cS,cU,cV,cP,cT,cZ,cY,c2,cR⟩:=hM;have ⟨hB,hl,hvl,Hi,hV,hb,hc,hd⟩:=hm;have c1:G 3=40:=rfl;have cX:G 2=12:=rfl;have cQ:G (3-1)=12:=rfl
 refine .of (t:=AbX) rfl ?_
 unfold AbX
 refine gt it 0 (fun t1=>?_) fun t1=>?_
 ·refine gt left 0 (fun t2=>?_) fun t2=>?_
  ·obtain ⟨_,(⟨bd,a0,a1,aA,aB,am,au,aC,aG,aE,az,aQ,aq,ay,aF,u,d,a2,aR,ap,al,ag,aj,ab,rfl,o,bj,bn,b6,ck,b8,cD,b1⟩|⟨ae,ba,a4,a7,aI,aH,aM,ax,av,aN,aK,aO,v,k,c,g,a8,aD,ad,af,Z,ai,x,rfl,j,bP,bB,bN,cd,b0,cz,b5,cE,bQ,bf⟩),G3⟩:=U f depth 0 loop pure bl pos vl count left call q B V (MS.mv hM) kn
   ·refine ch G3 ?_
    have ⟨_,_,bF,cp,bp,bU,bT,bK,_,_,_⟩:=o
    refine ll aC al ?_
    refine ll aq ag ?_
    refine ll ay aj ?_
    refine ll aF ab ?_
    refine dL [Bh bd a0 0 a1 a2 aA aB am aR au al aG aE az ap aQ ag aj ab] (fun W4 e4=>?_)
    have f4:=cL e4;try simp only [lA,lC,lN,lT']at f4
    refine ll 1 W4 ?_
    obtain ⟨_,(rfl|⟨aJ,ac,R,a6,rfl,C,bR,cn,bt,bL,b2⟩|⟨a9,aw,ah,an,y,P,aZ,be,rfl,A,bY,cG,bI,bE,cw,cC,b9,bG⟩),N⟩:=Ai6 @U f depth loop pure aU 1 (it-1) bl u vl count d call q B V W4 (MS.mv o) (by subst_vars;exact AZ.one ‹_› (by omega))
    ·refine ch N ?_
     exact Aj ⟨[1,u,d],[],[W4],[]⟩ (.inr (.inl (⟨_,_,_,_,rfl,(MS.mv o),(by first|assumption|(subst_vars;exact AZ.one ‹_› (by omega))),kn,kn,kn,kn⟩)))
    ·refine cm N ?_
     refine ch N ?_
     have ⟨_,_,bJ,bx,cF,bD,cq,cf,_,_,_⟩:=C
     exact Aj ⟨[aJ,ac,R],[],[a6],[]⟩ (.inr (.inl (⟨_,_,_,_,rfl,(MS.mv C),(by first|assumption|(subst_vars;exact AZ.one ‹_› (by omega))),kn,kn,kn,kn⟩)))
    refine cm N ?_
    refine cm N ?_
    refine ch N ?_
    have ⟨_,_,ct,bm,bz,co,cb,bq,_,_,_⟩:=A
    exact Aj ⟨[aw,ah,an,y,P],[],[aZ,be],[]⟩ (.inr (.inr ((⟨a9,_,_,_,_,_,_,_,rfl,(MS.mv A),(by first|assumption|(subst_vars;exact AZ.one ‹_› (by omega))),AE,kn,kn,kn,kn,kn,kn⟩))))
   refine cm G3 ?_
   refine ch G3 ?_
   have ⟨_,_,cc,bX,b3,bo,cy,cr,_,_,_⟩:=j
   refine ll av ad ?_
   refine ll aN af ?_
   refine ll aK Z ?_
   refine ll aO ai ?_
   refine dL [Bh ba 0 a4 a7 a8 aI aH aM aD ax ad 0 0 0 [] 0 af Z ai] (fun W6 e6=>?_)
   have f6:=cL e6;try simp only [lA,lC,lN,lT']at f6
   refine ll 1 W6 ?_
   obtain ⟨_,(rfl|⟨aL,aa,J,aV,rfl,H,cu,b4,br,cj,bO⟩|⟨aW,ao,ak,aP,z,Q,bc,aX,rfl,D,bA,cv,ci,bS,bi,bk,b7,bV⟩),O⟩:=US (Gj.of (n:=10) @Re) f depth loop pure aU 1 (it-1) bl v k c g call q B W6 x (MS.mv j) (by subst_vars;exact AZ.one ‹_› (by omega))
   ·refine ch O ?_
    exact Aj ⟨[1,v,k,c,g],[],[W6,x],[]⟩ (.inr (.inr ((⟨ae,_,_,_,_,_,_,_,rfl,(MS.mv j),(by first|assumption|(subst_vars;exact AZ.one ‹_› (by omega))),AE,kn,kn,kn,kn,kn,kn⟩))))
   ·refine cm O ?_
    refine ch O ?_
    have ⟨_,_,bM,bw,cx,ce,bv,bZ,_,_,_⟩:=H
    exact Aj ⟨[aL,aa,k,c,J],[],[aV,x],[]⟩ (.inr (.inr ((⟨ae,_,_,_,_,_,_,_,rfl,(MS.mv H),(by first|assumption|(subst_vars;exact AZ.one ‹_› (by omega))),AE,kn,kn,kn,kn,kn,kn⟩))))
   refine cm O ?_
   refine cm O ?_
   refine ch O ?_
   have ⟨_,_,cA,bW,bH,cB,bC,cg,_,_,_⟩:=D
   exact Aj ⟨[ao,ak,aP,z,Q],[],[bc,aX],[]⟩ (.inr (.inr ((⟨aW,_,_,_,_,_,_,_,rfl,(MS.mv D),(by first|assumption|(subst_vars;exact AZ.one ‹_› (by omega))),AE,kn,kn,kn,kn,kn,kn⟩))))
  exact Aj v0 (.inl rfl)
 exact Aj v0 (.inl rfl)
def Amr (D N:Nat):Prop:=∀{m:Nat} (H:Gj true D m) {Γ:Ctx} {K M:Int} {y:Ctx} {k:Int} (f depth:Int) (loop pure:Int) (C v:Int) (it bl:Int) (pos q:Int) (count left:Int) (call d:Int) (R B V:Rs) (O:MS true Γ f K M bl pos q count left call d B V) (J:AZ loop pure (depth+1) y Γ k left R) (h:0≤depth∧depth≤2∧(pure=0∨pure=1)∧(loop=0∨loop=1)∧depth.toNat<m∧it≤10∧v=R.length∧v+it≤20∧0≤v:=by exact kn),Ok trees N ⟨[f,depth,loop,pure,C,v,it,bl,pos,q,count,left,call,d],[],[R,B,V],[]⟩ fun z=>(∃(g c left':Int),∃(o:Rs),z=(0,(⟨[g,c,left'],[],[o],[]⟩:Ah))∧(MS true Γ f K M bl c q count left' call d B V)∧(AZ loop pure (depth+1) y Γ k left' o)∧(g=o.length)∧(g≤20)∧(left'≤left)∧(c+300*left'≤pos+300*left))∨(z=(1,v0))∨(∃(A:Ctx),∃(g c u j left':Int),∃(o x:Rs),z=(2,(⟨[g,c,u,j,left'],[],[o,x],[]⟩:Ah))∧(MS false A f K M bl c u j left' call d B x)∧(AZ loop pure (depth+1) y A k left' o)∧(Ext q V x)∧(count≤j)∧(q≤u)∧(g=o.length)∧(g≤20)∧(left'≤left)∧(c+300*left'≤pos+300*left))
theorem Alr:Amr 13 72:=by
 intro m aa Γ K M Γ0 bB f depth loop pure aY rl it bl pos vl count left call q R B V hM v h
 have ⟨hm,cZ,cV,cX,cY,cS,cW,c3,c2,c5,cU⟩:=hM;have ⟨hB,hl,hvl,Hi,hV,hb,hc,hd⟩:=hm;have c4:G 3=40:=rfl;have c1:G 2=12:=rfl;have cT:G (3-1)=12:=rfl
 refine .of (t:=AbR) rfl ?_
 unfold AbR
 refine gt it 0 (fun t1=>?_) fun t1=>?_
 ·refine gt left 0 (fun t2=>?_) fun t2=>?_
  ·obtain ⟨_,(⟨bf,a4,a5,aE,aF,aq,ay,aG,aK,aI,aD,aW,ax,aC,aJ,u,d,a6,aX,aw,ap,ak,an,ad,rfl,o,bm,bp,b9,cp,cc,cG,b4⟩|⟨ah,bd,a8,ba,aM,aL,aQ,aB,az,aR,aO,aU,x,k,c,g,bb,aH,ag,ai,ab,am,y,rfl,j,bS,bE,bQ,cg,b3,cC,b8,cH,bT,bh⟩),G3⟩:=aa f depth 0 loop pure bl pos vl count left call q B V (MS.mv hM) kn
   ·refine ch G3 ?_
    have ⟨_,_,bI,ct,br,bX,bW,bN,_,_,_⟩:=o
    refine ll aG ap ?_
    refine ll ax ak ?_
    refine ll aC an ?_
    refine ll aJ ad ?_
    refine dL (R++[Bh bf a4 0 a5 a6 aE aF aq aX ay ap aK aI aD aw aW ak an ad]) (fun W4 e4=>?_) (BG rfl pe)
    have f4:=cL e4;try simp only [lA,lC,lN,lT']at f4
    refine F8 (W4.length:Int) 1048576 ?_
    obtain ⟨_,(rfl|⟨aN,ae,Z,a9,rfl,D,bU,cq,bw,bO,b5⟩|⟨bc,aA,al,au,z,Q,a3,bg,rfl,C,b1,cJ,bL,bH,cz,cF,cd,bJ⟩),O⟩:=Ai6 @aa f depth loop pure aY (W4.length:Int) (it-1) bl u vl count d call q B V W4 (MS.mv o) (by subst_vars;exact AZ.snoc v ‹_›)
    ·refine ch O ?_
     exact Aj ⟨[(W4.length:Int),u,d],[],[W4],[]⟩ (.inl (⟨_,_,_,_,rfl,(MS.mv o),(by first|assumption|(subst_vars;exact AZ.snoc v ‹_›)),kn,kn,kn,kn⟩))
    ·refine cm O ?_
     refine ch O ?_
     have ⟨_,_,bM,bA,cI,bG,cu,cj,_,_,_⟩:=D
     exact Aj ⟨[aN,ae,Z],[],[a9],[]⟩ (.inl (⟨_,_,_,_,rfl,(MS.mv D),(by first|assumption|(subst_vars;exact AZ.snoc v ‹_›)),kn,kn,kn,kn⟩))
    refine cm O ?_
    refine cm O ?_
    refine ch O ?_
    have ⟨_,_,cw,bo,bC,cr,ce,bt,_,_,_⟩:=C
    exact Aj ⟨[aA,al,au,z,Q],[],[a3,bg],[]⟩ (.inr (.inr ((⟨bc,_,_,_,_,_,_,_,rfl,(MS.mv C),(by first|assumption|(subst_vars;exact AZ.snoc v ‹_›)),AE,kn,kn,kn,kn,kn,kn⟩))))
   refine cm G3 ?_
   refine ch G3 ?_
   have ⟨_,_,cf,b0,b6,bq,cB,cv,_,_,_⟩:=j
   refine ll az ag ?_
   refine ll aR ai ?_
   refine ll aO ab ?_
   refine ll aU am ?_
   refine dL (R++[Bh bd 0 a8 ba bb aM aL aQ aH aB ag 0 0 0 [] 0 ai ab am]) (fun W6 e6=>?_) (BG rfl pe)
   have f6:=cL e6;try simp only [lA,lC,lN,lT']at f6
   refine F8 (W6.length:Int) 1048576 ?_
   obtain ⟨_,(rfl|⟨aP,ac,N,aZ,rfl,J,cx,b7,bv,co,bR⟩|⟨a0,av,ao,aV,A,U,be,a1,rfl,H,bD,cy,cn,bV,bk,bn,cb,bY⟩),P⟩:=US (Gj.of (n:=10) @Re) f depth loop pure aY (W6.length:Int) (it-1) bl x k c g call q B W6 y (MS.mv j) (by subst_vars;exact AZ.snoc v ‹_›)
   ·refine ch P ?_
    exact Aj ⟨[(W6.length:Int),x,k,c,g],[],[W6,y],[]⟩ (.inr (.inr ((⟨ah,_,_,_,_,_,_,_,rfl,(MS.mv j),(by first|assumption|(subst_vars;exact AZ.snoc v ‹_›)),AE,kn,kn,kn,kn,kn,kn⟩))))
   ·refine cm P ?_
    refine ch P ?_
    have ⟨_,_,bP,bz,cA,ci,bx,b2,_,_,_⟩:=J
    exact Aj ⟨[aP,ac,k,c,N],[],[aZ,y],[]⟩ (.inr (.inr ((⟨ah,_,_,_,_,_,_,_,rfl,(MS.mv J),(by first|assumption|(subst_vars;exact AZ.snoc v ‹_›)),AE,kn,kn,kn,kn,kn,kn⟩))))
   refine cm P ?_
   refine cm P ?_
   refine ch P ?_
   have ⟨_,_,cD,bZ,bK,cE,bF,ck,_,_,_⟩:=H
   exact Aj ⟨[av,ao,aV,A,U],[],[be,a1],[]⟩ (.inr (.inr ((⟨a0,_,_,_,_,_,_,_,rfl,(MS.mv H),(by first|assumption|(subst_vars;exact AZ.snoc v ‹_›)),AE,kn,kn,kn,kn,kn,kn⟩))))
  exact Aj v0 (.inr (.inl rfl))
 exact Aj v0 (.inr (.inl rfl))
theorem Alw:Yn true 13 59:=by
 intro m R Γ K M f depth loop pure bl pos c count left call d B V O h
 have ⟨hm,bp,bw,bB,bo,bm,bz,bv,bq,bA,br⟩:=O;have ⟨hB,hl,hvl,Hi,hV,hb,hc,hd⟩:=hm;have bx:G 3=40:=rfl;have bt:G 2=12:=rfl;have bn:G (3-1)=12:=rfl
 refine .of (t:=Aca) rfl ?_
 unfold Aca
 obtain ⟨_,⟨ah,g,rfl,be,bk,bf⟩,G1⟩:=Yg hB hl pos c count left call d V
 refine ch G1 ?_
 obtain ⟨_,(rfl|⟨v,ab,C,ae,rfl,y,ao,aZ,a0,aN,aW⟩|⟨bg,z,ad,ag,j,P,aa,ai,rfl,u,a9,az,a8,aA,aQ,a5,am,ax⟩),D⟩:=Alu @R f depth loop pure c (1+(ah%3)) bl g c count left call d B V (MS.mv O)
 ·refine ch D ?_
  refine de [] ?_
  refine ll 0 [] ?_
  refine fr ?_
  obtain ⟨_,(⟨x,U,H,Z,rfl,A,av,ay,aG,aP,aI⟩|rfl|⟨bj,o,ac,af,k,N,Q,aj,rfl,q,ba,a4,au,bc,a1,aH,aD,aE⟩),J⟩:=Alr @R f depth loop pure c 0 (1+(ah%3)) bl g c count left call d [] B V (MS.mv O) (AZ.nil (left:=left) (by omega))
  ·refine ch J ?_
   have ⟨_,_,aY,aX,aC,ap,an,a6,_,_,_⟩:=A
   refine ll x Z ?_
   refine fr ?_
   exact Aj ⟨[x,U,H],[],[Z],[]⟩ (.inl (⟨_,_,_,_,rfl,(MS.mv A),(by first|exact ID.nil (by omega) |exact ID.mk ‹_›),kn,kn,kn⟩))
  ·refine cm J ?_
   refine ch J ?_
   exact Aj ⟨[0,g,left],[],[[]],[]⟩ (.inl (⟨_,_,_,_,rfl,(MS.mv O),(by first|exact ID.nil (by omega) |exact ID.mk ‹_›),kn,kn,kn⟩))
  refine cm J ?_
  refine cm J ?_
  refine ch J ?_
  have ⟨_,_,aM,aK,aO,aR,a2,aJ,_,_,_⟩:=q
  refine CX c 0 ?_
  refine F8 c af ?_
  refine ll o Q ?_
  refine fr ?_
  exact Aj ⟨[o,ac,c,k,N],[],[Q,aj],[]⟩ (.inr ((⟨_,_,_,_,_,_,rfl,(MS.back O (MS.mv q) ‹_› (by omega)),(by first|exact ID.nil (by omega) |exact ID.mk ‹_›),AE,kn,kn,kn,kn⟩)))
 ·refine cm D ?_
  refine ch D ?_
  have ⟨_,_,aF,aU,aV,al,a7,a3,_,_,_⟩:=y
  refine ll v ae ?_
  refine fr ?_
  exact Aj ⟨[v,ab,C],[],[ae],[]⟩ (.inl (⟨_,_,_,_,rfl,(MS.mv y),(by first|exact ID.nil (by omega) |exact ID.mk ‹_›),kn,kn,kn⟩))
 refine cm D ?_
 refine cm D ?_
 refine ch D ?_
 have ⟨_,_,aw,bb,bd,aL,aB,aq,_,_,_⟩:=u
 refine CX c 0 ?_
 refine F8 c ag ?_
 refine ll z aa ?_
 refine fr ?_
 exact Aj ⟨[z,ad,c,j,P],[],[aa,ai],[]⟩ (.inr ((⟨_,_,_,_,_,_,rfl,(MS.back O (MS.mv u) ‹_› (by omega)),(by first|exact ID.nil (by omega) |exact ID.mk ‹_›),AE,kn,kn,kn,kn⟩)))
theorem AiS:Adm true 13:=@Uo true 0 13 12 9 20 21 22 23 24 25 59 8 58 rfl @Yg @Afz @AlI @UT @AlH @AlG @Afy @Alw @Lr @Afu (fun _ _=>Gj.of @Re)
end Go.Proofs.YtbmofjdmgjpfoaaGreatDoor.Am
end
