/- Part 17 of the proof of TypesPrefix. -/
import Derived.Test.YtbmofjdmgjpfoaaGreatDoorD11
import Derived.Test.YtbmofjdmgjpfoaaGreatDoorD16
set_option linter.all false
section
set_option maxHeartbeats 4000000
set_option maxRecDepth 100000
namespace Go.Proofs.YtbmofjdmgjpfoaaGreatDoor.Am
open Go.AM Go.AM.K
def K_5 (N:Nat):Prop:=∀{d:Int} {B:Rs} (hB:Dw B) (hl:d=B.length) (pos count:Int) (left call loads:Int) (h:0≤pos∧pos≤1000000:=by exact kn),Ok trees N ⟨[d,pos,count,left,call,loads],[],[B],[]⟩ fun g=>(∃(r c:Int),g=(0,(⟨[r,c],[],[],[]⟩:Ah))∧(c=pos+1)∧(0≤r)∧(r≤255))
theorem c_5:K_5 5:=by
 intro d B hB hl pos count left call j h
 refine .of (t:=t_5) rfl ?_
 unfold t_5
 refine gt (pos+1) d (fun k=>?_) fun k=>?_
 ·exact Aj ⟨[0,(pos+1)],[],[],[]⟩ (⟨_,_,rfl,kn,kn,kn⟩)
 refine CJ ((pos+1)-1) 0 ?_
 refine BD ((pos+1)-1) d ?_
 obtain ⟨g,c,o,q⟩:=PA hB ((pos+1)-1) om om
 refine el c ?_
 exact Aj ⟨[g,(pos+1)],[],[],[]⟩ (⟨_,_,rfl,kn,kn,kn⟩)
def Anh (N n:Nat):Prop:=∀{Γ:Ctx} {K M:Int} {y:Ctx} {k:Int} (it bl:Int) (pos u:Int) (count left:Int) (call g:Int) (U O:Int) (X Q:Int) (z5 pl:Int) (H q:Int) (J Z:Int) (D C:Int) (B P:Rs) (V R:Rs) (hM:MS false Γ 2 K M bl pos u count left call g B V) (hL:AZ 0 1 2 y Γ k left R) (h:it≤10∧q=R.length∧q+it≤20∧0≤q∧it.toNat<n),Ok trees N ⟨[it,bl,pos,u,count,left,call,g,U,O,X,Q,z5,pl,H,q,J,Z,D,C],[],[B,P,V,R],[]⟩ fun x=>(x=(0,v0))∨(∃(c left' d:Int),∃(o:Rs),x=(1,(⟨[c,left',d],[],[o],[]⟩:Ah))∧(MS false Γ 2 K M bl c u count left' call g B V)∧(AZ 0 1 2 y Γ k left' o)∧(d=o.length)∧(d≤20)∧(left'≤left)∧(c+300*left'≤pos+300*left)∧(q≤d))∨(∃(A:Ctx),∃(c v j left' d:Int),∃(z o:Rs),x=(2,(⟨[c,v,j,left',d],[],[z,o],[]⟩:Ah))∧(MS false A 2 K M bl c v j left' call g B z)∧(AZ 0 1 2 y A k left' o)∧(Ext u V z)∧(count≤j)∧(u≤v)∧(d=o.length)∧(d≤20)∧(left'≤left)∧(c+300*left'≤pos+300*left)∧(q≤d))
def AmA (N:Nat):Prop:=∀{Γ:Ctx} {K M:Int} {y:Ctx} {k:Int} (it bl:Int) (pos u:Int) (count left:Int) (call g:Int) (U O:Int) (X Q:Int) (z5 pl:Int) (H q:Int) (J Z:Int) (D C:Int) (B P:Rs) (V R:Rs) (hM:MS false Γ 2 K M bl pos u count left call g B V) (hL:AZ 0 1 2 y Γ k left R) (h:it≤10∧q=R.length∧q+it≤20∧0≤q:=by exact kn),Ok trees N ⟨[it,bl,pos,u,count,left,call,g,U,O,X,Q,z5,pl,H,q,J,Z,D,C],[],[B,P,V,R],[]⟩ fun x=>(x=(0,v0))∨(∃(c left' d:Int),∃(o:Rs),x=(1,(⟨[c,left',d],[],[o],[]⟩:Ah))∧(MS false Γ 2 K M bl c u count left' call g B V)∧(AZ 0 1 2 y Γ k left' o)∧(d=o.length)∧(d≤20)∧(left'≤left)∧(c+300*left'≤pos+300*left)∧(q≤d))∨(∃(A:Ctx),∃(c v j left' d:Int),∃(z o:Rs),x=(2,(⟨[c,v,j,left',d],[],[z,o],[]⟩:Ah))∧(MS false A 2 K M bl c v j left' call g B z)∧(AZ 0 1 2 y A k left' o)∧(Ext u V z)∧(count≤j)∧(u≤v)∧(d=o.length)∧(d≤20)∧(left'≤left)∧(c+300*left'≤pos+300*left)∧(q≤d))
theorem AkU (n:Nat):Anh 77 n:=by
 induction n with
 |zero=>intro Γ K M Γ0 aY it bl pos vl count left call d z1 z2 z3 z4 z5 pl p2 rl p4 p5 p6 p8 B P V R hM k h;exact absurd h.2.2.2.2 (Nat.not_lt_zero _)
 |succ n ih=>
 intro Γ K M Γ0 aY it bl pos vl count left call d z1 z2 z3 z4 z5 pl p2 rl p4 p5 p6 p8 B P V R hM k h
 have ⟨hm,c9,dl,di,dh,dk,c8,db,dp,dc,dg⟩:=hM;have ⟨hB,hl,hvl,Hq,hV,hb,hc,hd⟩:=hm;have dd:G 3=40:=rfl;have dj:G 2=12:=rfl
 refine .of (t:=Acn) rfl ?_
 unfold Acn
 refine gt it 0 (fun t1=>?_) fun t1=>?_
 ·refine gt left 0 (fun t2=>?_) fun t2=>?_
  ·obtain ⟨_,(⟨aZ,bq,bv,aG,ap,aU,aF,aD,aX,ax,au,aP,aH,aO,aC,v,j,be,ay,aw,af,ae,aa,ad,rfl,o,bA,cr,bC,bK,cX,cj,ce⟩|⟨ac,bi,a7,a2,aR,aA,aV,az,aI,aE,aM,aB,x,u,c,g,br,aL,aj,am,ab,ai,z,rfl,q,cD,cJ,cB,bT,cq,bz,cY,bN,ci,bw⟩),G3⟩:=Rw 2 1 0 0 1 bl pos vl count left call d B V (MS.mv hM)
   ·refine ch G3 ?_
    have ⟨_,_,co,cw,bM,cW,bG,cF,_,_,_⟩:=o
    refine ll aD af ?_
    refine ll aH ae ?_
    refine ll aO aa ?_
    refine ll aC ad ?_
    refine dL (R++[Be aZ bq 0 bv be aG ap aU ay aF af aX ax au aw aP ae aa ad]) (fun W4 e4=>?_) (BG (pw rl R) pe)
    have f4:=cL e4;try simp only [lA,lC,lN,lT']at f4
    refine FA (W4.length:Int) 1048576 ?_
    obtain ⟨_,(rfl|⟨an,U,aq,bt,rfl,C,cC,bX,bU,bV,b6,cT⟩|⟨a4,ao,av,A,X,aJ,ba,bg,rfl,J,cn,bR,bZ,cQ,bJ,cM,cU,cO,bQ⟩),Z⟩:=ih (it-1) bl v vl count j call d z1 z2 z3 z4 z5 pl p2 (W4.length:Int) p4 p5 p6 p8 B P V W4 (MS.mv o) (by subst_vars;exact AZ.snoc k ‹_›) kn
    ·refine ch Z ?_
     exact Aj ⟨[v,j,(W4.length:Int)],[],[W4],[]⟩ (.inr (.inl (⟨_,_,_,_,rfl,(MS.mv o),(by first|assumption|(subst_vars;exact AZ.snoc k ‹_›)),kn,kn,kn,kn,kn⟩)))
    ·refine cm Z ?_
     refine ch Z ?_
     have ⟨_,_,bI,b7,cS,bP,cp,bS,_,_,_⟩:=C
     exact Aj ⟨[an,U,aq],[],[bt],[]⟩ (.inr (.inl (⟨_,_,_,_,rfl,(MS.mv C),(by first|assumption|(subst_vars;exact AZ.snoc k ‹_›)),kn,kn,kn,kn,kn⟩)))
    refine cm Z ?_
    refine cm Z ?_
    refine ch Z ?_
    have ⟨_,_,cf,bW,b0,b8,bH,cg,_,_,_⟩:=J
    exact Aj ⟨[ao,av,A,X,aJ],[],[ba,bg],[]⟩ (.inr (.inr ((⟨a4,_,_,_,_,_,_,_,rfl,(MS.mv J),(by first|assumption|(subst_vars;exact AZ.snoc k ‹_›)),AE,kn,kn,kn,kn,kn,kn,kn⟩))))
   refine cm G3 ?_
   refine ch G3 ?_
   have ⟨_,_,b3,bx,bD,cc,b9,bB,_,_,_⟩:=q
   refine ll aI aj ?_
   refine ll aE am ?_
   refine ll aM ab ?_
   refine ll aB ai ?_
   refine dL (R++[Be bi 0 a7 a2 br aR aA aV aL az aj 0 0 0 [] 0 am ab ai]) (fun W6 e6=>?_) (BG (pw rl R) pe)
   have f6:=cL e6;try simp only [lA,lC,lN,lT']at f6
   refine FA (W6.length:Int) 1048576 ?_
   obtain ⟨_,(rfl|⟨ak,Q,aK,a3,rfl,H,bE,cy,cV,cz,bO,cH⟩|⟨a0,ag,aW,y,N,aQ,bn,a8,rfl,D,b2,ct,cu,b4,cE,cb,bL,cR,bY⟩),O⟩:=ih (it-1) bl x u c g call d z1 z2 z3 z4 z5 pl p2 (W6.length:Int) p4 p5 p6 p8 B P z W6 (MS.mv q) (by subst_vars;exact AZ.snoc k ‹_›) kn
   ·refine ch O ?_
    exact Aj ⟨[x,u,c,g,(W6.length:Int)],[],[z,W6],[]⟩ (.inr (.inr ((⟨ac,_,_,_,_,_,_,_,rfl,(MS.mv q),(by first|assumption|(subst_vars;exact AZ.snoc k ‹_›)),AE,kn,kn,kn,kn,kn,kn,kn⟩))))
   ·refine cm O ?_
    refine ch O ?_
    have ⟨_,_,cP,cA,cv,b5,cI,cx,_,_,_⟩:=H
    exact Aj ⟨[ak,u,c,Q,aK],[],[z,a3],[]⟩ (.inr (.inr ((⟨ac,_,_,_,_,_,_,_,rfl,(MS.mv H),(by first|assumption|(subst_vars;exact AZ.snoc k ‹_›)),AE,kn,kn,kn,kn,kn,kn,kn⟩))))
   refine cm O ?_
   refine cm O ?_
   refine ch O ?_
   have ⟨_,_,cN,cG,cK,b1,bF,cd,_,_,_⟩:=D
   exact Aj ⟨[ag,aW,y,N,aQ],[],[bn,a8],[]⟩ (.inr (.inr ((⟨a0,_,_,_,_,_,_,_,rfl,(MS.mv D),(by first|assumption|(subst_vars;exact AZ.snoc k ‹_›)),AE,kn,kn,kn,kn,kn,kn,kn⟩))))
  exact Aj v0 (.inl rfl)
 exact Aj v0 (.inl rfl)
theorem AiN:AmA 77:=fun {Γ} {K} {M} {Γ0} {left0} it bl pos vl count left call loads z1 z2 z3 z4 z5 pl p2 rl p4 p5 p6 p8 B P V R hM hL h=>AkU (it.toNat+1) it bl pos vl count left call loads z1 z2 z3 z4 z5 pl p2 rl p4 p5 p6 p8 B P V R hM hL ⟨h.1,h.2.1,h.2.2.1,h.2.2.2,Nat.lt_succ_self _⟩
def Anp (N n:Nat):Prop:=∀{Γ:Ctx} {K M:Int} {y:Ctx} {k:Int} (it bl:Int) (pos u:Int) (count left:Int) (call g:Int) (U O:Int) (X Q:Int) (z5 pl:Int) (H q:Int) (J Z:Int) (D C:Int) (B V:Rs) (P R:Rs) (hM:MS true Γ 2 K M bl pos u count left call g B V) (hL:AZ 0 1 2 y Γ k left R) (h:it≤10∧q=R.length∧q+it≤20∧0≤q∧it.toNat<n),Ok trees N ⟨[it,bl,pos,u,count,left,call,g,U,O,X,Q,z5,pl,H,q,J,Z,D,C],[],[B,V,P,R],[]⟩ fun x=>(x=(0,v0))∨(∃(c left' d:Int),∃(o:Rs),x=(1,(⟨[c,left',d],[],[o],[]⟩:Ah))∧(MS true Γ 2 K M bl c u count left' call g B V)∧(AZ 0 1 2 y Γ k left' o)∧(d=o.length)∧(d≤20)∧(left'≤left)∧(c+300*left'≤pos+300*left)∧(q≤d))∨(∃(A:Ctx),∃(c v j left' d:Int),∃(z o:Rs),x=(2,(⟨[c,v,j,left',d],[],[z,o],[]⟩:Ah))∧(MS false A 2 K M bl c v j left' call g B z)∧(AZ 0 1 2 y A k left' o)∧(Ext u V z)∧(count≤j)∧(u≤v)∧(d=o.length)∧(d≤20)∧(left'≤left)∧(c+300*left'≤pos+300*left)∧(q≤d))
def AmU (N:Nat):Prop:=∀{Γ:Ctx} {K M:Int} {y:Ctx} {k:Int} (it bl:Int) (pos u:Int) (count left:Int) (call g:Int) (U O:Int) (X Q:Int) (z5 pl:Int) (H q:Int) (J Z:Int) (D C:Int) (B V:Rs) (P R:Rs) (hM:MS true Γ 2 K M bl pos u count left call g B V) (hL:AZ 0 1 2 y Γ k left R) (h:it≤10∧q=R.length∧q+it≤20∧0≤q:=by exact kn),Ok trees N ⟨[it,bl,pos,u,count,left,call,g,U,O,X,Q,z5,pl,H,q,J,Z,D,C],[],[B,V,P,R],[]⟩ fun x=>(x=(0,v0))∨(∃(c left' d:Int),∃(o:Rs),x=(1,(⟨[c,left',d],[],[o],[]⟩:Ah))∧(MS true Γ 2 K M bl c u count left' call g B V)∧(AZ 0 1 2 y Γ k left' o)∧(d=o.length)∧(d≤20)∧(left'≤left)∧(c+300*left'≤pos+300*left)∧(q≤d))∨(∃(A:Ctx),∃(c v j left' d:Int),∃(z o:Rs),x=(2,(⟨[c,v,j,left',d],[],[z,o],[]⟩:Ah))∧(MS false A 2 K M bl c v j left' call g B z)∧(AZ 0 1 2 y A k left' o)∧(Ext u V z)∧(count≤j)∧(u≤v)∧(d=o.length)∧(d≤20)∧(left'≤left)∧(c+300*left'≤pos+300*left)∧(q≤d))
theorem AcQ (n:Nat):Anp 43 n:=by
 induction n with
 |zero=>intro Γ K M Γ0 aY it bl pos vl count left call d z1 z2 z3 z4 z5 pl p2 rl p4 p5 p6 p8 B V P R hM k h;exact absurd h.2.2.2.2 (Nat.not_lt_zero _)
 |succ n ih=>
 intro Γ K M Γ0 aY it bl pos vl count left call d z1 z2 z3 z4 z5 pl p2 rl p4 p5 p6 p8 B V P R hM k h
 have ⟨hm,c9,dl,di,dh,dk,c8,db,dp,dc,dg⟩:=hM;have ⟨hB,hl,hvl,Hq,hV,hb,hc,hd⟩:=hm;have dd:G 3=40:=rfl;have dj:G 2=12:=rfl
 refine .of (t:=AcB) rfl ?_
 unfold AcB
 refine gt it 0 (fun t1=>?_) fun t1=>?_
 ·refine gt left 0 (fun t2=>?_) fun t2=>?_
  ·obtain ⟨_,(⟨aZ,bq,bv,aG,ap,aU,aF,aD,aX,ax,au,aP,aH,aO,aC,v,j,be,ay,aw,af,ae,aa,ad,rfl,o,bA,cr,bC,bK,cX,cj,ce⟩|⟨ac,bi,a7,a2,aR,aA,aV,az,aI,aE,aM,aB,x,u,c,g,br,aL,aj,am,ab,ai,z,rfl,q,cD,cJ,cB,bT,cq,bz,cY,bN,ci,bw⟩),G3⟩:=Ajn 2 1 0 0 1 bl pos vl count left call d B V (MS.mv hM)
   ·refine ch G3 ?_
    have ⟨_,_,co,cw,bM,cW,bG,cF,_,_,_⟩:=o
    refine ll aD af ?_
    refine ll aH ae ?_
    refine ll aO aa ?_
    refine ll aC ad ?_
    refine dL (R++[Be aZ bq 0 bv be aG ap aU ay aF af aX ax au aw aP ae aa ad]) (fun W4 e4=>?_) (BG (pw rl R) pe)
    have f4:=cL e4;try simp only [lA,lC,lN,lT']at f4
    refine FA (W4.length:Int) 1048576 ?_
    obtain ⟨_,(rfl|⟨an,U,aq,bt,rfl,C,cC,bX,bU,bV,b6,cT⟩|⟨a4,ao,av,A,X,aJ,ba,bg,rfl,J,cn,bR,bZ,cQ,bJ,cM,cU,cO,bQ⟩),Z⟩:=ih (it-1) bl v vl count j call d z1 z2 z3 z4 z5 pl p2 (W4.length:Int) p4 p5 p6 p8 B V P W4 (MS.mv o) (by subst_vars;exact AZ.snoc k ‹_›) kn
    ·refine ch Z ?_
     exact Aj ⟨[v,j,(W4.length:Int)],[],[W4],[]⟩ (.inr (.inl (⟨_,_,_,_,rfl,(MS.mv o),(by first|assumption|(subst_vars;exact AZ.snoc k ‹_›)),kn,kn,kn,kn,kn⟩)))
    ·refine cm Z ?_
     refine ch Z ?_
     have ⟨_,_,bI,b7,cS,bP,cp,bS,_,_,_⟩:=C
     exact Aj ⟨[an,U,aq],[],[bt],[]⟩ (.inr (.inl (⟨_,_,_,_,rfl,(MS.mv C),(by first|assumption|(subst_vars;exact AZ.snoc k ‹_›)),kn,kn,kn,kn,kn⟩)))
    refine cm Z ?_
    refine cm Z ?_
    refine ch Z ?_
    have ⟨_,_,cf,bW,b0,b8,bH,cg,_,_,_⟩:=J
    exact Aj ⟨[ao,av,A,X,aJ],[],[ba,bg],[]⟩ (.inr (.inr ((⟨a4,_,_,_,_,_,_,_,rfl,(MS.mv J),(by first|assumption|(subst_vars;exact AZ.snoc k ‹_›)),AE,kn,kn,kn,kn,kn,kn,kn⟩))))
   refine cm G3 ?_
   refine ch G3 ?_
   have ⟨_,_,b3,bx,bD,cc,b9,bB,_,_,_⟩:=q
   refine ll aI aj ?_
   refine ll aE am ?_
   refine ll aM ab ?_
   refine ll aB ai ?_
   refine dL (R++[Be bi 0 a7 a2 br aR aA aV aL az aj 0 0 0 [] 0 am ab ai]) (fun W6 e6=>?_) (BG (pw rl R) pe)
   have f6:=cL e6;try simp only [lA,lC,lN,lT']at f6
   refine FA (W6.length:Int) 1048576 ?_
   obtain ⟨_,(rfl|⟨ak,Q,aK,a3,rfl,H,bE,cy,cV,cz,bO,cH⟩|⟨a0,ag,aW,y,N,aQ,bn,a8,rfl,D,b2,ct,cu,b4,cE,cb,bL,cR,bY⟩),O⟩:=AiN (it-1) bl x u c g call d z1 z2 z3 z4 z5 pl p2 (W6.length:Int) p4 p5 p6 p8 B P z W6 (MS.mv q) (by subst_vars;exact AZ.snoc k ‹_›)
   ·refine ch O ?_
    exact Aj ⟨[x,u,c,g,(W6.length:Int)],[],[z,W6],[]⟩ (.inr (.inr ((⟨ac,_,_,_,_,_,_,_,rfl,(MS.mv q),(by first|assumption|(subst_vars;exact AZ.snoc k ‹_›)),AE,kn,kn,kn,kn,kn,kn,kn⟩))))
   ·refine cm O ?_
    refine ch O ?_
    have ⟨_,_,cP,cA,cv,b5,cI,cx,_,_,_⟩:=H
    exact Aj ⟨[ak,u,c,Q,aK],[],[z,a3],[]⟩ (.inr (.inr ((⟨ac,_,_,_,_,_,_,_,rfl,(MS.mv H),(by first|assumption|(subst_vars;exact AZ.snoc k ‹_›)),AE,kn,kn,kn,kn,kn,kn,kn⟩))))
   refine cm O ?_
   refine cm O ?_
   refine ch O ?_
   have ⟨_,_,cN,cG,cK,b1,bF,cd,_,_,_⟩:=D
   exact Aj ⟨[ag,aW,y,N,aQ],[],[bn,a8],[]⟩ (.inr (.inr ((⟨a0,_,_,_,_,_,_,_,rfl,(MS.mv D),(by first|assumption|(subst_vars;exact AZ.snoc k ‹_›)),AE,kn,kn,kn,kn,kn,kn,kn⟩))))
  exact Aj v0 (.inl rfl)
 exact Aj v0 (.inl rfl)
theorem AlO:AmU 43:=fun {Γ} {K} {M} {Γ0} {left0} it bl pos vl count left call loads z1 z2 z3 z4 z5 pl p2 rl p4 p5 p6 p8 B V P R hM hL h=>AcQ (it.toNat+1) it bl pos vl count left call loads z1 z2 z3 z4 z5 pl p2 rl p4 p5 p6 p8 B V P R hM hL ⟨h.1,h.2.1,h.2.2.1,h.2.2.2,Nat.lt_succ_self _⟩
def AmY (N:Nat):Prop:=∀{Γ:Ctx} {K M:Int} (it bl:Int) (pos q:Int) (count left:Int) (call g:Int) (R H:Int) (D Q:Int) (O pl:Int) (A C:Int) (J z y:Int) (B V P:Rs) (U:MS true Γ 2 K M bl pos q count left call g B V) (h:it≤10:=by exact kn),Ok trees N ⟨[it,bl,pos,q,count,left,call,g,R,H,D,Q,O,pl,A,C,J,z,y],[],[B,V,P],[]⟩ fun u=>(u=(0,v0)∧(it≤0∨left≤0))∨(∃(c left' d:Int),∃(k:Rs),u=(1,(⟨[c,left',d],[],[k],[]⟩:Ah))∧(MS true Γ 2 K M bl c q count left' call g B V)∧(AZ 0 1 2 Γ Γ left left' k)∧(d=k.length)∧(d≤20)∧(left'≤left)∧(c+300*left'≤pos+300*left)∧(1≤d))∨(∃(x:Ctx),∃(c o j left' d:Int),∃(v k:Rs),u=(2,(⟨[c,o,j,left',d],[],[v,k],[]⟩:Ah))∧(MS false x 2 K M bl c o j left' call g B v)∧(AZ 0 1 2 Γ x left left' k)∧(Ext q V v)∧(count≤j)∧(q≤o)∧(d=k.length)∧(d≤20)∧(left'≤left)∧(c+300*left'≤pos+300*left)∧(1≤d))
theorem Amg:AmY 11:=by
 intro Γ K M it bl pos vl count left call j z1 z2 z3 z4 z5 pl p2 p4 p5 p6 p8 B V P hM h
 have ⟨hm,c4,dg,db,c9,dd,c3,c5,dh,c6,c8⟩:=hM;have ⟨hB,hl,hvl,Hq,hV,hb,hc,hd⟩:=hm;have c7:G 3=40:=rfl;have dc:G 2=12:=rfl
 refine .of (t:=AcJ) rfl ?_
 unfold AcJ
 refine gt it 0 (fun t1=>?_) fun t1=>?_
 ·refine gt left 0 (fun t2=>?_) fun t2=>?_
  ·obtain ⟨_,(⟨aR,a8,bc,aC,al,aN,aB,az,aQ,aq,an,aK,aD,aJ,ay,u,g,a3,au,ap,ad,ac,X,ab,rfl,k,bv,cn,bx,bG,cT,ce,b9⟩|⟨aa,a6,aZ,aV,aM,aw,aO,av,aE,aA,aI,ax,v,q,c,d,ba,aH,ag,ai,Z,af,y,rfl,o,cz,cF,cx,bP,cj,bt,cU,bJ,cd,bn⟩),G3⟩:=Ajn 2 1 0 0 1 bl pos vl count left call j B V (MS.mv hM)
   ·refine ch G3 ?_
    have ⟨_,_,cg,cr,bI,cS,bC,cB,_,_,_⟩:=k
    refine ll az ad ?_
    refine ll aD ac ?_
    refine ll aJ X ?_
    refine ll ay ab ?_
    refine dL [Be aR a8 0 bc a3 aC al aN au aB ad aQ aq an ap aK ac X ab] (fun W4 e4=>?_)
    have f4:=cL e4;try simp only [lA,lC,lN,lT']at f4
    refine ll 1 W4 ?_
    obtain ⟨_,(rfl|⟨aj,Q,am,bb,rfl,A,cy,bT,bQ,bR,b2,cP⟩|⟨aX,ak,ao,z,R,aF,a1,a4,rfl,H,cf,bN,bV,cM,bF,cH,cQ,cJ,bM⟩),U⟩:=AlO (it-1) bl u vl count g call j z1 z2 z3 z4 z5 pl p2 1 p4 p5 p6 p8 B V P W4 (MS.mv k) (by subst_vars;exact AZ.one ‹_› om)
    ·refine ch U ?_
     exact Aj ⟨[u,g,1],[],[W4],[]⟩ (.inr (.inl (⟨_,_,_,_,rfl,(MS.mv k),(by first|assumption|(subst_vars;exact AZ.one ‹_› om)),kn,kn,kn,kn,kn⟩)))
    ·refine cm U ?_
     refine ch U ?_
     have ⟨_,_,bE,b3,cO,bL,ci,bO,_,_,_⟩:=A
     exact Aj ⟨[aj,Q,am],[],[bb],[]⟩ (.inr (.inl (⟨_,_,_,_,rfl,(MS.mv A),(by first|assumption|(subst_vars;exact AZ.one ‹_› om)),kn,kn,kn,kn,kn⟩)))
    refine cm U ?_
    refine cm U ?_
    refine ch U ?_
    have ⟨_,_,cb,bS,bW,b4,bD,cc,_,_,_⟩:=H
    exact Aj ⟨[ak,ao,z,R,aF],[],[a1,a4],[]⟩ (.inr (.inr ((⟨aX,_,_,_,_,_,_,_,rfl,(MS.mv H),(by first|assumption|(subst_vars;exact AZ.one ‹_› om)),AE,kn,kn,kn,kn,kn,kn,kn⟩))))
   refine cm G3 ?_
   refine ch G3 ?_
   have ⟨_,_,bZ,br,bz,b7,b5,bw,_,_,_⟩:=o
   refine ll aE ag ?_
   refine ll aA ai ?_
   refine ll aI Z ?_
   refine ll ax af ?_
   refine dL [Be a6 0 aZ aV ba aM aw aO aH av ag 0 0 0 [] 0 ai Z af] (fun W6 e6=>?_)
   have f6:=cL e6;try simp only [lA,lC,lN,lT']at f6
   refine ll 1 W6 ?_
   obtain ⟨_,(rfl|⟨ah,O,aG,aW,rfl,D,bA,cu,cR,cv,bK,cD⟩|⟨aU,ae,aP,x,J,aL,a7,a0,rfl,C,bY,co,cp,b0,cA,b6,bH,cN,bU⟩),N⟩:=AiN (it-1) bl v q c d call j z1 z2 z3 z4 z5 pl p2 1 p4 p5 p6 p8 B P y W6 (MS.mv o) (by subst_vars;exact AZ.one ‹_› om)
   ·refine ch N ?_
    exact Aj ⟨[v,q,c,d,1],[],[y,W6],[]⟩ (.inr (.inr ((⟨aa,_,_,_,_,_,_,_,rfl,(MS.mv o),(by first|assumption|(subst_vars;exact AZ.one ‹_› om)),AE,kn,kn,kn,kn,kn,kn,kn⟩))))
   ·refine cm N ?_
    refine ch N ?_
    have ⟨_,_,cK,cw,cq,b1,cE,ct,_,_,_⟩:=D
    exact Aj ⟨[ah,q,c,O,aG],[],[y,aW],[]⟩ (.inr (.inr ((⟨aa,_,_,_,_,_,_,_,rfl,(MS.mv D),(by first|assumption|(subst_vars;exact AZ.one ‹_› om)),AE,kn,kn,kn,kn,kn,kn,kn⟩))))
   refine cm N ?_
   refine cm N ?_
   refine ch N ?_
   have ⟨_,_,cI,cC,cG,bX,bB,b8,_,_,_⟩:=C
   exact Aj ⟨[ae,aP,x,J,aL],[],[a7,a0],[]⟩ (.inr (.inr ((⟨aU,_,_,_,_,_,_,_,rfl,(MS.mv C),(by first|assumption|(subst_vars;exact AZ.one ‹_› om)),AE,kn,kn,kn,kn,kn,kn,kn⟩))))
  exact Aj v0 (.inl (⟨rfl,kn⟩))
 exact Aj v0 (.inl (⟨rfl,kn⟩))
def K_7 (N:Nat):Prop:=∀{D:Int} {B:Rs} (hB:Dw B) (hl:D=B.length) (pos count:Int) (left call loads:Int) (h:0≤pos∧pos≤100∧count=0∧call=0∧loads=0:=by exact kn),Ok trees N ⟨[D,pos,count,left,call,loads],[],[B],[]⟩ fun C=>(∃(pl y v u x w' g c q left':Int),∃(z:List Nat),∃(o k j A:Rs),C=(0,(⟨[pl,y,v,u,x,w',g,c,q,left'],[z],[o,k,j,A],[]⟩:Ah))∧(Jq k v u x w' z j)∧(o=AH)∧(g=j.length)∧(y=k.length)∧(pl=o.length)∧(0≤c)∧(c≤1500))∨(∃(pl y v u x w' g c q d left':Int),∃(z:List Nat),∃(o k j A:Rs),C=(1,(⟨[pl,y,v,u,x,w',g,c,q,d,left'],[z],[o,k,j,A],[]⟩:Ah))∧(Jq k v u x w' z j)∧(o=AH)∧(g=j.length)∧(y=k.length)∧(pl=o.length)∧(0≤c)∧(c≤1500)∧(0≤d)∧(d≤4))
theorem c_7:K_7 7:=by
 intro bl B hB hl pos count left call ax h
 obtain ⟨h0,h1,rfl,rfl,rfl⟩:=h;have hM:=MS.Af2 hB hl ⟨h0,h1⟩;have bk:G 3=40:=rfl
 refine .of (t:=t_7) rfl ?_
 unfold t_7
 refine de [[PV.str [120],.int .i64 1],[.str [121],.int .i64 1]] ?_
 refine ll 2 [[PV.str [120],.int .i64 1],[.str [121],.int .i64 1]] ?_
 refine fr ?_
 obtain ⟨_,⟨ao,k,rfl,a8,bb,a7⟩,G1⟩:=Yu hB hl pos 2 0 4 0 0 [[PV.str [120],.int .i64 1],[.str [121],.int .i64 1]]
 refine ch G1 ?_
 obtain ⟨_,(⟨rfl,aJ⟩|⟨y,g,o,x,rfl,u,aQ,aK,aN,aU,aW,aw⟩|⟨bg,z,J,c,d,q,M,A,rfl,j,aG,aB,av,aC,aV,az,aL,aI,aR⟩),v⟩:=Amg (ao%4) bl k 2 0 4 0 0 0 0 0 0 0 2 1 0 0 0 0 B [[PV.str [120],.int .i64 1],[.str [121],.int .i64 1]] [[PV.str [120],.int .i64 1],[.str [121],.int .i64 1]] (MS.mv hM)
 ·refine ch v ?_
  obtain ⟨_,⟨X,am,ae,ai,N,C,al,an,rfl,aY,bd,bh,be⟩,G3⟩:=Vk (hM.Fy 0 4) 1 3 k
  refine ch G3 ?_
  refine de [] ?_
  refine ll 0 [] ?_
  exact Aj ⟨[2,0,X,am,ae,ai,N,C,2,4],[al],[[[PV.str [120],.int .i64 1],[.str [121],.int .i64 1]],[],an,[[PV.str [120],.int .i64 1],[.str [121],.int .i64 1]]],[]⟩ (.inl (⟨_,_,_,_,_,_,_,_,_,_,_,_,_,_,_,rfl,(by first|exact Jq.mk ‹_› ‹_› ‹_›|exact Jq.nil ‹_›),rfl,kn,kn,kn,kn,kn⟩))
 ·refine cm v ?_
  refine ch v ?_
  have ⟨_,_,aE,aA,aq,aH,au,aP,_,_,_⟩:=u
  obtain ⟨_,⟨ah,af,aa,U,P,D,ab,Q,rfl,bf,aX,a6,bi⟩,G4⟩:=Vk (u.Fy 0 g) 1 3 y
  refine ch G4 ?_
  refine ll o x ?_
  refine fr ?_
  exact Aj ⟨[2,o,ah,af,aa,U,P,D,2,g],[ab],[[[PV.str [120],.int .i64 1],[.str [121],.int .i64 1]],x,Q,[[PV.str [120],.int .i64 1],[.str [121],.int .i64 1]]],[]⟩ (.inl (⟨_,_,_,_,_,_,_,_,_,_,_,_,_,_,_,rfl,(by first|exact Jq.mk ‹_› ‹_› ‹_›|exact Jq.nil ‹_›),rfl,kn,kn,kn,kn,kn⟩))
 refine cm v ?_
 refine cm v ?_
 refine ch v ?_
 have ⟨_,_,ap,aM,aF,aO,aD,ay,_,_,_⟩:=j
 obtain ⟨_,⟨Z,aj,ak,R,O,H,ag,ac,rfl,bj,a9,a5,a3⟩,G5⟩:=Jm (j.Fy c d) 1 3 z
 refine ch G5 ?_
 refine ll q A ?_
 refine fr ?_
 exact Aj ⟨[2,q,Z,aj,ak,R,O,H,J,c,d],[ag],[[[PV.str [120],.int .i64 1],[.str [121],.int .i64 1]],A,ac,M],[]⟩ (.inr ((⟨_,_,_,_,_,_,_,_,_,_,_,_,_,_,_,_,rfl,(by first|exact Jq.mk ‹_› ‹_› ‹_›|exact Jq.nil ‹_›),rfl,kn,kn,kn,kn,kn,kn,kn⟩)))
def C_6 (N n:Nat):Prop:=∀(it a:Int) (b q:Int) (pos c:Int) (d g:Int) (sub u pl:Int) (B k P:Rs) (hs:Cz g sub) (h:(g=4∨g=1∨g=2∨g=8∨g=6)∧it≤10∧it.toNat<n),Ok trees N ⟨[it,a,b,q,pos,c,d,g,sub,u,pl],[],[B,k,P],[]⟩ fun o=>(∃(j:Int),o=(0,(⟨[j],[],[],[]⟩:Ah))∧(Cz g j))
def K_6 (N:Nat):Prop:=∀(it a:Int) (b q:Int) (pos c:Int) (d g:Int) (sub u pl:Int) (B k P:Rs) (hs:Cz g sub) (h:(g=4∨g=1∨g=2∨g=8∨g=6)∧it≤10:=by exact kn),Ok trees N ⟨[it,a,b,q,pos,c,d,g,sub,u,pl],[],[B,k,P],[]⟩ fun o=>(∃(j:Int),o=(0,(⟨[j],[],[],[]⟩:Ah))∧(Cz g j))
theorem T3 (n:Nat):C_6 6 n:=by
 induction n with
 |zero=>intro it a b q pos c d g sub j pl B k P hs h;exact absurd h.2.2 (Nat.not_lt_zero _)
 |succ n ih=>
 intro it a b q pos c d g sub j pl B k P hs h
 obtain ⟨y,ac⟩:=hs;rcases y with rfl|rfl|rfl|rfl
 ·refine .of (t:=t_6) rfl ?_
  unfold t_6
  refine gt it 0 (fun U=>?_) fun U=>?_
  ·refine AQ (2*1) 0 ?_
   refine eq (g%(2*1)) 0 (fun Z=>?_) fun Z=>?_
   ·obtain ⟨_,⟨u,rfl,M⟩,Q⟩:=ih (it-1) a b q pos c d g (2*1) j pl B k P (by unfold Cz;omega) kn
    refine ch Q ?_
    exact Aj ⟨[u],[],[],[]⟩ (⟨_,rfl,(by first|assumption|(unfold Cz;omega))⟩)
   exact Aj ⟨[1],[],[],[]⟩ (⟨_,rfl,(by first|assumption|(unfold Cz;omega))⟩)
  exact Aj ⟨[1],[],[],[]⟩ (⟨_,rfl,(by first|assumption|(unfold Cz;omega))⟩)
 ·refine .of (t:=t_6) rfl ?_
  unfold t_6
  refine gt it 0 (fun N=>?_) fun N=>?_
  ·refine AQ (2*2) 0 ?_
   refine eq (g%(2*2)) 0 (fun t5=>?_) fun t5=>?_
   ·obtain ⟨_,⟨x,rfl,H⟩,R⟩:=ih (it-1) a b q pos c d g (2*2) j pl B k P (by unfold Cz;omega) kn
    refine ch R ?_
    exact Aj ⟨[x],[],[],[]⟩ (⟨_,rfl,(by first|assumption|(unfold Cz;omega))⟩)
   exact Aj ⟨[2],[],[],[]⟩ (⟨_,rfl,(by first|assumption|(unfold Cz;omega))⟩)
  exact Aj ⟨[2],[],[],[]⟩ (⟨_,rfl,(by first|assumption|(unfold Cz;omega))⟩)
 ·refine .of (t:=t_6) rfl ?_
  unfold t_6
  refine gt it 0 (fun t7=>?_) fun t7=>?_
  ·refine AQ (2*4) 0 ?_
   refine eq (g%(2*4)) 0 (fun J=>?_) fun J=>?_
   ·obtain ⟨_,⟨v,rfl,O⟩,X⟩:=ih (it-1) a b q pos c d g (2*4) j pl B k P (by unfold Cz;omega) kn
    refine ch X ?_
    exact Aj ⟨[v],[],[],[]⟩ (⟨_,rfl,(by first|assumption|(unfold Cz;omega))⟩)
   exact Aj ⟨[4],[],[],[]⟩ (⟨_,rfl,(by first|assumption|(unfold Cz;omega))⟩)
  exact Aj ⟨[4],[],[],[]⟩ (⟨_,rfl,(by first|assumption|(unfold Cz;omega))⟩)
 ·refine .of (t:=t_6) rfl ?_
  unfold t_6
  refine gt it 0 (fun A=>?_) fun A=>?_
  ·refine AQ (2*8) 0 ?_
   refine eq (g%(2*8)) 0 (fun z=>?_) fun z=>?_
   ·obtain ⟨_,⟨o,rfl,D⟩,C⟩:=ih (it-1) a b q pos c d g (2*8) j pl B k P (by unfold Cz;omega) kn
    refine ch C ?_
    exact Aj ⟨[o],[],[],[]⟩ (⟨_,rfl,(by first|assumption|(unfold Cz;omega))⟩)
   exact Aj ⟨[8],[],[],[]⟩ (⟨_,rfl,(by first|assumption|(unfold Cz;omega))⟩)
  exact Aj ⟨[8],[],[],[]⟩ (⟨_,rfl,(by first|assumption|(unfold Cz;omega))⟩)
theorem c_6:K_6 6:=fun it a b k pos c d g sub o pl B j P hs h=>T3 (it.toNat+1) it a b k pos c d g sub o pl B j P hs ⟨h.1,h.2,Nat.lt_succ_self _⟩
def Anq (N n:Nat):Prop:=∀{Γ:Ctx} {K M:Int} {y:Ctx} {j:Int} (it z1:Int) (H v:Int) (pos u:Int) (count left:Int) (C sub:Int) (D pl o:Int) (B J:Rs) (P V R:Rs) (Q:MS false Γ 3 K M v pos u count left 0 1 B V) (O:AZ 0 0 3 y Γ j left R) (h:it≤10∧o=R.length∧o+it≤20∧0≤o∧it.toNat<n),Ok trees N ⟨[it,z1,H,v,pos,u,count,left,C,sub,D,pl,o],[],[B,J,P,V,R],[]⟩ fun x=>(x=(0,v0))∨(∃(c left' d:Int),∃(k:Rs),x=(1,(⟨[c,left',d],[],[k],[]⟩:Ah))∧(MS false Γ 3 K M v c u count left' 0 1 B V)∧(AZ 0 0 3 y Γ j left' k)∧(d=k.length)∧(d≤20)∧(left'≤left)∧(c+300*left'≤pos+300*left)∧(o≤d))∨(∃(A:Ctx),∃(c q g left' d:Int),∃(z k:Rs),x=(2,(⟨[c,q,g,left',d],[],[z,k],[]⟩:Ah))∧(MS false A 3 K M v c q g left' 0 1 B z)∧(AZ 0 0 3 y A j left' k)∧(Ext u V z)∧(count≤g)∧(u≤q)∧(d=k.length)∧(d≤20)∧(left'≤left)∧(c+300*left'≤pos+300*left)∧(o≤d))
def AmV (N:Nat):Prop:=∀{Γ:Ctx} {K M:Int} {y:Ctx} {j:Int} (it z1:Int) (H v:Int) (pos u:Int) (count left:Int) (C sub:Int) (D pl o:Int) (B J:Rs) (P V R:Rs) (Q:MS false Γ 3 K M v pos u count left 0 1 B V) (O:AZ 0 0 3 y Γ j left R) (h:it≤10∧o=R.length∧o+it≤20∧0≤o:=by exact kn),Ok trees N ⟨[it,z1,H,v,pos,u,count,left,C,sub,D,pl,o],[],[B,J,P,V,R],[]⟩ fun x=>(x=(0,v0))∨(∃(c left' d:Int),∃(k:Rs),x=(1,(⟨[c,left',d],[],[k],[]⟩:Ah))∧(MS false Γ 3 K M v c u count left' 0 1 B V)∧(AZ 0 0 3 y Γ j left' k)∧(d=k.length)∧(d≤20)∧(left'≤left)∧(c+300*left'≤pos+300*left)∧(o≤d))∨(∃(A:Ctx),∃(c q g left' d:Int),∃(z k:Rs),x=(2,(⟨[c,q,g,left',d],[],[z,k],[]⟩:Ah))∧(MS false A 3 K M v c q g left' 0 1 B z)∧(AZ 0 0 3 y A j left' k)∧(Ext u V z)∧(count≤g)∧(u≤q)∧(d=k.length)∧(d≤20)∧(left'≤left)∧(c+300*left'≤pos+300*left)∧(o≤d))
theorem Ale (n:Nat):Anq 42 n:=by
 induction n with
 |zero=>intro Γ K M Γ0 aZ it z1 z2 bl pos vl count left aj sub al pl rl B Ar P V R hM j h;exact absurd h.2.2.2.2 (Nat.not_lt_zero _)
 |succ n ih=>
 intro Γ K M Γ0 aZ it z1 z2 bl pos vl count left aj sub al pl rl B Ar P V R hM j h
 have ⟨hm,c4,dg,db,c9,dd,c3,c5,dh,c6,c8⟩:=hM;have ⟨hB,hl,hvl,Hq,hV,hb,hc,hd⟩:=hm;have c7:G 3=40:=rfl;have dc:G 2=12:=rfl
 refine .of (t:=AcC) rfl ?_
 unfold AcC
 refine gt it 0 (fun t1=>?_) fun t1=>?_
 ·refine gt left 0 (fun t2=>?_) fun t2=>?_
  ·obtain ⟨_,(⟨a0,bk,bo,aH,aq,aV,aG,aE,aY,ay,av,aQ,aI,aP,aD,u,g,bd,az,ax,ae,ad,Z,ac,rfl,k,bt,cj,bw,bF,cS,cd,b8⟩|⟨ab,bg,a7,a3,aU,aB,aW,aA,aJ,aF,aN,aC,v,q,c,d,bm,aM,ai,an,aa,ah,y,rfl,o,cy,cE,cw,bO,ci,br,cT,bI,cc,bp⟩),G3⟩:=Rw 3 2 1 0 0 bl pos vl count left 0 1 B V (MS.mv hM)
   ·refine ch G3 ?_
    have ⟨_,_,cf,cq,bH,cR,bB,cA,_,_,_⟩:=k
    refine ll aE ae ?_
    refine ll aI ad ?_
    refine ll aP Z ?_
    refine ll aD ac ?_
    refine dL (R++[Be a0 bk 0 bo bd aH aq aV az aG ae aY ay av ax aQ ad Z ac]) (fun W4 e4=>?_) (BG (pw rl R) pe)
    have f4:=cL e4;try simp only [lA,lC,lN,lT']at f4
    refine FA (W4.length:Int) 1048576 ?_
    obtain ⟨_,(rfl|⟨ao,Q,au,bn,rfl,A,cx,bS,bP,bQ,b1,cO⟩|⟨a5,ap,aw,z,U,aK,a9,be,rfl,H,ce,bM,bU,cK,bE,cG,cP,cI,bL⟩),X⟩:=ih (it-1) z1 z2 bl u vl count g aj sub al pl (W4.length:Int) B Ar P V W4 (MS.mv k) (by subst_vars;exact AZ.snoc j ‹_›) kn
    ·refine ch X ?_
     exact Aj ⟨[u,g,(W4.length:Int)],[],[W4],[]⟩ (.inr (.inl (⟨_,_,_,_,rfl,(MS.mv k),(by first|assumption|(subst_vars;exact AZ.snoc j ‹_›)),kn,kn,kn,kn,kn⟩)))
    ·refine cm X ?_
     refine ch X ?_
     have ⟨_,_,bD,b2,cN,bK,cg,bN,_,_,_⟩:=A
     exact Aj ⟨[ao,Q,au],[],[bn],[]⟩ (.inr (.inl (⟨_,_,_,_,rfl,(MS.mv A),(by first|assumption|(subst_vars;exact AZ.snoc j ‹_›)),kn,kn,kn,kn,kn⟩)))
    refine cm X ?_
    refine cm X ?_
    refine ch X ?_
    have ⟨_,_,b9,bR,bV,b3,bC,cb,_,_,_⟩:=H
    exact Aj ⟨[ap,aw,z,U,aK],[],[a9,be],[]⟩ (.inr (.inr ((⟨a5,_,_,_,_,_,_,_,rfl,(MS.mv H),(by first|assumption|(subst_vars;exact AZ.snoc j ‹_›)),AE,kn,kn,kn,kn,kn,kn,kn⟩))))
   refine cm G3 ?_
   refine ch G3 ?_
   have ⟨_,_,bY,bq,bx,b6,b4,bv,_,_,_⟩:=o
   refine ll aJ ai ?_
   refine ll aF an ?_
   refine ll aN aa ?_
   refine ll aC ah ?_
   refine dL (R++[Be bg 0 a7 a3 bm aU aB aW aM aA ai 0 0 0 [] 0 an aa ah]) (fun W6 e6=>?_) (BG (pw rl R) pe)
   have f6:=cL e6;try simp only [lA,lC,lN,lT']at f6
   refine FA (W6.length:Int) 1048576 ?_
   obtain ⟨_,(rfl|⟨ak,O,aL,a4,rfl,D,bz,ct,cQ,cu,bJ,cC⟩|⟨a1,af,aX,x,J,aR,bi,a8,rfl,C,bX,cn,co,bZ,cz,b5,bG,cM,bT⟩),N⟩:=ih (it-1) z1 z2 bl v q c d aj sub al pl (W6.length:Int) B Ar P y W6 (MS.mv o) (by subst_vars;exact AZ.snoc j ‹_›) kn
   ·refine ch N ?_
    exact Aj ⟨[v,q,c,d,(W6.length:Int)],[],[y,W6],[]⟩ (.inr (.inr ((⟨ab,_,_,_,_,_,_,_,rfl,(MS.mv o),(by first|assumption|(subst_vars;exact AZ.snoc j ‹_›)),AE,kn,kn,kn,kn,kn,kn,kn⟩))))
   ·refine cm N ?_
    refine ch N ?_
    have ⟨_,_,cJ,cv,cp,b0,cD,cr,_,_,_⟩:=D
    exact Aj ⟨[ak,q,c,O,aL],[],[y,a4],[]⟩ (.inr (.inr ((⟨ab,_,_,_,_,_,_,_,rfl,(MS.mv D),(by first|assumption|(subst_vars;exact AZ.snoc j ‹_›)),AE,kn,kn,kn,kn,kn,kn,kn⟩))))
   refine cm N ?_
   refine cm N ?_
   refine ch N ?_
   have ⟨_,_,cH,cB,cF,bW,bA,b7,_,_,_⟩:=C
   exact Aj ⟨[af,aX,x,J,aR],[],[bi,a8],[]⟩ (.inr (.inr ((⟨a1,_,_,_,_,_,_,_,rfl,(MS.mv C),(by first|assumption|(subst_vars;exact AZ.snoc j ‹_›)),AE,kn,kn,kn,kn,kn,kn,kn⟩))))
  exact Aj v0 (.inl rfl)
 exact Aj v0 (.inl rfl)
theorem AiX:AmV 42:=fun {Γ} {K} {M} {Γ0} {left0} it z1 z2 bl pos vl count left grp sub al pl rl B Ar P V R hM hL h=>Ale (it.toNat+1) it z1 z2 bl pos vl count left grp sub al pl rl B Ar P V R hM hL ⟨h.1,h.2.1,h.2.2.1,h.2.2.2,Nat.lt_succ_self _⟩
def AmZ (N:Nat):Prop:=∀{Γ:Ctx} {K M:Int} (it z1:Int) (A q:Int) (pos o:Int) (count left:Int) (y sub:Int) (z pl:Int) (B C:Rs) (P V:Rs) (D:MS false Γ 3 K M q pos o count left 0 1 B V) (h:it≤10:=by exact kn),Ok trees N ⟨[it,z1,A,q,pos,o,count,left,y,sub,z,pl],[],[B,C,P,V],[]⟩ fun u=>(u=(0,v0)∧(it≤0∨left≤0))∨(∃(c left' d:Int),∃(j:Rs),u=(1,(⟨[c,left',d],[],[j],[]⟩:Ah))∧(MS false Γ 3 K M q c o count left' 0 1 B V)∧(AZ 0 0 3 Γ Γ left left' j)∧(d=j.length)∧(d≤20)∧(left'≤left)∧(c+300*left'≤pos+300*left)∧(1≤d))∨(∃(x:Ctx),∃(c k g left' d:Int),∃(v j:Rs),u=(2,(⟨[c,k,g,left',d],[],[v,j],[]⟩:Ah))∧(MS false x 3 K M q c k g left' 0 1 B v)∧(AZ 0 0 3 Γ x left left' j)∧(Ext o V v)∧(count≤g)∧(o≤k)∧(d=j.length)∧(d≤20)∧(left'≤left)∧(c+300*left'≤pos+300*left)∧(1≤d))
theorem Amh:AmZ 10:=by
 intro Γ K M it z1 z2 bl pos vl count left aR sub al pl B Ar P V hM h
 have ⟨hm,cY,c8,c5,c4,c7,cX,cZ,c9,c1,c3⟩:=hM;have ⟨hB,hl,hvl,Hq,hV,hb,hc,hd⟩:=hm;have c2:G 3=40:=rfl;have c6:G 2=12:=rfl
 refine .of (t:=AcK) rfl ?_
 unfold AcK
 refine gt it 0 (fun t1=>?_) fun t1=>?_
 ·refine gt left 0 (fun t2=>?_) fun t2=>?_
  ·obtain ⟨_,(⟨aU,a9,bd,aC,ak,aN,aB,az,aQ,aq,an,aK,aD,aJ,ay,q,g,a4,au,ap,ac,ab,U,aa,rfl,j,bo,ce,bq,bB,cO,b8,b4⟩|⟨Z,a7,a0,aW,aM,aw,aO,av,aE,aA,aI,ax,u,o,c,d,bb,aH,af,ah,X,ae,x,rfl,k,cu,cA,cr,bK,cd,bn,cP,bE,b7,bj⟩),G3⟩:=Rw 3 2 1 0 0 bl pos vl count left 0 1 B V (MS.mv hM)
   ·refine ch G3 ?_
    have ⟨_,_,cb,cj,bD,cN,bw,cw,_,_,_⟩:=j
    refine ll az ac ?_
    refine ll aD ab ?_
    refine ll aJ U ?_
    refine ll ay aa ?_
    refine dL [Be aU a9 0 bd a4 aC ak aN au aB ac aQ aq an ap aK ab U aa] (fun W4 e4=>?_)
    have f4:=cL e4;try simp only [lA,lC,lN,lT']at f4
    refine ll 1 W4 ?_
    obtain ⟨_,(rfl|⟨ai,O,am,bc,rfl,z,ct,bO,bL,bM,bX,cJ⟩|⟨aY,aj,ao,y,Q,aF,a2,a5,rfl,D,b9,bI,bQ,cG,bA,cC,cK,cE,bH⟩),R⟩:=AiX (it-1) z1 z2 bl q vl count g aR sub al pl 1 B Ar P V W4 (MS.mv j) (by subst_vars;exact AZ.one ‹_› om)
    ·refine ch R ?_
     exact Aj ⟨[q,g,1],[],[W4],[]⟩ (.inr (.inl (⟨_,_,_,_,rfl,(MS.mv j),(by first|assumption|(subst_vars;exact AZ.one ‹_› om)),kn,kn,kn,kn,kn⟩)))
    ·refine cm R ?_
     refine ch R ?_
     have ⟨_,_,bz,bY,cI,bG,cc,bJ,_,_,_⟩:=z
     exact Aj ⟨[ai,O,am],[],[bc],[]⟩ (.inr (.inl (⟨_,_,_,_,rfl,(MS.mv z),(by first|assumption|(subst_vars;exact AZ.one ‹_› om)),kn,kn,kn,kn,kn⟩)))
    refine cm R ?_
    refine cm R ?_
    refine ch R ?_
    have ⟨_,_,b5,bN,bR,bZ,bx,b6,_,_,_⟩:=D
    exact Aj ⟨[aj,ao,y,Q,aF],[],[a2,a5],[]⟩ (.inr (.inr ((⟨aY,_,_,_,_,_,_,_,rfl,(MS.mv D),(by first|assumption|(subst_vars;exact AZ.one ‹_› om)),AE,kn,kn,kn,kn,kn,kn,kn⟩))))
   refine cm G3 ?_
   refine ch G3 ?_
   have ⟨_,_,bU,bm,br,b2,b0,bp,_,_,_⟩:=k
   refine ll aE af ?_
   refine ll aA ah ?_
   refine ll aI X ?_
   refine ll ax ae ?_
   refine dL [Be a7 0 a0 aW bb aM aw aO aH av af 0 0 0 [] 0 ah X ae] (fun W6 e6=>?_)
   have f6:=cL e6;try simp only [lA,lC,lN,lT']at f6
   refine ll 1 W6 ?_
   obtain ⟨_,(rfl|⟨ag,N,aG,aX,rfl,C,bt,co,cM,cp,bF,cy⟩|⟨aV,ad,aP,v,H,aL,a8,a1,rfl,A,bT,cf,cg,bV,cv,b1,bC,cH,bP⟩),J⟩:=AiX (it-1) z1 z2 bl u o c d aR sub al pl 1 B Ar P x W6 (MS.mv k) (by subst_vars;exact AZ.one ‹_› om)
   ·refine ch J ?_
    exact Aj ⟨[u,o,c,d,1],[],[x,W6],[]⟩ (.inr (.inr ((⟨Z,_,_,_,_,_,_,_,rfl,(MS.mv k),(by first|assumption|(subst_vars;exact AZ.one ‹_› om)),AE,kn,kn,kn,kn,kn,kn,kn⟩))))
   ·refine cm J ?_
    refine ch J ?_
    have ⟨_,_,cF,cq,ci,bW,cz,cn,_,_,_⟩:=C
    exact Aj ⟨[ag,o,c,N,aG],[],[x,aX],[]⟩ (.inr (.inr ((⟨Z,_,_,_,_,_,_,_,rfl,(MS.mv C),(by first|assumption|(subst_vars;exact AZ.one ‹_› om)),AE,kn,kn,kn,kn,kn,kn,kn⟩))))
   refine cm J ?_
   refine cm J ?_
   refine ch J ?_
   have ⟨_,_,cD,cx,cB,bS,bv,b3,_,_,_⟩:=A
   exact Aj ⟨[ad,aP,v,H,aL],[],[a8,a1],[]⟩ (.inr (.inr ((⟨aV,_,_,_,_,_,_,_,rfl,(MS.mv A),(by first|assumption|(subst_vars;exact AZ.one ‹_› om)),AE,kn,kn,kn,kn,kn,kn,kn⟩))))
  exact Aj v0 (.inl (⟨rfl,kn⟩))
 exact Aj v0 (.inl (⟨rfl,kn⟩))
def Ani (N n:Nat):Prop:=∀{Γ:Ctx} {K M:Int} {y:Ctx} {j:Int} (it z1:Int) (H v:Int) (pos u:Int) (count left:Int) (C sub:Int) (D pl:Int) (fl o:Int) (B J:Rs) (P O:Rs) (V R:Rs) (U:MS false Γ 3 K M v pos u count left 1 1 B V) (Q:AZ 0 0 3 y Γ j left R) (h:it≤10∧o=R.length∧o+it≤20∧0≤o∧it.toNat<n),Ok trees N ⟨[it,z1,H,v,pos,u,count,left,C,sub,D,pl,fl,o],[],[B,J,P,O,V,R],[]⟩ fun x=>(x=(0,v0))∨(∃(c left' d:Int),∃(k:Rs),x=(1,(⟨[c,left',d],[],[k],[]⟩:Ah))∧(MS false Γ 3 K M v c u count left' 1 1 B V)∧(AZ 0 0 3 y Γ j left' k)∧(d=k.length)∧(d≤20)∧(left'≤left)∧(c+300*left'≤pos+300*left)∧(o≤d))∨(∃(A:Ctx),∃(c q g left' d:Int),∃(z k:Rs),x=(2,(⟨[c,q,g,left',d],[],[z,k],[]⟩:Ah))∧(MS false A 3 K M v c q g left' 1 1 B z)∧(AZ 0 0 3 y A j left' k)∧(Ext u V z)∧(count≤g)∧(u≤q)∧(d=k.length)∧(d≤20)∧(left'≤left)∧(c+300*left'≤pos+300*left)∧(o≤d))
def AmB (N:Nat):Prop:=∀{Γ:Ctx} {K M:Int} {y:Ctx} {j:Int} (it z1:Int) (H v:Int) (pos u:Int) (count left:Int) (C sub:Int) (D pl:Int) (fl o:Int) (B J:Rs) (P O:Rs) (V R:Rs) (U:MS false Γ 3 K M v pos u count left 1 1 B V) (Q:AZ 0 0 3 y Γ j left R) (h:it≤10∧o=R.length∧o+it≤20∧0≤o:=by exact kn),Ok trees N ⟨[it,z1,H,v,pos,u,count,left,C,sub,D,pl,fl,o],[],[B,J,P,O,V,R],[]⟩ fun x=>(x=(0,v0))∨(∃(c left' d:Int),∃(k:Rs),x=(1,(⟨[c,left',d],[],[k],[]⟩:Ah))∧(MS false Γ 3 K M v c u count left' 1 1 B V)∧(AZ 0 0 3 y Γ j left' k)∧(d=k.length)∧(d≤20)∧(left'≤left)∧(c+300*left'≤pos+300*left)∧(o≤d))∨(∃(A:Ctx),∃(c q g left' d:Int),∃(z k:Rs),x=(2,(⟨[c,q,g,left',d],[],[z,k],[]⟩:Ah))∧(MS false A 3 K M v c q g left' 1 1 B z)∧(AZ 0 0 3 y A j left' k)∧(Ext u V z)∧(count≤g)∧(u≤q)∧(d=k.length)∧(d≤20)∧(left'≤left)∧(c+300*left'≤pos+300*left)∧(o≤d))
theorem AkV (n:Nat):Ani 75 n:=by
 induction n with
 |zero=>intro Γ K M Γ0 aZ it z1 z2 bl pos vl count left aj sub al pl fl rl B Ar P Fs V R hM j h;exact absurd h.2.2.2.2 (Nat.not_lt_zero _)
 |succ n ih=>
 intro Γ K M Γ0 aZ it z1 z2 bl pos vl count left aj sub al pl fl rl B Ar P Fs V R hM j h
 have ⟨hm,c5,dh,dc,db,dg,c4,c6,di,c7,c9⟩:=hM;have ⟨hB,hl,hvl,Hq,hV,hb,hc,hd⟩:=hm;have c8:G 3=40:=rfl;have dd:G 2=12:=rfl
 refine .of (t:=Aco) rfl ?_
 unfold Aco
 refine gt it 0 (fun t1=>?_) fun t1=>?_
 ·refine gt left 0 (fun t2=>?_) fun t2=>?_
  ·obtain ⟨_,(⟨a0,bm,bp,aH,aq,aV,aG,aE,aY,ay,av,aQ,aI,aP,aD,u,g,be,az,ax,ae,ad,Z,ac,rfl,k,bv,cn,bx,bG,cT,ce,b9⟩|⟨ab,bh,a8,a3,aU,aB,aW,aA,aJ,aF,aN,aC,v,q,c,d,bn,aM,ai,an,aa,ah,y,rfl,o,cz,cF,cx,bP,cj,bt,cU,bJ,cd,bq⟩),G3⟩:=Rw 3 2 1 0 0 bl pos vl count left 1 1 B V (MS.mv hM)
   ·refine ch G3 ?_
    have ⟨_,_,cg,cr,bI,cS,bC,cB,_,_,_⟩:=k
    refine ll aE ae ?_
    refine ll aI ad ?_
    refine ll aP Z ?_
    refine ll aD ac ?_
    refine dL (R++[Be a0 bm 0 bp be aH aq aV az aG ae aY ay av ax aQ ad Z ac]) (fun W4 e4=>?_) (BG (pw rl R) pe)
    have f4:=cL e4;try simp only [lA,lC,lN,lT']at f4
    refine FA (W4.length:Int) 1048576 ?_
    obtain ⟨_,(rfl|⟨ao,Q,au,bo,rfl,A,cy,bT,bQ,bR,b2,cP⟩|⟨a5,ap,aw,z,U,aK,ba,bf,rfl,H,cf,bN,bV,cM,bF,cH,cQ,cJ,bM⟩),X⟩:=ih (it-1) z1 z2 bl u vl count g aj sub al pl fl (W4.length:Int) B Ar P Fs V W4 (MS.mv k) (by subst_vars;exact AZ.snoc j ‹_›) kn
    ·refine ch X ?_
     exact Aj ⟨[u,g,(W4.length:Int)],[],[W4],[]⟩ (.inr (.inl (⟨_,_,_,_,rfl,(MS.mv k),(by first|assumption|(subst_vars;exact AZ.snoc j ‹_›)),kn,kn,kn,kn,kn⟩)))
    ·refine cm X ?_
     refine ch X ?_
     have ⟨_,_,bE,b3,cO,bL,ci,bO,_,_,_⟩:=A
     exact Aj ⟨[ao,Q,au],[],[bo],[]⟩ (.inr (.inl (⟨_,_,_,_,rfl,(MS.mv A),(by first|assumption|(subst_vars;exact AZ.snoc j ‹_›)),kn,kn,kn,kn,kn⟩)))
    refine cm X ?_
    refine cm X ?_
    refine ch X ?_
    have ⟨_,_,cb,bS,bW,b4,bD,cc,_,_,_⟩:=H
    exact Aj ⟨[ap,aw,z,U,aK],[],[ba,bf],[]⟩ (.inr (.inr ((⟨a5,_,_,_,_,_,_,_,rfl,(MS.mv H),(by first|assumption|(subst_vars;exact AZ.snoc j ‹_›)),AE,kn,kn,kn,kn,kn,kn,kn⟩))))
   refine cm G3 ?_
   refine ch G3 ?_
   have ⟨_,_,bZ,br,bz,b7,b5,bw,_,_,_⟩:=o
   refine ll aJ ai ?_
   refine ll aF an ?_
   refine ll aN aa ?_
   refine ll aC ah ?_
   refine dL (R++[Be bh 0 a8 a3 bn aU aB aW aM aA ai 0 0 0 [] 0 an aa ah]) (fun W6 e6=>?_) (BG (pw rl R) pe)
   have f6:=cL e6;try simp only [lA,lC,lN,lT']at f6
   refine FA (W6.length:Int) 1048576 ?_
   obtain ⟨_,(rfl|⟨ak,O,aL,a4,rfl,D,bA,cu,cR,cv,bK,cD⟩|⟨a1,af,aX,x,J,aR,bj,a9,rfl,C,bY,co,cp,b0,cA,b6,bH,cN,bU⟩),N⟩:=ih (it-1) z1 z2 bl v q c d aj sub al pl fl (W6.length:Int) B Ar P Fs y W6 (MS.mv o) (by subst_vars;exact AZ.snoc j ‹_›) kn
   ·refine ch N ?_
    exact Aj ⟨[v,q,c,d,(W6.length:Int)],[],[y,W6],[]⟩ (.inr (.inr ((⟨ab,_,_,_,_,_,_,_,rfl,(MS.mv o),(by first|assumption|(subst_vars;exact AZ.snoc j ‹_›)),AE,kn,kn,kn,kn,kn,kn,kn⟩))))
   ·refine cm N ?_
    refine ch N ?_
    have ⟨_,_,cK,cw,cq,b1,cE,ct,_,_,_⟩:=D
    exact Aj ⟨[ak,q,c,O,aL],[],[y,a4],[]⟩ (.inr (.inr ((⟨ab,_,_,_,_,_,_,_,rfl,(MS.mv D),(by first|assumption|(subst_vars;exact AZ.snoc j ‹_›)),AE,kn,kn,kn,kn,kn,kn,kn⟩))))
   refine cm N ?_
   refine cm N ?_
   refine ch N ?_
   have ⟨_,_,cI,cC,cG,bX,bB,b8,_,_,_⟩:=C
   exact Aj ⟨[af,aX,x,J,aR],[],[bj,a9],[]⟩ (.inr (.inr ((⟨a1,_,_,_,_,_,_,_,rfl,(MS.mv C),(by first|assumption|(subst_vars;exact AZ.snoc j ‹_›)),AE,kn,kn,kn,kn,kn,kn,kn⟩))))
  exact Aj v0 (.inl rfl)
 exact Aj v0 (.inl rfl)
theorem AiO:AmB 75:=fun {Γ} {K} {M} {Γ0} {left0} it z1 z2 bl pos vl count left grp sub al pl fl rl B Ar P Fs V R hM hL h=>AkV (it.toNat+1) it z1 z2 bl pos vl count left grp sub al pl fl rl B Ar P Fs V R hM hL ⟨h.1,h.2.1,h.2.2.1,h.2.2.2,Nat.lt_succ_self _⟩
def AmF (N:Nat):Prop:=∀{Γ:Ctx} {K M:Int} (it z1:Int) (A q:Int) (pos o:Int) (count left:Int) (y sub:Int) (z pl fl:Int) (B C:Rs) (P D V:Rs) (H:MS false Γ 3 K M q pos o count left 1 1 B V) (h:it≤10:=by exact kn),Ok trees N ⟨[it,z1,A,q,pos,o,count,left,y,sub,z,pl,fl],[],[B,C,P,D,V],[]⟩ fun u=>(u=(0,v0)∧(it≤0∨left≤0))∨(∃(c left' d:Int),∃(j:Rs),u=(1,(⟨[c,left',d],[],[j],[]⟩:Ah))∧(MS false Γ 3 K M q c o count left' 1 1 B V)∧(AZ 0 0 3 Γ Γ left left' j)∧(d=j.length)∧(d≤20)∧(left'≤left)∧(c+300*left'≤pos+300*left)∧(1≤d))∨(∃(x:Ctx),∃(c k g left' d:Int),∃(v j:Rs),u=(2,(⟨[c,k,g,left',d],[],[v,j],[]⟩:Ah))∧(MS false x 3 K M q c k g left' 1 1 B v)∧(AZ 0 0 3 Γ x left left' j)∧(Ext o V v)∧(count≤g)∧(o≤k)∧(d=j.length)∧(d≤20)∧(left'≤left)∧(c+300*left'≤pos+300*left)∧(1≤d))
theorem AiP:AmF 68:=by
 intro Γ K M it z1 z2 bl pos vl count left aR sub al pl fl B Ar P Fs V hM h
 have ⟨hm,cZ,c9,c6,c5,c8,cY,c1,db,c2,c4⟩:=hM;have ⟨hB,hl,hvl,Hq,hV,hb,hc,hd⟩:=hm;have c3:G 3=40:=rfl;have c7:G 2=12:=rfl
 refine .of (t:=Acs) rfl ?_
 unfold Acs
 refine gt it 0 (fun t1=>?_) fun t1=>?_
 ·refine gt left 0 (fun t2=>?_) fun t2=>?_
  ·obtain ⟨_,(⟨aU,a9,bd,aC,ak,aN,aB,az,aQ,aq,an,aK,aD,aJ,ay,q,g,a4,au,ap,ac,ab,U,aa,rfl,j,bp,cf,br,bC,cP,b9,b5⟩|⟨Z,a7,a0,aW,aM,aw,aO,av,aE,aA,aI,ax,u,o,c,d,bb,aH,af,ah,X,ae,x,rfl,k,cv,cB,ct,bL,ce,bo,cQ,bF,b8,bk⟩),G3⟩:=Rw 3 2 1 0 0 bl pos vl count left 1 1 B V (MS.mv hM)
   ·refine ch G3 ?_
    have ⟨_,_,cc,cn,bE,cO,bx,cx,_,_,_⟩:=j
    refine ll az ac ?_
    refine ll aD ab ?_
    refine ll aJ U ?_
    refine ll ay aa ?_
    refine dL [Be aU a9 0 bd a4 aC ak aN au aB ac aQ aq an ap aK ab U aa] (fun W4 e4=>?_)
    have f4:=cL e4;try simp only [lA,lC,lN,lT']at f4
    refine ll 1 W4 ?_
    obtain ⟨_,(rfl|⟨ai,O,am,bc,rfl,z,cu,bP,bM,bN,bY,cK⟩|⟨aY,aj,ao,y,Q,aF,a2,a5,rfl,D,cb,bJ,bR,cH,bB,cD,cM,cF,bI⟩),R⟩:=AiO (it-1) z1 z2 bl q vl count g aR sub al pl fl 1 B Ar P Fs V W4 (MS.mv j) (by subst_vars;exact AZ.one ‹_› om)
    ·refine ch R ?_
     exact Aj ⟨[q,g,1],[],[W4],[]⟩ (.inr (.inl (⟨_,_,_,_,rfl,(MS.mv j),(by first|assumption|(subst_vars;exact AZ.one ‹_› om)),kn,kn,kn,kn,kn⟩)))
    ·refine cm R ?_
     refine ch R ?_
     have ⟨_,_,bA,bZ,cJ,bH,cd,bK,_,_,_⟩:=z
     exact Aj ⟨[ai,O,am],[],[bc],[]⟩ (.inr (.inl (⟨_,_,_,_,rfl,(MS.mv z),(by first|assumption|(subst_vars;exact AZ.one ‹_› om)),kn,kn,kn,kn,kn⟩)))
    refine cm R ?_
    refine cm R ?_
    refine ch R ?_
    have ⟨_,_,b6,bO,bS,b0,bz,b7,_,_,_⟩:=D
    exact Aj ⟨[aj,ao,y,Q,aF],[],[a2,a5],[]⟩ (.inr (.inr ((⟨aY,_,_,_,_,_,_,_,rfl,(MS.mv D),(by first|assumption|(subst_vars;exact AZ.one ‹_› om)),AE,kn,kn,kn,kn,kn,kn,kn⟩))))
   refine cm G3 ?_
   refine ch G3 ?_
   have ⟨_,_,bV,bn,bt,b3,b1,bq,_,_,_⟩:=k
   refine ll aE af ?_
   refine ll aA ah ?_
   refine ll aI X ?_
   refine ll ax ae ?_
   refine dL [Be a7 0 a0 aW bb aM aw aO aH av af 0 0 0 [] 0 ah X ae] (fun W6 e6=>?_)
   have f6:=cL e6;try simp only [lA,lC,lN,lT']at f6
   refine ll 1 W6 ?_
   obtain ⟨_,(rfl|⟨ag,N,aG,aX,rfl,C,bv,cp,cN,cq,bG,cz⟩|⟨aV,ad,aP,v,H,aL,a8,a1,rfl,A,bU,cg,ci,bW,cw,b2,bD,cI,bQ⟩),J⟩:=AiO (it-1) z1 z2 bl u o c d aR sub al pl fl 1 B Ar P Fs x W6 (MS.mv k) (by subst_vars;exact AZ.one ‹_› om)
   ·refine ch J ?_
    exact Aj ⟨[u,o,c,d,1],[],[x,W6],[]⟩ (.inr (.inr ((⟨Z,_,_,_,_,_,_,_,rfl,(MS.mv k),(by first|assumption|(subst_vars;exact AZ.one ‹_› om)),AE,kn,kn,kn,kn,kn,kn,kn⟩))))
   ·refine cm J ?_
    refine ch J ?_
    have ⟨_,_,cG,cr,cj,bX,cA,co,_,_,_⟩:=C
    exact Aj ⟨[ag,o,c,N,aG],[],[x,aX],[]⟩ (.inr (.inr ((⟨Z,_,_,_,_,_,_,_,rfl,(MS.mv C),(by first|assumption|(subst_vars;exact AZ.one ‹_› om)),AE,kn,kn,kn,kn,kn,kn,kn⟩))))
   refine cm J ?_
   refine cm J ?_
   refine ch J ?_
   have ⟨_,_,cE,cy,cC,bT,bw,b4,_,_,_⟩:=A
   exact Aj ⟨[ad,aP,v,H,aL],[],[a8,a1],[]⟩ (.inr (.inr ((⟨aV,_,_,_,_,_,_,_,rfl,(MS.mv A),(by first|assumption|(subst_vars;exact AZ.one ‹_› om)),AE,kn,kn,kn,kn,kn,kn,kn⟩))))
  exact Aj v0 (.inl (⟨rfl,kn⟩))
 exact Aj v0 (.inl (⟨rfl,kn⟩))
end Go.Proofs.YtbmofjdmgjpfoaaGreatDoor.Am
end
