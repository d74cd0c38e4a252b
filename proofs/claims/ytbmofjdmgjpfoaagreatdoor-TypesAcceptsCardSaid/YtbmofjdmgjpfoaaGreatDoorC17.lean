/- Part 17 of the proof of TypesAccepts. -/
import Derived.Test.YtbmofjdmgjpfoaaGreatDoorC11
import Derived.Test.YtbmofjdmgjpfoaaGreatDoorC16
set_option linter.all false
section
set_option maxHeartbeats 4000000
set_option maxRecDepth 100000
namespace Go.Proofs.YtbmofjdmgjpfoaaGreatDoor.Am
open Go.AM Go.AM.K
def K_5 (N:Nat):Prop:=∀{d:Int} {B:Rs} (hB:Dz B) (hl:d=B.length) (pos count:Int) (left call loads:Int) (h:0≤pos∧pos≤1000000:=by exact kn),Ok trees N ⟨[d,pos,count,left,call,loads],[],[B],[]⟩ fun g=>(∃(r c:Int),g=(0,(⟨[r,c],[],[],[]⟩:Ah))∧(c=pos+1)∧(0≤r)∧(r≤255))
theorem c_5:K_5 5:=by
 intro d B hB hl pos count left call j h
 refine .of (t:=t_5) rfl ?_
 unfold t_5
 refine gt (pos+1) d (fun k=>?_) fun k=>?_
 ·exact Aj ⟨[0,(pos+1)],[],[],[]⟩ (⟨_,_,rfl,kn,kn,kn⟩)
 refine CX ((pos+1)-1) 0 ?_
 refine BD ((pos+1)-1) d ?_
 obtain ⟨g,c,o,q⟩:=Pr hB ((pos+1)-1) (by omega) (by omega)
 refine el c ?_
 exact Aj ⟨[g,(pos+1)],[],[],[]⟩ (⟨_,_,rfl,kn,kn,kn⟩)
def AmL (N n:Nat):Prop:=∀{Γ:Ctx} {K M:Int} {z:Ctx} {k:Int} (it bl:Int) (pos v:Int) (count left:Int) (call g:Int) (Z z2:Int) (J U:Int) (z5 pl:Int) (O q:Int) (H Q:Int) (C D:Int) (B P:Rs) (V R:Rs) (hM:MS false Γ 2 K M bl pos v count left call g B V) (hL:AZ 0 1 2 z Γ k left R) (h:it≤10∧q=R.length∧q+it≤20∧0≤q∧it.toNat<n),Ok trees N ⟨[it,bl,pos,v,count,left,call,g,Z,z2,J,U,z5,pl,O,q,H,Q,C,D],[],[B,P,V,R],[]⟩ fun x=>(x=(0,v0))∨(∃(c left' d:Int),∃(o:Rs),x=(1,(⟨[c,left',d],[],[o],[]⟩:Ah))∧(MS false Γ 2 K M bl c v count left' call g B V)∧(AZ 0 1 2 z Γ k left' o)∧(d=o.length)∧(d≤20)∧(left'≤left)∧(c+300*left'≤pos+300*left)∧(q≤d))∨(∃(A:Ctx),∃(c u j left' d:Int),∃(y o:Rs),x=(2,(⟨[c,u,j,left',d],[],[y,o],[]⟩:Ah))∧(MS false A 2 K M bl c u j left' call g B y)∧(AZ 0 1 2 z A k left' o)∧(Ext v V y)∧(count≤j)∧(v≤u)∧(d=o.length)∧(d≤20)∧(left'≤left)∧(c+300*left'≤pos+300*left)∧(q≤d))
def Amp (N:Nat):Prop:=∀{Γ:Ctx} {K M:Int} {z:Ctx} {k:Int} (it bl:Int) (pos v:Int) (count left:Int) (call g:Int) (Z z2:Int) (J U:Int) (z5 pl:Int) (O q:Int) (H Q:Int) (C D:Int) (B P:Rs) (V R:Rs) (hM:MS false Γ 2 K M bl pos v count left call g B V) (hL:AZ 0 1 2 z Γ k left R) (h:it≤10∧q=R.length∧q+it≤20∧0≤q:=by exact kn),Ok trees N ⟨[it,bl,pos,v,count,left,call,g,Z,z2,J,U,z5,pl,O,q,H,Q,C,D],[],[B,P,V,R],[]⟩ fun x=>(x=(0,v0))∨(∃(c left' d:Int),∃(o:Rs),x=(1,(⟨[c,left',d],[],[o],[]⟩:Ah))∧(MS false Γ 2 K M bl c v count left' call g B V)∧(AZ 0 1 2 z Γ k left' o)∧(d=o.length)∧(d≤20)∧(left'≤left)∧(c+300*left'≤pos+300*left)∧(q≤d))∨(∃(A:Ctx),∃(c u j left' d:Int),∃(y o:Rs),x=(2,(⟨[c,u,j,left',d],[],[y,o],[]⟩:Ah))∧(MS false A 2 K M bl c u j left' call g B y)∧(AZ 0 1 2 z A k left' o)∧(Ext v V y)∧(count≤j)∧(v≤u)∧(d=o.length)∧(d≤20)∧(left'≤left)∧(c+300*left'≤pos+300*left)∧(q≤d))
theorem AkA (n:Nat):AmL 77 n:=by
 induction n with
 |zero=>intro Γ K M Γ0 aE it bl pos vl count left call d z1 z2 z3 z4 z5 pl p2 rl p4 p5 p6 p8 B P V R hM u h;exact absurd h.2.2.2.2 (Nat.not_lt_zero _)
 |succ n ih=>
 intro Γ K M Γ0 aE it bl pos vl count left call d z1 z2 z3 z4 z5 pl p2 rl p4 p5 p6 p8 B P V R hM u h
 have ⟨hm,dh,db,dd,dg,c8,dc,dk,di,dp,c9⟩:=hM;have ⟨hB,hl,hvl,Hi,hV,hb,hc,hd⟩:=hm;have dl:G 3=40:=rfl;have dj:G 2=12:=rfl
 refine .of (t:=AbP) rfl ?_
 unfold AbP
 refine gt it 0 (fun t1=>?_) fun t1=>?_
 ·refine gt left 0 (fun t2=>?_) fun t2=>?_
  ·obtain ⟨_,(⟨bv,a7,a8,aF,aG,aq,ay,aH,aM,aK,aD,aY,ax,aC,aL,v,g,a9,aZ,aw,ap,ak,an,ad,rfl,q,bA,bD,cr,cE,cu,cV,cj⟩|⟨ah,bj,bb,bf,aO,aN,aU,aB,az,aV,aQ,aW,x,o,c,j,bg,aI,ag,ai,ab,am,y,rfl,k,b5,bQ,b3,cy,ci,cR,cq,cW,b6,bx⟩),G3⟩:=Re 2 1 0 0 1 bl pos vl count left call d B V (MS.mv hM)
   ·refine ch G3 ?_
    have ⟨_,_,bU,cH,bG,cb,b9,b0,_,_,_⟩:=q
    refine ll aH ap ?_
    refine ll ax ak ?_
    refine ll aC an ?_
    refine ll aL ad ?_
    refine dL (R++[Bh bv a7 0 a8 a9 aF aG aq aZ ay ap aM aK aD aw aY ak an ad]) (fun W4 e4=>?_) (BG (pw rl R) pe)
    have f4:=cL e4;try simp only [lA,lC,lN,lT']at f4
    refine F8 (W4.length:Int) 1048576 ?_
    obtain ⟨_,(rfl|⟨ae,aa,aP,be,rfl,D,b7,cF,bJ,b1,ck,bZ⟩|⟨bh,al,au,z,U,aA,bw,a6,rfl,C,cf,cY,bX,bT,cO,cU,cv,bV,cp⟩),O⟩:=ih (it-1) bl v vl count g call d z1 z2 z3 z4 z5 pl p2 (W4.length:Int) p4 p5 p6 p8 B P V W4 (MS.mv q) (by subst_vars;exact AZ.snoc u ‹_›) kn
    ·refine ch O ?_
     exact Aj ⟨[v,g,(W4.length:Int)],[],[W4],[]⟩ (.inr (.inl (⟨_,_,_,_,rfl,(MS.mv q),(by first|assumption|(subst_vars;exact AZ.snoc u ‹_›)),kn,kn,kn,kn,kn⟩)))
    ·refine cm O ?_
     refine ch O ?_
     have ⟨_,_,bY,bM,cX,bS,cI,cA,_,_,_⟩:=D
     exact Aj ⟨[ae,aa,aP],[],[be],[]⟩ (.inr (.inl (⟨_,_,_,_,rfl,(MS.mv D),(by first|assumption|(subst_vars;exact AZ.snoc u ‹_›)),kn,kn,kn,kn,kn⟩)))
    refine cm O ?_
    refine cm O ?_
    refine ch O ?_
    have ⟨_,_,cK,bC,bN,cG,cw,bH,_,_,_⟩:=C
    exact Aj ⟨[al,au,z,U,aA],[],[bw,a6],[]⟩ (.inr (.inr ((⟨bh,_,_,_,_,_,_,_,rfl,(MS.mv C),(by first|assumption|(subst_vars;exact AZ.snoc u ‹_›)),AE,kn,kn,kn,kn,kn,kn,kn⟩))))
   refine cm G3 ?_
   refine ch G3 ?_
   have ⟨_,_,cx,ce,cn,bE,cQ,cJ,_,_,_⟩:=k
   refine ll az ag ?_
   refine ll aV ai ?_
   refine ll aQ ab ?_
   refine ll aW am ?_
   refine dL (R++[Bh bj 0 bb bf bg aO aN aU aI aB ag 0 0 0 [] 0 ai ab am]) (fun W6 e6=>?_) (BG (pw rl R) pe)
   have f6:=cL e6;try simp only [lA,lC,lN,lT']at f6
   refine F8 (W6.length:Int) 1048576 ?_
   obtain ⟨_,(rfl|⟨ac,N,aR,a0,rfl,J,cM,co,bI,cD,b4,bO⟩|⟨a3,ao,aX,A,Z,av,a4,bq,rfl,H,bP,cN,cC,b8,bz,bB,ct,cc,bF⟩),Q⟩:=ih (it-1) bl x o c j call d z1 z2 z3 z4 z5 pl p2 (W6.length:Int) p4 p5 p6 p8 B P y W6 (MS.mv k) (by subst_vars;exact AZ.snoc u ‹_›) kn
   ·refine ch Q ?_
    exact Aj ⟨[x,o,c,j,(W6.length:Int)],[],[y,W6],[]⟩ (.inr (.inr ((⟨ah,_,_,_,_,_,_,_,rfl,(MS.mv k),(by first|assumption|(subst_vars;exact AZ.snoc u ‹_›)),AE,kn,kn,kn,kn,kn,kn,kn⟩))))
   ·refine cm Q ?_
    refine ch Q ?_
    have ⟨_,_,b2,bL,cP,cz,bK,cg,_,_,_⟩:=J
    exact Aj ⟨[ac,o,c,N,aR],[],[y,a0],[]⟩ (.inr (.inr ((⟨ah,_,_,_,_,_,_,_,rfl,(MS.mv J),(by first|assumption|(subst_vars;exact AZ.snoc u ‹_›)),AE,kn,kn,kn,kn,kn,kn,kn⟩))))
   refine cm Q ?_
   refine cm Q ?_
   refine ch Q ?_
   have ⟨_,_,cS,cd,bW,cT,bR,cB,_,_,_⟩:=H
   exact Aj ⟨[ao,aX,A,Z,av],[],[a4,bq],[]⟩ (.inr (.inr ((⟨a3,_,_,_,_,_,_,_,rfl,(MS.mv H),(by first|assumption|(subst_vars;exact AZ.snoc u ‹_›)),AE,kn,kn,kn,kn,kn,kn,kn⟩))))
  exact Aj v0 (.inl rfl)
 exact Aj v0 (.inl rfl)
theorem Ai3:Amp 77:=fun {Γ} {K} {M} {Γ0} {left0} it bl pos vl count left call loads z1 z2 z3 z4 z5 pl p2 rl p4 p5 p6 p8 B P V R hM hL h=>AkA (it.toNat+1) it bl pos vl count left call loads z1 z2 z3 z4 z5 pl p2 rl p4 p5 p6 p8 B P V R hM hL ⟨h.1,h.2.1,h.2.2.1,h.2.2.2,Nat.lt_succ_self _⟩
def AmT (N n:Nat):Prop:=∀{Γ:Ctx} {K M:Int} {z:Ctx} {k:Int} (it bl:Int) (pos v:Int) (count left:Int) (call g:Int) (Z z2:Int) (J U:Int) (z5 pl:Int) (O q:Int) (H Q:Int) (C D:Int) (B V:Rs) (P R:Rs) (hM:MS true Γ 2 K M bl pos v count left call g B V) (hL:AZ 0 1 2 z Γ k left R) (h:it≤10∧q=R.length∧q+it≤20∧0≤q∧it.toNat<n),Ok trees N ⟨[it,bl,pos,v,count,left,call,g,Z,z2,J,U,z5,pl,O,q,H,Q,C,D],[],[B,V,P,R],[]⟩ fun x=>(x=(0,v0))∨(∃(c left' d:Int),∃(o:Rs),x=(1,(⟨[c,left',d],[],[o],[]⟩:Ah))∧(MS true Γ 2 K M bl c v count left' call g B V)∧(AZ 0 1 2 z Γ k left' o)∧(d=o.length)∧(d≤20)∧(left'≤left)∧(c+300*left'≤pos+300*left)∧(q≤d))∨(∃(A:Ctx),∃(c u j left' d:Int),∃(y o:Rs),x=(2,(⟨[c,u,j,left',d],[],[y,o],[]⟩:Ah))∧(MS false A 2 K M bl c u j left' call g B y)∧(AZ 0 1 2 z A k left' o)∧(Ext v V y)∧(count≤j)∧(v≤u)∧(d=o.length)∧(d≤20)∧(left'≤left)∧(c+300*left'≤pos+300*left)∧(q≤d))
def Am9 (N:Nat):Prop:=∀{Γ:Ctx} {K M:Int} {z:Ctx} {k:Int} (it bl:Int) (pos v:Int) (count left:Int) (call g:Int) (Z z2:Int) (J U:Int) (z5 pl:Int) (O q:Int) (H Q:Int) (C D:Int) (B V:Rs) (P R:Rs) (hM:MS true Γ 2 K M bl pos v count left call g B V) (hL:AZ 0 1 2 z Γ k left R) (h:it≤10∧q=R.length∧q+it≤20∧0≤q:=by exact kn),Ok trees N ⟨[it,bl,pos,v,count,left,call,g,Z,z2,J,U,z5,pl,O,q,H,Q,C,D],[],[B,V,P,R],[]⟩ fun x=>(x=(0,v0))∨(∃(c left' d:Int),∃(o:Rs),x=(1,(⟨[c,left',d],[],[o],[]⟩:Ah))∧(MS true Γ 2 K M bl c v count left' call g B V)∧(AZ 0 1 2 z Γ k left' o)∧(d=o.length)∧(d≤20)∧(left'≤left)∧(c+300*left'≤pos+300*left)∧(q≤d))∨(∃(A:Ctx),∃(c u j left' d:Int),∃(y o:Rs),x=(2,(⟨[c,u,j,left',d],[],[y,o],[]⟩:Ah))∧(MS false A 2 K M bl c u j left' call g B y)∧(AZ 0 1 2 z A k left' o)∧(Ext v V y)∧(count≤j)∧(v≤u)∧(d=o.length)∧(d≤20)∧(left'≤left)∧(c+300*left'≤pos+300*left)∧(q≤d))
theorem Ac1 (n:Nat):AmT 43 n:=by
 induction n with
 |zero=>intro Γ K M Γ0 aE it bl pos vl count left call d z1 z2 z3 z4 z5 pl p2 rl p4 p5 p6 p8 B V P R hM u h;exact absurd h.2.2.2.2 (Nat.not_lt_zero _)
 |succ n ih=>
 intro Γ K M Γ0 aE it bl pos vl count left call d z1 z2 z3 z4 z5 pl p2 rl p4 p5 p6 p8 B V P R hM u h
 have ⟨hm,dh,db,dd,dg,c8,dc,dk,di,dp,c9⟩:=hM;have ⟨hB,hl,hvl,Hi,hV,hb,hc,hd⟩:=hm;have dl:G 3=40:=rfl;have dj:G 2=12:=rfl
 refine .of (t:=Acl) rfl ?_
 unfold Acl
 refine gt it 0 (fun t1=>?_) fun t1=>?_
 ·refine gt left 0 (fun t2=>?_) fun t2=>?_
  ·obtain ⟨_,(⟨bv,a7,a8,aF,aG,aq,ay,aH,aM,aK,aD,aY,ax,aC,aL,v,g,a9,aZ,aw,ap,ak,an,ad,rfl,q,bA,bD,cr,cE,cu,cV,cj⟩|⟨ah,bj,bb,bf,aO,aN,aU,aB,az,aV,aQ,aW,x,o,c,j,bg,aI,ag,ai,ab,am,y,rfl,k,b5,bQ,b3,cy,ci,cR,cq,cW,b6,bx⟩),G3⟩:=AiS 2 1 0 0 1 bl pos vl count left call d B V (MS.mv hM)
   ·refine ch G3 ?_
    have ⟨_,_,bU,cH,bG,cb,b9,b0,_,_,_⟩:=q
    refine ll aH ap ?_
    refine ll ax ak ?_
    refine ll aC an ?_
    refine ll aL ad ?_
    refine dL (R++[Bh bv a7 0 a8 a9 aF aG aq aZ ay ap aM aK aD aw aY ak an ad]) (fun W4 e4=>?_) (BG (pw rl R) pe)
    have f4:=cL e4;try simp only [lA,lC,lN,lT']at f4
    refine F8 (W4.length:Int) 1048576 ?_
    obtain ⟨_,(rfl|⟨ae,aa,aP,be,rfl,D,b7,cF,bJ,b1,ck,bZ⟩|⟨bh,al,au,z,U,aA,bw,a6,rfl,C,cf,cY,bX,bT,cO,cU,cv,bV,cp⟩),O⟩:=ih (it-1) bl v vl count g call d z1 z2 z3 z4 z5 pl p2 (W4.length:Int) p4 p5 p6 p8 B V P W4 (MS.mv q) (by subst_vars;exact AZ.snoc u ‹_›) kn
    ·refine ch O ?_
     exact Aj ⟨[v,g,(W4.length:Int)],[],[W4],[]⟩ (.inr (.inl (⟨_,_,_,_,rfl,(MS.mv q),(by first|assumption|(subst_vars;exact AZ.snoc u ‹_›)),kn,kn,kn,kn,kn⟩)))
    ·refine cm O ?_
     refine ch O ?_
     have ⟨_,_,bY,bM,cX,bS,cI,cA,_,_,_⟩:=D
     exact Aj ⟨[ae,aa,aP],[],[be],[]⟩ (.inr (.inl (⟨_,_,_,_,rfl,(MS.mv D),(by first|assumption|(subst_vars;exact AZ.snoc u ‹_›)),kn,kn,kn,kn,kn⟩)))
    refine cm O ?_
    refine cm O ?_
    refine ch O ?_
    have ⟨_,_,cK,bC,bN,cG,cw,bH,_,_,_⟩:=C
    exact Aj ⟨[al,au,z,U,aA],[],[bw,a6],[]⟩ (.inr (.inr ((⟨bh,_,_,_,_,_,_,_,rfl,(MS.mv C),(by first|assumption|(subst_vars;exact AZ.snoc u ‹_›)),AE,kn,kn,kn,kn,kn,kn,kn⟩))))
   refine cm G3 ?_
   refine ch G3 ?_
   have ⟨_,_,cx,ce,cn,bE,cQ,cJ,_,_,_⟩:=k
   refine ll az ag ?_
   refine ll aV ai ?_
   refine ll aQ ab ?_
   refine ll aW am ?_
   refine dL (R++[Bh bj 0 bb bf bg aO aN aU aI aB ag 0 0 0 [] 0 ai ab am]) (fun W6 e6=>?_) (BG (pw rl R) pe)
   have f6:=cL e6;try simp only [lA,lC,lN,lT']at f6
   refine F8 (W6.length:Int) 1048576 ?_
   obtain ⟨_,(rfl|⟨ac,N,aR,a0,rfl,J,cM,co,bI,cD,b4,bO⟩|⟨a3,ao,aX,A,Z,av,a4,bq,rfl,H,bP,cN,cC,b8,bz,bB,ct,cc,bF⟩),Q⟩:=Ai3 (it-1) bl x o c j call d z1 z2 z3 z4 z5 pl p2 (W6.length:Int) p4 p5 p6 p8 B P y W6 (MS.mv k) (by subst_vars;exact AZ.snoc u ‹_›)
   ·refine ch Q ?_
    exact Aj ⟨[x,o,c,j,(W6.length:Int)],[],[y,W6],[]⟩ (.inr (.inr ((⟨ah,_,_,_,_,_,_,_,rfl,(MS.mv k),(by first|assumption|(subst_vars;exact AZ.snoc u ‹_›)),AE,kn,kn,kn,kn,kn,kn,kn⟩))))
   ·refine cm Q ?_
    refine ch Q ?_
    have ⟨_,_,b2,bL,cP,cz,bK,cg,_,_,_⟩:=J
    exact Aj ⟨[ac,o,c,N,aR],[],[y,a0],[]⟩ (.inr (.inr ((⟨ah,_,_,_,_,_,_,_,rfl,(MS.mv J),(by first|assumption|(subst_vars;exact AZ.snoc u ‹_›)),AE,kn,kn,kn,kn,kn,kn,kn⟩))))
   refine cm Q ?_
   refine cm Q ?_
   refine ch Q ?_
   have ⟨_,_,cS,cd,bW,cT,bR,cB,_,_,_⟩:=H
   exact Aj ⟨[ao,aX,A,Z,av],[],[a4,bq],[]⟩ (.inr (.inr ((⟨a3,_,_,_,_,_,_,_,rfl,(MS.mv H),(by first|assumption|(subst_vars;exact AZ.snoc u ‹_›)),AE,kn,kn,kn,kn,kn,kn,kn⟩))))
  exact Aj v0 (.inl rfl)
 exact Aj v0 (.inl rfl)
theorem Al3:Am9 43:=fun {Γ} {K} {M} {Γ0} {left0} it bl pos vl count left call loads z1 z2 z3 z4 z5 pl p2 rl p4 p5 p6 p8 B V P R hM hL h=>Ac1 (it.toNat+1) it bl pos vl count left call loads z1 z2 z3 z4 z5 pl p2 rl p4 p5 p6 p8 B V P R hM hL ⟨h.1,h.2.1,h.2.2.1,h.2.2.2,Nat.lt_succ_self _⟩
def AmD (N:Nat):Prop:=∀{Γ:Ctx} {K M:Int} (it bl:Int) (pos o:Int) (count left:Int) (call g:Int) (C H:Int) (O A:Int) (R pl:Int) (Q J:Int) (z y D:Int) (B V P:Rs) (U:MS true Γ 2 K M bl pos o count left call g B V) (h:it≤10:=by exact kn),Ok trees N ⟨[it,bl,pos,o,count,left,call,g,C,H,O,A,R,pl,Q,J,z,y,D],[],[B,V,P],[]⟩ fun v=>(v=(0,v0)∧(it≤0∨left≤0))∨(∃(c left' d:Int),∃(k:Rs),v=(1,(⟨[c,left',d],[],[k],[]⟩:Ah))∧(MS true Γ 2 K M bl c o count left' call g B V)∧(AZ 0 1 2 Γ Γ left left' k)∧(d=k.length)∧(d≤20)∧(left'≤left)∧(c+300*left'≤pos+300*left)∧(1≤d))∨(∃(x:Ctx),∃(c q j left' d:Int),∃(u k:Rs),v=(2,(⟨[c,q,j,left',d],[],[u,k],[]⟩:Ah))∧(MS false x 2 K M bl c q j left' call g B u)∧(AZ 0 1 2 Γ x left left' k)∧(Ext o V u)∧(count≤j)∧(o≤q)∧(d=k.length)∧(d≤20)∧(left'≤left)∧(c+300*left'≤pos+300*left)∧(1≤d))
theorem AlL:AmD 11:=by
 intro Γ K M it bl pos vl count left call q z1 z2 z3 z4 z5 pl p2 p4 p5 p6 p8 B V P hM h
 have ⟨hm,c9,c5,c7,c8,c3,c6,dd,db,dh,c4⟩:=hM;have ⟨hB,hl,hvl,Hi,hV,hb,hc,hd⟩:=hm;have dg:G 3=40:=rfl;have dc:G 2=12:=rfl
 refine .of (t:=Acu) rfl ?_
 unfold Acu
 refine gt it 0 (fun t1=>?_) fun t1=>?_
 ·refine gt left 0 (fun t2=>?_) fun t2=>?_
  ·obtain ⟨_,(⟨bc,aZ,a0,aA,aB,am,au,aC,aG,aE,az,aQ,aq,ay,aF,u,d,a1,aR,ap,al,ag,aj,ab,rfl,o,bv,bz,cn,cA,cp,cR,ce⟩|⟨ae,a9,a3,a6,aI,aH,aM,ax,av,aN,aK,aO,v,k,c,g,a7,aD,ad,af,Z,ai,x,rfl,j,b1,bM,bZ,cu,cd,cN,ck,cS,b2,bg⟩),G3⟩:=AiS 2 1 0 0 1 bl pos vl count left call q B V (MS.mv hM)
   ·refine ch G3 ?_
    have ⟨_,_,bQ,cD,bC,b6,b5,bW,_,_,_⟩:=o
    refine ll aC al ?_
    refine ll aq ag ?_
    refine ll ay aj ?_
    refine ll aF ab ?_
    refine dL [Bh bc aZ 0 a0 a1 aA aB am aR au al aG aE az ap aQ ag aj ab] (fun W4 e4=>?_)
    have f4:=cL e4;try simp only [lA,lC,lN,lT']at f4
    refine ll 1 W4 ?_
    obtain ⟨_,(rfl|⟨ac,U,aJ,a5,rfl,C,b3,cB,bF,bX,cf,bV⟩|⟨a8,ah,an,y,Q,aw,bd,aY,rfl,A,cb,cU,bT,bP,cJ,cQ,cq,bR,cj⟩),N⟩:=Al3 (it-1) bl u vl count d call q z1 z2 z3 z4 z5 pl p2 1 p4 p5 p6 p8 B V P W4 (MS.mv o) (by subst_vars;exact AZ.one ‹_› (by omega))
    ·refine ch N ?_
     exact Aj ⟨[u,d,1],[],[W4],[]⟩ (.inr (.inl (⟨_,_,_,_,rfl,(MS.mv o),(by first|assumption|(subst_vars;exact AZ.one ‹_› (by omega))),kn,kn,kn,kn,kn⟩)))
    ·refine cm N ?_
     refine ch N ?_
     have ⟨_,_,bU,bI,cT,bO,cE,cw,_,_,_⟩:=C
     exact Aj ⟨[ac,U,aJ],[],[a5],[]⟩ (.inr (.inl (⟨_,_,_,_,rfl,(MS.mv C),(by first|assumption|(subst_vars;exact AZ.one ‹_› (by omega))),kn,kn,kn,kn,kn⟩)))
    refine cm N ?_
    refine cm N ?_
    refine ch N ?_
    have ⟨_,_,cG,bx,bJ,cC,cr,bD,_,_,_⟩:=A
    exact Aj ⟨[ah,an,y,Q,aw],[],[bd,aY],[]⟩ (.inr (.inr ((⟨a8,_,_,_,_,_,_,_,rfl,(MS.mv A),(by first|assumption|(subst_vars;exact AZ.one ‹_› (by omega))),AE,kn,kn,kn,kn,kn,kn,kn⟩))))
   refine cm G3 ?_
   refine ch G3 ?_
   have ⟨_,_,ct,b9,cg,bA,cM,cF,_,_,_⟩:=j
   refine ll av ad ?_
   refine ll aN af ?_
   refine ll aK Z ?_
   refine ll aO ai ?_
   refine dL [Bh a9 0 a3 a6 a7 aI aH aM aD ax ad 0 0 0 [] 0 af Z ai] (fun W6 e6=>?_)
   have f6:=cL e6;try simp only [lA,lC,lN,lT']at f6
   refine ll 1 W6 ?_
   obtain ⟨_,(rfl|⟨aa,J,aL,aU,rfl,H,cH,ci,bE,cz,b0,bK⟩|⟨aV,ak,aP,z,R,ao,aW,bb,rfl,D,bL,cI,cy,b4,bt,bw,co,b7,bB⟩),O⟩:=Ai3 (it-1) bl v k c g call q z1 z2 z3 z4 z5 pl p2 1 p4 p5 p6 p8 B P x W6 (MS.mv j) (by subst_vars;exact AZ.one ‹_› (by omega))
   ·refine ch O ?_
    exact Aj ⟨[v,k,c,g,1],[],[x,W6],[]⟩ (.inr (.inr ((⟨ae,_,_,_,_,_,_,_,rfl,(MS.mv j),(by first|assumption|(subst_vars;exact AZ.one ‹_› (by omega))),AE,kn,kn,kn,kn,kn,kn,kn⟩))))
   ·refine cm O ?_
    refine ch O ?_
    have ⟨_,_,bY,bH,cK,cv,bG,cc,_,_,_⟩:=H
    exact Aj ⟨[aa,k,c,J,aL],[],[x,aU],[]⟩ (.inr (.inr ((⟨ae,_,_,_,_,_,_,_,rfl,(MS.mv H),(by first|assumption|(subst_vars;exact AZ.one ‹_› (by omega))),AE,kn,kn,kn,kn,kn,kn,kn⟩))))
   refine cm O ?_
   refine cm O ?_
   refine ch O ?_
   have ⟨_,_,cO,b8,bS,cP,bN,cx,_,_,_⟩:=D
   exact Aj ⟨[ak,aP,z,R,ao],[],[aW,bb],[]⟩ (.inr (.inr ((⟨aV,_,_,_,_,_,_,_,rfl,(MS.mv D),(by first|assumption|(subst_vars;exact AZ.one ‹_› (by omega))),AE,kn,kn,kn,kn,kn,kn,kn⟩))))
  exact Aj v0 (.inl (⟨rfl,kn⟩))
 exact Aj v0 (.inl (⟨rfl,kn⟩))
def K_7 (N:Nat):Prop:=∀{C:Int} {B:Rs} (hB:Dz B) (hl:C=B.length) (pos count:Int) (left call loads:Int) (h:0≤pos∧pos≤100∧count=0∧call=0∧loads=0:=by exact kn),Ok trees N ⟨[C,pos,count,left,call,loads],[],[B],[]⟩ fun D=>(∃(pl u z y x w' g c v left':Int),∃(q:List Nat),∃(j k o A:Rs),D=(0,(⟨[pl,u,z,y,x,w',g,c,v,left'],[q],[j,k,o,A],[]⟩:Ah))∧(Jo k z y x w' q o)∧(j=AF)∧(g=o.length)∧(u=k.length)∧(pl=j.length)∧(0≤c)∧(c≤1500))∨(∃(pl u z y x w' g c v d left':Int),∃(q:List Nat),∃(j k o A:Rs),D=(1,(⟨[pl,u,z,y,x,w',g,c,v,d,left'],[q],[j,k,o,A],[]⟩:Ah))∧(Jo k z y x w' q o)∧(j=AF)∧(g=o.length)∧(u=k.length)∧(pl=j.length)∧(0≤c)∧(c≤1500)∧(0≤d)∧(d≤4))
theorem c_7:K_7 7:=by
 intro bl B hB hl pos count left call aF h
 obtain ⟨h0,h1,rfl,rfl,rfl⟩:=h;have hM:=MS.Afl hB hl ⟨h0,h1⟩;have bm:G 3=40:=rfl
 refine .of (t:=t_7) rfl ?_
 unfold t_7
 refine de [[PV.str [120],.int .i64 1],[.str [121],.int .i64 1]] ?_
 refine ll 2 [[PV.str [120],.int .i64 1],[.str [121],.int .i64 1]] ?_
 refine fr ?_
 obtain ⟨_,⟨Q,k,rfl,a1,bk,a2⟩,G1⟩:=Yg hB hl pos 2 0 4 0 0 [[PV.str [120],.int .i64 1],[.str [121],.int .i64 1]]
 refine ch G1 ?_
 obtain ⟨_,(⟨rfl,az⟩|⟨y,d,o,A,rfl,q,av,aN,aO,aH,aL,aC⟩|⟨a9,z,J,c,g,u,P,x,rfl,j,aV,aA,aU,aB,aI,aQ,au,ay,aM⟩),v⟩:=AlL (Q%4) bl k 2 0 4 0 0 0 0 0 0 0 2 1 0 0 0 0 B [[PV.str [120],.int .i64 1],[.str [121],.int .i64 1]] [[PV.str [120],.int .i64 1],[.str [121],.int .i64 1]] (MS.mv hM)
 ·refine ch v ?_
  obtain ⟨_,⟨ae,ac,ap,ah,O,D,al,ai,rfl,bi,aZ,ba,bc⟩,G3⟩:=UT (hM.Fv 0 4) 1 3 k
  refine ch G3 ?_
  refine de [] ?_
  refine ll 0 [] ?_
  exact Aj ⟨[2,0,ae,ac,ap,ah,O,D,2,4],[al],[[[PV.str [120],.int .i64 1],[.str [121],.int .i64 1]],[],ai,[[PV.str [120],.int .i64 1],[.str [121],.int .i64 1]]],[]⟩ (.inl (⟨_,_,_,_,_,_,_,_,_,_,_,_,_,_,_,rfl,(by first|exact Jo.mk ‹_› ‹_› ‹_›|exact Jo.nil ‹_›),rfl,kn,kn,kn,kn,kn⟩))
 ·refine cm v ?_
  refine ch v ?_
  have ⟨_,_,aE,aJ,aK,aq,aR,aP,_,_,_⟩:=q
  obtain ⟨_,⟨af,R,ab,ag,N,H,Z,ak,rfl,bb,a0,a4,bh⟩,G4⟩:=UT (q.Fv 0 d) 1 3 y
  refine ch G4 ?_
  refine ll o A ?_
  refine fr ?_
  exact Aj ⟨[2,o,af,R,ab,ag,N,H,2,d],[Z],[[[PV.str [120],.int .i64 1],[.str [121],.int .i64 1]],A,ak,[[PV.str [120],.int .i64 1],[.str [121],.int .i64 1]]],[]⟩ (.inl (⟨_,_,_,_,_,_,_,_,_,_,_,_,_,_,_,rfl,(by first|exact Jo.mk ‹_› ‹_› ‹_›|exact Jo.nil ‹_›),rfl,kn,kn,kn,kn,kn⟩))
 refine cm v ?_
 refine cm v ?_
 refine ch v ?_
 have ⟨_,_,ax,aW,aX,aG,aD,aw,_,_,_⟩:=j
 obtain ⟨_,⟨am,aj,aa,ao,M,C,an,U,rfl,a3,aY,a8,a6⟩,G5⟩:=Jj (j.Fv c g) 1 3 z
 refine ch G5 ?_
 refine ll u x ?_
 refine fr ?_
 exact Aj ⟨[2,u,am,aj,aa,ao,M,C,J,c,g],[an],[[[PV.str [120],.int .i64 1],[.str [121],.int .i64 1]],x,U,P],[]⟩ (.inr ((⟨_,_,_,_,_,_,_,_,_,_,_,_,_,_,_,_,rfl,(by first|exact Jo.mk ‹_› ‹_› ‹_›|exact Jo.nil ‹_›),rfl,kn,kn,kn,kn,kn,kn,kn⟩)))
def C_6 (N n:Nat):Prop:=∀(it a:Int) (b k:Int) (pos c:Int) (d g:Int) (sub u pl:Int) (B q P:Rs) (hs:C4 g sub) (h:(g=4∨g=1∨g=2∨g=8∨g=6)∧it≤10∧it.toNat<n),Ok trees N ⟨[it,a,b,k,pos,c,d,g,sub,u,pl],[],[B,q,P],[]⟩ fun o=>(∃(j:Int),o=(0,(⟨[j],[],[],[]⟩:Ah))∧(C4 g j))
def K_6 (N:Nat):Prop:=∀(it a:Int) (b k:Int) (pos c:Int) (d g:Int) (sub u pl:Int) (B q P:Rs) (hs:C4 g sub) (h:(g=4∨g=1∨g=2∨g=8∨g=6)∧it≤10:=by exact kn),Ok trees N ⟨[it,a,b,k,pos,c,d,g,sub,u,pl],[],[B,q,P],[]⟩ fun o=>(∃(j:Int),o=(0,(⟨[j],[],[],[]⟩:Ah))∧(C4 g j))
theorem Tk (n:Nat):C_6 6 n:=by
 induction n with
 |zero=>intro it a b o pos c d g sub q pl B j P hs h;exact absurd h.2.2 (Nat.not_lt_zero _)
 |succ n ih=>
 intro it a b o pos c d g sub q pl B j P hs h
 obtain ⟨A,ad⟩:=hs;rcases A with rfl|rfl|rfl|rfl
 ·refine .of (t:=t_6) rfl ?_
  unfold t_6
  refine gt it 0 (fun t1=>?_) fun t1=>?_
  ·refine AT (2*1) 0 ?_
   refine eq (g%(2*1)) 0 (fun U=>?_) fun U=>?_
   ·obtain ⟨_,⟨v,rfl,Q⟩,G3⟩:=ih (it-1) a b o pos c d g (2*1) q pl B j P (by unfold C4;omega) kn
    refine ch G3 ?_
    exact Aj ⟨[v],[],[],[]⟩ (⟨_,rfl,(by first|assumption|(unfold C4;omega))⟩)
   exact Aj ⟨[1],[],[],[]⟩ (⟨_,rfl,(by first|assumption|(unfold C4;omega))⟩)
  exact Aj ⟨[1],[],[],[]⟩ (⟨_,rfl,(by first|assumption|(unfold C4;omega))⟩)
 ·refine .of (t:=t_6) rfl ?_
  unfold t_6
  refine gt it 0 (fun R=>?_) fun R=>?_
  ·refine AT (2*2) 0 ?_
   refine eq (g%(2*2)) 0 (fun N=>?_) fun N=>?_
   ·obtain ⟨_,⟨x,rfl,Z⟩,M⟩:=ih (it-1) a b o pos c d g (2*2) q pl B j P (by unfold C4;omega) kn
    refine ch M ?_
    exact Aj ⟨[x],[],[],[]⟩ (⟨_,rfl,(by first|assumption|(unfold C4;omega))⟩)
   exact Aj ⟨[2],[],[],[]⟩ (⟨_,rfl,(by first|assumption|(unfold C4;omega))⟩)
  exact Aj ⟨[2],[],[],[]⟩ (⟨_,rfl,(by first|assumption|(unfold C4;omega))⟩)
 ·refine .of (t:=t_6) rfl ?_
  unfold t_6
  refine gt it 0 (fun O=>?_) fun O=>?_
  ·refine AT (2*4) 0 ?_
   refine eq (g%(2*4)) 0 (fun J=>?_) fun J=>?_
   ·obtain ⟨_,⟨u,rfl,ac⟩,H⟩:=ih (it-1) a b o pos c d g (2*4) q pl B j P (by unfold C4;omega) kn
    refine ch H ?_
    exact Aj ⟨[u],[],[],[]⟩ (⟨_,rfl,(by first|assumption|(unfold C4;omega))⟩)
   exact Aj ⟨[4],[],[],[]⟩ (⟨_,rfl,(by first|assumption|(unfold C4;omega))⟩)
  exact Aj ⟨[4],[],[],[]⟩ (⟨_,rfl,(by first|assumption|(unfold C4;omega))⟩)
 ·refine .of (t:=t_6) rfl ?_
  unfold t_6
  refine gt it 0 (fun C=>?_) fun C=>?_
  ·refine AT (2*8) 0 ?_
   refine eq (g%(2*8)) 0 (fun y=>?_) fun y=>?_
   ·obtain ⟨_,⟨k,rfl,D⟩,z⟩:=ih (it-1) a b o pos c d g (2*8) q pl B j P (by unfold C4;omega) kn
    refine ch z ?_
    exact Aj ⟨[k],[],[],[]⟩ (⟨_,rfl,(by first|assumption|(unfold C4;omega))⟩)
   exact Aj ⟨[8],[],[],[]⟩ (⟨_,rfl,(by first|assumption|(unfold C4;omega))⟩)
  exact Aj ⟨[8],[],[],[]⟩ (⟨_,rfl,(by first|assumption|(unfold C4;omega))⟩)
theorem c_6:K_6 6:=fun it a b j pos c d g sub o pl B k P hs h=>Tk (it.toNat+1) it a b j pos c d g sub o pl B k P hs ⟨h.1,h.2,Nat.lt_succ_self _⟩
def AmU (N n:Nat):Prop:=∀{Γ:Ctx} {K M:Int} {y:Ctx} {j:Int} (it z1:Int) (H v:Int) (pos q:Int) (count left:Int) (A sub:Int) (J pl o:Int) (B D:Rs) (P V R:Rs) (Q:MS false Γ 3 K M v pos q count left 0 1 B V) (O:AZ 0 0 3 y Γ j left R) (h:it≤10∧o=R.length∧o+it≤20∧0≤o∧it.toNat<n),Ok trees N ⟨[it,z1,H,v,pos,q,count,left,A,sub,J,pl,o],[],[B,D,P,V,R],[]⟩ fun z=>(z=(0,v0))∨(∃(c left' d:Int),∃(k:Rs),z=(1,(⟨[c,left',d],[],[k],[]⟩:Ah))∧(MS false Γ 3 K M v c q count left' 0 1 B V)∧(AZ 0 0 3 y Γ j left' k)∧(d=k.length)∧(d≤20)∧(left'≤left)∧(c+300*left'≤pos+300*left)∧(o≤d))∨(∃(C:Ctx),∃(c u g left' d:Int),∃(x k:Rs),z=(2,(⟨[c,u,g,left',d],[],[x,k],[]⟩:Ah))∧(MS false C 3 K M v c u g left' 0 1 B x)∧(AZ 0 0 3 y C j left' k)∧(Ext q V x)∧(count≤g)∧(q≤u)∧(d=k.length)∧(d≤20)∧(left'≤left)∧(c+300*left'≤pos+300*left)∧(o≤d))
def AmA (N:Nat):Prop:=∀{Γ:Ctx} {K M:Int} {y:Ctx} {j:Int} (it z1:Int) (H v:Int) (pos q:Int) (count left:Int) (A sub:Int) (J pl o:Int) (B D:Rs) (P V R:Rs) (Q:MS false Γ 3 K M v pos q count left 0 1 B V) (O:AZ 0 0 3 y Γ j left R) (h:it≤10∧o=R.length∧o+it≤20∧0≤o:=by exact kn),Ok trees N ⟨[it,z1,H,v,pos,q,count,left,A,sub,J,pl,o],[],[B,D,P,V,R],[]⟩ fun z=>(z=(0,v0))∨(∃(c left' d:Int),∃(k:Rs),z=(1,(⟨[c,left',d],[],[k],[]⟩:Ah))∧(MS false Γ 3 K M v c q count left' 0 1 B V)∧(AZ 0 0 3 y Γ j left' k)∧(d=k.length)∧(d≤20)∧(left'≤left)∧(c+300*left'≤pos+300*left)∧(o≤d))∨(∃(C:Ctx),∃(c u g left' d:Int),∃(x k:Rs),z=(2,(⟨[c,u,g,left',d],[],[x,k],[]⟩:Ah))∧(MS false C 3 K M v c u g left' 0 1 B x)∧(AZ 0 0 3 y C j left' k)∧(Ext q V x)∧(count≤g)∧(q≤u)∧(d=k.length)∧(d≤20)∧(left'≤left)∧(c+300*left'≤pos+300*left)∧(o≤d))
theorem AkJ (n:Nat):AmU 42 n:=by
 induction n with
 |zero=>intro Γ K M Γ0 aF it z1 z2 bl pos vl count left ah sub al pl rl B Ar P V R hM q h;exact absurd h.2.2.2.2 (Nat.not_lt_zero _)
 |succ n ih=>
 intro Γ K M Γ0 aF it z1 z2 bl pos vl count left ah sub al pl rl B Ar P V R hM q h
 have ⟨hm,c9,c5,c7,c8,c3,c6,dd,dc,dh,c4⟩:=hM;have ⟨hB,hl,hvl,Hi,hV,hb,hc,hd⟩:=hm;have dg:G 3=40:=rfl;have db:G 2=12:=rfl
 refine .of (t:=Acm) rfl ?_
 unfold Acm
 refine gt it 0 (fun t1=>?_) fun t1=>?_
 ·refine gt left 0 (fun t2=>?_) fun t2=>?_
  ·obtain ⟨_,(⟨bo,a7,a9,aG,aH,au,az,aI,aN,aL,aE,aZ,ay,aD,aM,u,d,ba,a0,ax,aq,ak,ao,ac,rfl,o,bt,bx,ck,cz,co,cQ,cd⟩|⟨ag,bi,bb,bf,aP,aO,aV,aC,aA,aW,aR,aX,v,k,c,g,bg,aJ,af,ai,aa,an,x,rfl,j,b0,bL,bY,ct,cc,cM,cj,cR,b1,bq⟩),G3⟩:=Re 3 2 1 0 0 bl pos vl count left 0 1 B V (MS.mv hM)
   ·refine ch G3 ?_
    have ⟨_,_,bP,cC,bB,b5,b4,bV,_,_,_⟩:=o
    refine ll aI aq ?_
    refine ll ay ak ?_
    refine ll aD ao ?_
    refine ll aM ac ?_
    refine dL (R++[Bh bo a7 0 a9 ba aG aH au a0 az aq aN aL aE ax aZ ak ao ac]) (fun W4 e4=>?_) (BG (pw rl R) pe)
    have f4:=cL e4;try simp only [lA,lC,lN,lT']at f4
    refine F8 (W4.length:Int) 1048576 ?_
    obtain ⟨_,(rfl|⟨ad,Z,aQ,be,rfl,C,b2,cA,bE,bW,ce,bU⟩|⟨bh,am,av,y,Q,aB,bp,a6,rfl,A,b9,cT,bS,bO,cI,cP,cp,bQ,ci⟩),N⟩:=ih (it-1) z1 z2 bl u vl count d ah sub al pl (W4.length:Int) B Ar P V W4 (MS.mv o) (by subst_vars;exact AZ.snoc q ‹_›) kn
    ·refine ch N ?_
     exact Aj ⟨[u,d,(W4.length:Int)],[],[W4],[]⟩ (.inr (.inl (⟨_,_,_,_,rfl,(MS.mv o),(by first|assumption|(subst_vars;exact AZ.snoc q ‹_›)),kn,kn,kn,kn,kn⟩)))
    ·refine cm N ?_
     refine ch N ?_
     have ⟨_,_,bT,bH,cS,bN,cD,cv,_,_,_⟩:=C
     exact Aj ⟨[ad,Z,aQ],[],[be],[]⟩ (.inr (.inl (⟨_,_,_,_,rfl,(MS.mv C),(by first|assumption|(subst_vars;exact AZ.snoc q ‹_›)),kn,kn,kn,kn,kn⟩)))
    refine cm N ?_
    refine cm N ?_
    refine ch N ?_
    have ⟨_,_,cF,bw,bI,cB,cq,bC,_,_,_⟩:=A
    exact Aj ⟨[am,av,y,Q,aB],[],[bp,a6],[]⟩ (.inr (.inr ((⟨bh,_,_,_,_,_,_,_,rfl,(MS.mv A),(by first|assumption|(subst_vars;exact AZ.snoc q ‹_›)),AE,kn,kn,kn,kn,kn,kn,kn⟩))))
   refine cm G3 ?_
   refine ch G3 ?_
   have ⟨_,_,cr,b8,cf,bz,cK,cE,_,_,_⟩:=j
   refine ll aA af ?_
   refine ll aW ai ?_
   refine ll aR aa ?_
   refine ll aX an ?_
   refine dL (R++[Bh bi 0 bb bf bg aP aO aV aJ aC af 0 0 0 [] 0 ai aa an]) (fun W6 e6=>?_) (BG (pw rl R) pe)
   have f6:=cL e6;try simp only [lA,lC,lN,lT']at f6
   refine F8 (W6.length:Int) 1048576 ?_
   obtain ⟨_,(rfl|⟨ab,J,aU,a1,rfl,H,cG,cg,bD,cy,bZ,bJ⟩|⟨a3,ap,aY,z,U,aw,a4,bn,rfl,D,bK,cH,cx,b3,br,bv,cn,b6,bA⟩),O⟩:=ih (it-1) z1 z2 bl v k c g ah sub al pl (W6.length:Int) B Ar P x W6 (MS.mv j) (by subst_vars;exact AZ.snoc q ‹_›) kn
   ·refine ch O ?_
    exact Aj ⟨[v,k,c,g,(W6.length:Int)],[],[x,W6],[]⟩ (.inr (.inr ((⟨ag,_,_,_,_,_,_,_,rfl,(MS.mv j),(by first|assumption|(subst_vars;exact AZ.snoc q ‹_›)),AE,kn,kn,kn,kn,kn,kn,kn⟩))))
   ·refine cm O ?_
    refine ch O ?_
    have ⟨_,_,bX,bG,cJ,cu,bF,cb,_,_,_⟩:=H
    exact Aj ⟨[ab,k,c,J,aU],[],[x,a1],[]⟩ (.inr (.inr ((⟨ag,_,_,_,_,_,_,_,rfl,(MS.mv H),(by first|assumption|(subst_vars;exact AZ.snoc q ‹_›)),AE,kn,kn,kn,kn,kn,kn,kn⟩))))
   refine cm O ?_
   refine cm O ?_
   refine ch O ?_
   have ⟨_,_,cN,b7,bR,cO,bM,cw,_,_,_⟩:=D
   exact Aj ⟨[ap,aY,z,U,aw],[],[a4,bn],[]⟩ (.inr (.inr ((⟨a3,_,_,_,_,_,_,_,rfl,(MS.mv D),(by first|assumption|(subst_vars;exact AZ.snoc q ‹_›)),AE,kn,kn,kn,kn,kn,kn,kn⟩))))
  exact Aj v0 (.inl rfl)
 exact Aj v0 (.inl rfl)
theorem AiC:AmA 42:=fun {Γ} {K} {M} {Γ0} {left0} it z1 z2 bl pos vl count left grp sub al pl rl B Ar P V R hM hL h=>AkJ (it.toNat+1) it z1 z2 bl pos vl count left grp sub al pl rl B Ar P V R hM hL ⟨h.1,h.2.1,h.2.2.1,h.2.2.2,Nat.lt_succ_self _⟩
def AmE (N:Nat):Prop:=∀{Γ:Ctx} {K M:Int} (it z1:Int) (A q:Int) (pos k:Int) (count left:Int) (x sub:Int) (C pl:Int) (B z:Rs) (P V:Rs) (D:MS false Γ 3 K M q pos k count left 0 1 B V) (h:it≤10:=by exact kn),Ok trees N ⟨[it,z1,A,q,pos,k,count,left,x,sub,C,pl],[],[B,z,P,V],[]⟩ fun v=>(v=(0,v0)∧(it≤0∨left≤0))∨(∃(c left' d:Int),∃(j:Rs),v=(1,(⟨[c,left',d],[],[j],[]⟩:Ah))∧(MS false Γ 3 K M q c k count left' 0 1 B V)∧(AZ 0 0 3 Γ Γ left left' j)∧(d=j.length)∧(d≤20)∧(left'≤left)∧(c+300*left'≤pos+300*left)∧(1≤d))∨(∃(y:Ctx),∃(c o g left' d:Int),∃(u j:Rs),v=(2,(⟨[c,o,g,left',d],[],[u,j],[]⟩:Ah))∧(MS false y 3 K M q c o g left' 0 1 B u)∧(AZ 0 0 3 Γ y left left' j)∧(Ext k V u)∧(count≤g)∧(k≤o)∧(d=j.length)∧(d≤20)∧(left'≤left)∧(c+300*left'≤pos+300*left)∧(1≤d))
theorem AlM:AmE 10:=by
 intro Γ K M it z1 z2 bl pos vl count left aU sub al pl B Ar P V hM h
 have ⟨hm,c4,cZ,c2,c3,cX,c1,c7,c6,c9,cY⟩:=hM;have ⟨hB,hl,hvl,Hi,hV,hb,hc,hd⟩:=hm;have c8:G 3=40:=rfl;have c5:G 2=12:=rfl
 refine .of (t:=Acv) rfl ?_
 unfold Acv
 refine gt it 0 (fun t1=>?_) fun t1=>?_
 ·refine gt left 0 (fun t2=>?_) fun t2=>?_
  ·obtain ⟨_,(⟨bd,a0,a1,aA,aB,am,au,aC,aG,aE,az,aQ,aq,ay,aF,q,d,a2,aR,ap,ak,af,ai,aa,rfl,o,bo,br,cf,cv,ci,cM,b8⟩|⟨ad,ba,a4,a7,aI,aH,aM,ax,av,aN,aK,aO,u,k,c,g,a8,aD,ac,ae,U,ah,v,rfl,j,bW,bH,bU,co,b7,cH,ce,cN,bX,bg⟩),G3⟩:=Re 3 2 1 0 0 bl pos vl count left 0 1 B V (MS.mv hM)
   ·refine ch G3 ?_
    have ⟨_,_,bL,cy,bw,b1,b0,bR,_,_,_⟩:=o
    refine ll aC ak ?_
    refine ll aq af ?_
    refine ll ay ai ?_
    refine ll aF aa ?_
    refine dL [Bh bd a0 0 a1 a2 aA aB am aR au ak aG aE az ap aQ af ai aa] (fun W4 e4=>?_)
    have f4:=cL e4;try simp only [lA,lC,lN,lT']at f4
    refine ll 1 W4 ?_
    obtain ⟨_,(rfl|⟨ab,R,aJ,a6,rfl,A,bY,cw,bA,bS,b9,bQ⟩|⟨a9,ag,an,x,O,aw,be,aZ,rfl,z,b5,cP,bO,bK,cE,cK,cj,bM,cd⟩),J⟩:=AiC (it-1) z1 z2 bl q vl count d aU sub al pl 1 B Ar P V W4 (MS.mv o) (by subst_vars;exact AZ.one ‹_› (by omega))
    ·refine ch J ?_
     exact Aj ⟨[q,d,1],[],[W4],[]⟩ (.inr (.inl (⟨_,_,_,_,rfl,(MS.mv o),(by first|assumption|(subst_vars;exact AZ.one ‹_› (by omega))),kn,kn,kn,kn,kn⟩)))
    ·refine cm J ?_
     refine ch J ?_
     have ⟨_,_,bP,bD,cO,bJ,cz,cq,_,_,_⟩:=A
     exact Aj ⟨[ab,R,aJ],[],[a6],[]⟩ (.inr (.inl (⟨_,_,_,_,rfl,(MS.mv A),(by first|assumption|(subst_vars;exact AZ.one ‹_› (by omega))),kn,kn,kn,kn,kn⟩)))
    refine cm J ?_
    refine cm J ?_
    refine ch J ?_
    have ⟨_,_,cB,bq,bE,cx,ck,bx,_,_,_⟩:=z
    exact Aj ⟨[ag,an,x,O,aw],[],[be,aZ],[]⟩ (.inr (.inr ((⟨a9,_,_,_,_,_,_,_,rfl,(MS.mv z),(by first|assumption|(subst_vars;exact AZ.one ‹_› (by omega))),AE,kn,kn,kn,kn,kn,kn,kn⟩))))
   refine cm G3 ?_
   refine ch G3 ?_
   have ⟨_,_,cn,b4,cb,bt,cG,cA,_,_,_⟩:=j
   refine ll av ac ?_
   refine ll aN ae ?_
   refine ll aK U ?_
   refine ll aO ah ?_
   refine dL [Bh ba 0 a4 a7 a8 aI aH aM aD ax ac 0 0 0 [] 0 ae U ah] (fun W6 e6=>?_)
   have f6:=cL e6;try simp only [lA,lC,lN,lT']at f6
   refine ll 1 W6 ?_
   obtain ⟨_,(rfl|⟨Z,H,aL,aV,rfl,D,cC,cc,bz,cu,bV,bF⟩|⟨aW,aj,aP,y,Q,ao,aX,bc,rfl,C,bG,cD,ct,bZ,bn,bp,cg,b2,bv⟩),N⟩:=AiC (it-1) z1 z2 bl u k c g aU sub al pl 1 B Ar P v W6 (MS.mv j) (by subst_vars;exact AZ.one ‹_› (by omega))
   ·refine ch N ?_
    exact Aj ⟨[u,k,c,g,1],[],[v,W6],[]⟩ (.inr (.inr ((⟨ad,_,_,_,_,_,_,_,rfl,(MS.mv j),(by first|assumption|(subst_vars;exact AZ.one ‹_› (by omega))),AE,kn,kn,kn,kn,kn,kn,kn⟩))))
   ·refine cm N ?_
    refine ch N ?_
    have ⟨_,_,bT,bC,cF,cp,bB,b6,_,_,_⟩:=D
    exact Aj ⟨[Z,k,c,H,aL],[],[v,aV],[]⟩ (.inr (.inr ((⟨ad,_,_,_,_,_,_,_,rfl,(MS.mv D),(by first|assumption|(subst_vars;exact AZ.one ‹_› (by omega))),AE,kn,kn,kn,kn,kn,kn,kn⟩))))
   refine cm N ?_
   refine cm N ?_
   refine ch N ?_
   have ⟨_,_,cI,b3,bN,cJ,bI,cr,_,_,_⟩:=C
   exact Aj ⟨[aj,aP,y,Q,ao],[],[aX,bc],[]⟩ (.inr (.inr ((⟨aW,_,_,_,_,_,_,_,rfl,(MS.mv C),(by first|assumption|(subst_vars;exact AZ.one ‹_› (by omega))),AE,kn,kn,kn,kn,kn,kn,kn⟩))))
  exact Aj v0 (.inl (⟨rfl,kn⟩))
 exact Aj v0 (.inl (⟨rfl,kn⟩))
def AmM (N n:Nat):Prop:=∀{Γ:Ctx} {K M:Int} {y:Ctx} {j:Int} (it z1:Int) (J v:Int) (pos q:Int) (count left:Int) (A sub:Int) (Q pl:Int) (O o:Int) (B D:Rs) (P H:Rs) (V R:Rs) (Z:MS false Γ 3 K M v pos q count left 1 1 B V) (U:AZ 0 0 3 y Γ j left R) (h:it≤10∧o=R.length∧o+it≤20∧0≤o∧it.toNat<n),Ok trees N ⟨[it,z1,J,v,pos,q,count,left,A,sub,Q,pl,O,o],[],[B,D,P,H,V,R],[]⟩ fun z=>(z=(0,v0))∨(∃(c left' d:Int),∃(k:Rs),z=(1,(⟨[c,left',d],[],[k],[]⟩:Ah))∧(MS false Γ 3 K M v c q count left' 1 1 B V)∧(AZ 0 0 3 y Γ j left' k)∧(d=k.length)∧(d≤20)∧(left'≤left)∧(c+300*left'≤pos+300*left)∧(o≤d))∨(∃(C:Ctx),∃(c u g left' d:Int),∃(x k:Rs),z=(2,(⟨[c,u,g,left',d],[],[x,k],[]⟩:Ah))∧(MS false C 3 K M v c u g left' 1 1 B x)∧(AZ 0 0 3 y C j left' k)∧(Ext q V x)∧(count≤g)∧(q≤u)∧(d=k.length)∧(d≤20)∧(left'≤left)∧(c+300*left'≤pos+300*left)∧(o≤d))
def Amq (N:Nat):Prop:=∀{Γ:Ctx} {K M:Int} {y:Ctx} {j:Int} (it z1:Int) (J v:Int) (pos q:Int) (count left:Int) (A sub:Int) (Q pl:Int) (O o:Int) (B D:Rs) (P H:Rs) (V R:Rs) (Z:MS false Γ 3 K M v pos q count left 1 1 B V) (U:AZ 0 0 3 y Γ j left R) (h:it≤10∧o=R.length∧o+it≤20∧0≤o:=by exact kn),Ok trees N ⟨[it,z1,J,v,pos,q,count,left,A,sub,Q,pl,O,o],[],[B,D,P,H,V,R],[]⟩ fun z=>(z=(0,v0))∨(∃(c left' d:Int),∃(k:Rs),z=(1,(⟨[c,left',d],[],[k],[]⟩:Ah))∧(MS false Γ 3 K M v c q count left' 1 1 B V)∧(AZ 0 0 3 y Γ j left' k)∧(d=k.length)∧(d≤20)∧(left'≤left)∧(c+300*left'≤pos+300*left)∧(o≤d))∨(∃(C:Ctx),∃(c u g left' d:Int),∃(x k:Rs),z=(2,(⟨[c,u,g,left',d],[],[x,k],[]⟩:Ah))∧(MS false C 3 K M v c u g left' 1 1 B x)∧(AZ 0 0 3 y C j left' k)∧(Ext q V x)∧(count≤g)∧(q≤u)∧(d=k.length)∧(d≤20)∧(left'≤left)∧(c+300*left'≤pos+300*left)∧(o≤d))
theorem AkB (n:Nat):AmM 75 n:=by
 induction n with
 |zero=>intro Γ K M Γ0 aF it z1 z2 bl pos vl count left ah sub al pl fl rl B Ar P Fs V R hM q h;exact absurd h.2.2.2.2 (Nat.not_lt_zero _)
 |succ n ih=>
 intro Γ K M Γ0 aF it z1 z2 bl pos vl count left ah sub al pl fl rl B Ar P Fs V R hM q h
 have ⟨hm,dc,c7,c9,db,c5,c8,dh,dg,dj,c6⟩:=hM;have ⟨hB,hl,hvl,Hi,hV,hb,hc,hd⟩:=hm;have di:G 3=40:=rfl;have dd:G 2=12:=rfl
 refine .of (t:=AbQ) rfl ?_
 unfold AbQ
 refine gt it 0 (fun t1=>?_) fun t1=>?_
 ·refine gt left 0 (fun t2=>?_) fun t2=>?_
  ·obtain ⟨_,(⟨bp,a8,ba,aG,aH,au,az,aI,aN,aL,aE,aZ,ay,aD,aM,u,d,bb,a0,ax,aq,ak,ao,ac,rfl,o,bw,bA,co,cB,cq,cS,cf⟩|⟨ag,bj,bc,bg,aP,aO,aV,aC,aA,aW,aR,aX,v,k,c,g,bh,aJ,af,ai,aa,an,x,rfl,j,b2,bN,b0,cv,ce,cO,cn,cT,b3,bt⟩),G3⟩:=Re 3 2 1 0 0 bl pos vl count left 1 1 B V (MS.mv hM)
   ·refine ch G3 ?_
    have ⟨_,_,bR,cE,bD,b7,b6,bX,_,_,_⟩:=o
    refine ll aI aq ?_
    refine ll ay ak ?_
    refine ll aD ao ?_
    refine ll aM ac ?_
    refine dL (R++[Bh bp a8 0 ba bb aG aH au a0 az aq aN aL aE ax aZ ak ao ac]) (fun W4 e4=>?_) (BG (pw rl R) pe)
    have f4:=cL e4;try simp only [lA,lC,lN,lT']at f4
    refine F8 (W4.length:Int) 1048576 ?_
    obtain ⟨_,(rfl|⟨ad,Z,aQ,bf,rfl,C,b4,cC,bG,bY,cg,bW⟩|⟨bi,am,av,y,Q,aB,bq,a7,rfl,A,cc,cV,bU,bQ,cK,cR,cr,bS,ck⟩),N⟩:=ih (it-1) z1 z2 bl u vl count d ah sub al pl fl (W4.length:Int) B Ar P Fs V W4 (MS.mv o) (by subst_vars;exact AZ.snoc q ‹_›) kn
    ·refine ch N ?_
     exact Aj ⟨[u,d,(W4.length:Int)],[],[W4],[]⟩ (.inr (.inl (⟨_,_,_,_,rfl,(MS.mv o),(by first|assumption|(subst_vars;exact AZ.snoc q ‹_›)),kn,kn,kn,kn,kn⟩)))
    ·refine cm N ?_
     refine ch N ?_
     have ⟨_,_,bV,bJ,cU,bP,cF,cx,_,_,_⟩:=C
     exact Aj ⟨[ad,Z,aQ],[],[bf],[]⟩ (.inr (.inl (⟨_,_,_,_,rfl,(MS.mv C),(by first|assumption|(subst_vars;exact AZ.snoc q ‹_›)),kn,kn,kn,kn,kn⟩)))
    refine cm N ?_
    refine cm N ?_
    refine ch N ?_
    have ⟨_,_,cH,bz,bK,cD,ct,bE,_,_,_⟩:=A
    exact Aj ⟨[am,av,y,Q,aB],[],[bq,a7],[]⟩ (.inr (.inr ((⟨bi,_,_,_,_,_,_,_,rfl,(MS.mv A),(by first|assumption|(subst_vars;exact AZ.snoc q ‹_›)),AE,kn,kn,kn,kn,kn,kn,kn⟩))))
   refine cm G3 ?_
   refine ch G3 ?_
   have ⟨_,_,cu,cb,ci,bB,cN,cG,_,_,_⟩:=j
   refine ll aA af ?_
   refine ll aW ai ?_
   refine ll aR aa ?_
   refine ll aX an ?_
   refine dL (R++[Bh bj 0 bc bg bh aP aO aV aJ aC af 0 0 0 [] 0 ai aa an]) (fun W6 e6=>?_) (BG (pw rl R) pe)
   have f6:=cL e6;try simp only [lA,lC,lN,lT']at f6
   refine F8 (W6.length:Int) 1048576 ?_
   obtain ⟨_,(rfl|⟨ab,J,aU,a1,rfl,H,cI,cj,bF,cA,b1,bL⟩|⟨a4,ap,aY,z,U,aw,a5,bo,rfl,D,bM,cJ,cz,b5,bv,bx,cp,b8,bC⟩),O⟩:=ih (it-1) z1 z2 bl v k c g ah sub al pl fl (W6.length:Int) B Ar P Fs x W6 (MS.mv j) (by subst_vars;exact AZ.snoc q ‹_›) kn
   ·refine ch O ?_
    exact Aj ⟨[v,k,c,g,(W6.length:Int)],[],[x,W6],[]⟩ (.inr (.inr ((⟨ag,_,_,_,_,_,_,_,rfl,(MS.mv j),(by first|assumption|(subst_vars;exact AZ.snoc q ‹_›)),AE,kn,kn,kn,kn,kn,kn,kn⟩))))
   ·refine cm O ?_
    refine ch O ?_
    have ⟨_,_,bZ,bI,cM,cw,bH,cd,_,_,_⟩:=H
    exact Aj ⟨[ab,k,c,J,aU],[],[x,a1],[]⟩ (.inr (.inr ((⟨ag,_,_,_,_,_,_,_,rfl,(MS.mv H),(by first|assumption|(subst_vars;exact AZ.snoc q ‹_›)),AE,kn,kn,kn,kn,kn,kn,kn⟩))))
   refine cm O ?_
   refine cm O ?_
   refine ch O ?_
   have ⟨_,_,cP,b9,bT,cQ,bO,cy,_,_,_⟩:=D
   exact Aj ⟨[ap,aY,z,U,aw],[],[a5,bo],[]⟩ (.inr (.inr ((⟨a4,_,_,_,_,_,_,_,rfl,(MS.mv D),(by first|assumption|(subst_vars;exact AZ.snoc q ‹_›)),AE,kn,kn,kn,kn,kn,kn,kn⟩))))
  exact Aj v0 (.inl rfl)
 exact Aj v0 (.inl rfl)
theorem Ai4:Amq 75:=fun {Γ} {K} {M} {Γ0} {left0} it z1 z2 bl pos vl count left grp sub al pl fl rl B Ar P Fs V R hM hL h=>AkB (it.toNat+1) it z1 z2 bl pos vl count left grp sub al pl fl rl B Ar P Fs V R hM hL ⟨h.1,h.2.1,h.2.2.1,h.2.2.2,Nat.lt_succ_self _⟩
def Amu (N:Nat):Prop:=∀{Γ:Ctx} {K M:Int} (it z1:Int) (C q:Int) (pos k:Int) (count left:Int) (x sub:Int) (H pl D:Int) (B z:Rs) (P A V:Rs) (J:MS false Γ 3 K M q pos k count left 1 1 B V) (h:it≤10:=by exact kn),Ok trees N ⟨[it,z1,C,q,pos,k,count,left,x,sub,H,pl,D],[],[B,z,P,A,V],[]⟩ fun v=>(v=(0,v0)∧(it≤0∨left≤0))∨(∃(c left' d:Int),∃(j:Rs),v=(1,(⟨[c,left',d],[],[j],[]⟩:Ah))∧(MS false Γ 3 K M q c k count left' 1 1 B V)∧(AZ 0 0 3 Γ Γ left left' j)∧(d=j.length)∧(d≤20)∧(left'≤left)∧(c+300*left'≤pos+300*left)∧(1≤d))∨(∃(y:Ctx),∃(c o g left' d:Int),∃(u j:Rs),v=(2,(⟨[c,o,g,left',d],[],[u,j],[]⟩:Ah))∧(MS false y 3 K M q c o g left' 1 1 B u)∧(AZ 0 0 3 Γ y left left' j)∧(Ext k V u)∧(count≤g)∧(k≤o)∧(d=j.length)∧(d≤20)∧(left'≤left)∧(c+300*left'≤pos+300*left)∧(1≤d))
theorem Ai5:Amu 68:=by
 intro Γ K M it z1 z2 bl pos vl count left aU sub al pl fl B Ar P Fs V hM h
 have ⟨hm,c6,c2,c4,c5,cZ,c3,c9,c8,dc,c1⟩:=hM;have ⟨hB,hl,hvl,Hi,hV,hb,hc,hd⟩:=hm;have db:G 3=40:=rfl;have c7:G 2=12:=rfl
 refine .of (t:=AbU) rfl ?_
 unfold AbU
 refine gt it 0 (fun t1=>?_) fun t1=>?_
 ·refine gt left 0 (fun t2=>?_) fun t2=>?_
  ·obtain ⟨_,(⟨bd,a0,a1,aA,aB,am,au,aC,aG,aE,az,aQ,aq,ay,aF,q,d,a2,aR,ap,ak,af,ai,aa,rfl,o,bq,bv,ci,cx,ck,cO,cb⟩|⟨ad,ba,a4,a7,aI,aH,aM,ax,av,aN,aK,aO,u,k,c,g,a8,aD,ac,ae,U,ah,v,rfl,j,bY,bJ,bW,cq,b9,cJ,cg,cP,bZ,bh⟩),G3⟩:=Re 3 2 1 0 0 bl pos vl count left 1 1 B V (MS.mv hM)
   ·refine ch G3 ?_
    have ⟨_,_,bN,cA,bz,b3,b2,bT,_,_,_⟩:=o
    refine ll aC ak ?_
    refine ll aq af ?_
    refine ll ay ai ?_
    refine ll aF aa ?_
    refine dL [Bh bd a0 0 a1 a2 aA aB am aR au ak aG aE az ap aQ af ai aa] (fun W4 e4=>?_)
    have f4:=cL e4;try simp only [lA,lC,lN,lT']at f4
    refine ll 1 W4 ?_
    obtain ⟨_,(rfl|⟨ab,R,aJ,a6,rfl,A,b0,cy,bC,bU,cc,bS⟩|⟨a9,ag,an,x,O,aw,be,aZ,rfl,z,b7,cR,bQ,bM,cG,cN,cn,bO,cf⟩),J⟩:=Ai4 (it-1) z1 z2 bl q vl count d aU sub al pl fl 1 B Ar P Fs V W4 (MS.mv o) (by subst_vars;exact AZ.one ‹_› (by omega))
    ·refine ch J ?_
     exact Aj ⟨[q,d,1],[],[W4],[]⟩ (.inr (.inl (⟨_,_,_,_,rfl,(MS.mv o),(by first|assumption|(subst_vars;exact AZ.one ‹_› (by omega))),kn,kn,kn,kn,kn⟩)))
    ·refine cm J ?_
     refine ch J ?_
     have ⟨_,_,bR,bF,cQ,bL,cB,ct,_,_,_⟩:=A
     exact Aj ⟨[ab,R,aJ],[],[a6],[]⟩ (.inr (.inl (⟨_,_,_,_,rfl,(MS.mv A),(by first|assumption|(subst_vars;exact AZ.one ‹_› (by omega))),kn,kn,kn,kn,kn⟩)))
    refine cm J ?_
    refine cm J ?_
    refine ch J ?_
    have ⟨_,_,cD,bt,bG,cz,co,bA,_,_,_⟩:=z
    exact Aj ⟨[ag,an,x,O,aw],[],[be,aZ],[]⟩ (.inr (.inr ((⟨a9,_,_,_,_,_,_,_,rfl,(MS.mv z),(by first|assumption|(subst_vars;exact AZ.one ‹_› (by omega))),AE,kn,kn,kn,kn,kn,kn,kn⟩))))
   refine cm G3 ?_
   refine ch G3 ?_
   have ⟨_,_,cp,b6,cd,bw,cI,cC,_,_,_⟩:=j
   refine ll av ac ?_
   refine ll aN ae ?_
   refine ll aK U ?_
   refine ll aO ah ?_
   refine dL [Bh ba 0 a4 a7 a8 aI aH aM aD ax ac 0 0 0 [] 0 ae U ah] (fun W6 e6=>?_)
   have f6:=cL e6;try simp only [lA,lC,lN,lT']at f6
   refine ll 1 W6 ?_
   obtain ⟨_,(rfl|⟨Z,H,aL,aV,rfl,D,cE,ce,bB,cw,bX,bH⟩|⟨aW,aj,aP,y,Q,ao,aX,bc,rfl,C,bI,cF,cv,b1,bp,br,cj,b4,bx⟩),N⟩:=Ai4 (it-1) z1 z2 bl u k c g aU sub al pl fl 1 B Ar P Fs v W6 (MS.mv j) (by subst_vars;exact AZ.one ‹_› (by omega))
   ·refine ch N ?_
    exact Aj ⟨[u,k,c,g,1],[],[v,W6],[]⟩ (.inr (.inr ((⟨ad,_,_,_,_,_,_,_,rfl,(MS.mv j),(by first|assumption|(subst_vars;exact AZ.one ‹_› (by omega))),AE,kn,kn,kn,kn,kn,kn,kn⟩))))
   ·refine cm N ?_
    refine ch N ?_
    have ⟨_,_,bV,bE,cH,cr,bD,b8,_,_,_⟩:=D
    exact Aj ⟨[Z,k,c,H,aL],[],[v,aV],[]⟩ (.inr (.inr ((⟨ad,_,_,_,_,_,_,_,rfl,(MS.mv D),(by first|assumption|(subst_vars;exact AZ.one ‹_› (by omega))),AE,kn,kn,kn,kn,kn,kn,kn⟩))))
   refine cm N ?_
   refine cm N ?_
   refine ch N ?_
   have ⟨_,_,cK,b5,bP,cM,bK,cu,_,_,_⟩:=C
   exact Aj ⟨[aj,aP,y,Q,ao],[],[aX,bc],[]⟩ (.inr (.inr ((⟨aW,_,_,_,_,_,_,_,rfl,(MS.mv C),(by first|assumption|(subst_vars;exact AZ.one ‹_› (by omega))),AE,kn,kn,kn,kn,kn,kn,kn⟩))))
  exact Aj v0 (.inl (⟨rfl,kn⟩))
 exact Aj v0 (.inl (⟨rfl,kn⟩))
end Go.Proofs.YtbmofjdmgjpfoaaGreatDoor.Am
end
