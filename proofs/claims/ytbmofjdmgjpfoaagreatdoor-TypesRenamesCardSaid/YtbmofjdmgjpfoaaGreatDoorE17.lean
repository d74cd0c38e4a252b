/- Part 17 of the proof of TypesRenames. -/
import Derived.Test.YtbmofjdmgjpfoaaGreatDoorE11
import Derived.Test.YtbmofjdmgjpfoaaGreatDoorE16
set_option linter.all false
section
set_option maxHeartbeats 4000000
set_option maxRecDepth 100000
namespace Go.Proofs.YtbmofjdmgjpfoaaGreatDoor.Am
open Go.AM Go.AM.K
def K_5 (N:Nat):Prop:=∀{d:Int} {B:Rs} (hB:Dy B) (hl:d=B.length) (pos count:Int) (left call loads:Int) (h:0≤pos∧pos≤1000000:=by exact kn),Ok trees N ⟨[d,pos,count,left,call,loads],[],[B],[]⟩ fun g=>(∃(r c:Int),g=(0,(⟨[r,c],[],[],[]⟩:Ah))∧(c=pos+1)∧(0≤r)∧(r≤255))
theorem c_5:K_5 5:=by
 intro d B hB hl pos count left call j h
 refine .of (t:=t_5) rfl ?_
 unfold t_5
 refine gt (pos+1) d (fun o=>?_) fun o=>?_
 ·exact Ai ⟨[0,(pos+1)],[],[],[]⟩ (⟨_,_,rfl,kn,kn,kn⟩)
 refine CG ((pos+1)-1) 0 ?_
 refine B9 ((pos+1)-1) d ?_
 obtain ⟨g,c,u,k⟩:=Qh hB ((pos+1)-1) om om
 refine el c ?_
 exact Ai ⟨[g,(pos+1)],[],[],[]⟩ (⟨_,_,rfl,kn,kn,kn⟩)
def AqC (N n:Nat):Prop:=∀{Γ:Ctx} {K M:Int} {z:Ctx} {k:Int} (it bl:Int) (pos x:Int) (count left:Int) (call g:Int) (O U:Int) (X z4:Int) (Q pl:Int) (Z u:Int) (p4 p5:Int) (H J:Int) (B P:Rs) (V R:Rs) (hM:MS false Γ 2 K M bl pos x count left call g B V) (hL:AT 0 1 2 z Γ k left R) (h:it≤10∧u=R.length∧u+it≤20∧0≤u∧it.toNat<n),Ok trees N ⟨[it,bl,pos,x,count,left,call,g,O,U,X,z4,Q,pl,Z,u,p4,p5,H,J],[],[B,P,V,R],[]⟩ fun C=>(C=(0,v0))∨(∃(c left' d:Int),∃(o:Rs),C=(1,(⟨[c,left',d],[],[o],[]⟩:Ah))∧(MS false Γ 2 K M bl c x count left' call g B V)∧(AT 0 1 2 z Γ k left' o)∧(d=o.length)∧(d≤20)∧(left'≤left)∧(c+300*left'≤pos+300*left)∧(u≤d))∨(∃(D:Ctx),∃(c y j left' d:Int),∃(A o:Rs),C=(2,(⟨[c,y,j,left',d],[],[A,o],[]⟩:Ah))∧(MS false D 2 K M bl c y j left' call g B A)∧(AT 0 1 2 z D k left' o)∧(Ext x V A)∧(count≤j)∧(x≤y)∧(d=o.length)∧(d≤20)∧(left'≤left)∧(c+300*left'≤pos+300*left)∧(u≤d))
def ApX (N:Nat):Prop:=∀{Γ:Ctx} {K M:Int} {z:Ctx} {k:Int} (it bl:Int) (pos x:Int) (count left:Int) (call g:Int) (O U:Int) (X z4:Int) (Q pl:Int) (Z u:Int) (p4 p5:Int) (H J:Int) (B P:Rs) (V R:Rs) (hM:MS false Γ 2 K M bl pos x count left call g B V) (hL:AT 0 1 2 z Γ k left R) (h:it≤10∧u=R.length∧u+it≤20∧0≤u:=by exact kn),Ok trees N ⟨[it,bl,pos,x,count,left,call,g,O,U,X,z4,Q,pl,Z,u,p4,p5,H,J],[],[B,P,V,R],[]⟩ fun C=>(C=(0,v0))∨(∃(c left' d:Int),∃(o:Rs),C=(1,(⟨[c,left',d],[],[o],[]⟩:Ah))∧(MS false Γ 2 K M bl c x count left' call g B V)∧(AT 0 1 2 z Γ k left' o)∧(d=o.length)∧(d≤20)∧(left'≤left)∧(c+300*left'≤pos+300*left)∧(u≤d))∨(∃(D:Ctx),∃(c y j left' d:Int),∃(A o:Rs),C=(2,(⟨[c,y,j,left',d],[],[A,o],[]⟩:Ah))∧(MS false D 2 K M bl c y j left' call g B A)∧(AT 0 1 2 z D k left' o)∧(Ext x V A)∧(count≤j)∧(x≤y)∧(d=o.length)∧(d≤20)∧(left'≤left)∧(c+300*left'≤pos+300*left)∧(u≤d))
theorem Aof (n:Nat):AqC 77 n:=by
 induction n with
 |zero=>intro Γ K M Γ0 aw it bl pos vl count left call d z1 z2 z3 z4 z5 pl p2 rl p4 p5 p6 p8 B P V R hM u h;exact absurd h.2.2.2.2 (Nat.not_lt_zero _)
 |succ n ih=>
 intro Γ K M Γ0 aw it bl pos vl count left call d z1 z2 z3 z4 z5 pl p2 rl p4 p5 p6 p8 B P V R hM u h
 have ⟨hm,dj,dk,dg,dt,dh,dl,dc,di,dp,db⟩:=hM;have ⟨hB,hl,hvl,H6,hV,hb,hc,hd⟩:=hm;have dd:G 3=40:=rfl;have du:G 2=12:=rfl
 refine .of (t:=AdN) rfl ?_
 unfold AdN
 refine gt it 0 (fun t1=>?_) fun t1=>?_
 ·refine gt left 0 (fun t2=>?_) fun t2=>?_
  ·obtain ⟨_,(⟨a9,bk,a3,aU,aW,aG,aC,aV,aQ,aB,a0,ax,aK,aD,aF,z,g,bq,aI,ay,ae,ap,ad,ai,rfl,k,bV,cQ,cX,cM,cV,bA,cD⟩|⟨af,bn,a1,a4,aE,aX,aN,aZ,aH,az,aJ,aO,y,o,c,j,a8,av,aq,aj,an,ak,D,rfl,x,cf,bF,b2,cR,cP,b6,cJ,bB,bL,bz⟩),G3⟩:=Sb 2 1 0 0 1 bl pos vl count left call d B V (MS.mv hM)
   ·refine ch G3 ?_
    have ⟨_,_,cA,b7,b8,cK,cq,cF,_,_,_⟩:=k
    refine ll aV ae ?_
    refine ll aK ap ?_
    refine ll aD ad ?_
    refine ll aF ai ?_
    refine dL (R++[AZ a9 bk 0 a3 bq aU aW aG aI aC ae aQ aB a0 ay ax ap ad ai]) (fun W4 e4=>?_) (BC (pw rl R) pe)
    have f4:=cL e4;try simp only [lA,lC,lN,lT']at f4
    refine FM (W4.length:Int) 1048576 ?_
    obtain ⟨_,(rfl|⟨al,Z,aR,bx,rfl,H,cr,cO,cw,ci,bZ,co⟩|⟨bp,ao,aM,A,aa,au,bo,bb,rfl,J,cn,cS,bI,cc,bE,c1,bX,b4,bG⟩),U⟩:=ih (it-1) bl z vl count g call d z1 z2 z3 z4 z5 pl p2 (W4.length:Int) p4 p5 p6 p8 B P V W4 (MS.mv k) (by subst_vars;exact AT.snoc u ‹_›) kn
    ·refine ch U ?_
     exact Ai ⟨[z,g,(W4.length:Int)],[],[W4],[]⟩ (.inr (.inl (⟨_,_,_,_,rfl,(MS.mv k),(by first|assumption|(subst_vars;exact AT.snoc u ‹_›)),kn,kn,kn,kn,kn⟩)))
    ·refine cm U ?_
     refine ch U ?_
     have ⟨_,_,bH,cU,bK,b3,bJ,bC,_,_,_⟩:=H
     exact Ai ⟨[al,Z,aR],[],[bx],[]⟩ (.inr (.inl (⟨_,_,_,_,rfl,(MS.mv H),(by first|assumption|(subst_vars;exact AT.snoc u ‹_›)),kn,kn,kn,kn,kn⟩)))
    refine cm U ?_
    refine cm U ?_
    refine ch U ?_
    have ⟨_,_,cu,cG,cj,cd,cx,bD,_,_,_⟩:=J
    exact Ai ⟨[ao,aM,A,aa,au],[],[bo,bb],[]⟩ (.inr (.inr ((⟨bp,_,_,_,_,_,_,_,rfl,(MS.mv J),(by first|assumption|(subst_vars;exact AT.snoc u ‹_›)),AA,kn,kn,kn,kn,kn,kn,kn⟩))))
   refine cm G3 ?_
   refine ch G3 ?_
   have ⟨_,_,cT,cC,bY,bW,bU,cI,_,_,_⟩:=x
   refine ll aH aq ?_
   refine ll az aj ?_
   refine ll aJ an ?_
   refine ll aO ak ?_
   refine dL (R++[AZ bn 0 a1 a4 a8 aE aX aN av aZ aq 0 0 0 [] 0 aj an ak]) (fun W6 e6=>?_) (BC (pw rl R) pe)
   have f6:=cL e6;try simp only [lA,lC,lN,lT']at f6
   refine FM (W6.length:Int) 1048576 ?_
   obtain ⟨_,(rfl|⟨ag,ab,aA,bw,rfl,N,bQ,ct,cN,b9,cY,bN⟩|⟨bh,ah,aY,C,X,aL,br,a5,rfl,O,cW,cH,bP,bS,b0,cg,cz,cv,bM⟩),Q⟩:=ih (it-1) bl y o c j call d z1 z2 z3 z4 z5 pl p2 (W6.length:Int) p4 p5 p6 p8 B P D W6 (MS.mv x) (by subst_vars;exact AT.snoc u ‹_›) kn
   ·refine ch Q ?_
    exact Ai ⟨[y,o,c,j,(W6.length:Int)],[],[D,W6],[]⟩ (.inr (.inr ((⟨af,_,_,_,_,_,_,_,rfl,(MS.mv x),(by first|assumption|(subst_vars;exact AT.snoc u ‹_›)),AA,kn,kn,kn,kn,kn,kn,kn⟩))))
   ·refine cm Q ?_
    refine ch Q ?_
    have ⟨_,_,bO,cZ,cy,cp,cb,cE,_,_,_⟩:=N
    exact Ai ⟨[ag,o,c,ab,aA],[],[D,bw],[]⟩ (.inr (.inr ((⟨af,_,_,_,_,_,_,_,rfl,(MS.mv N),(by first|assumption|(subst_vars;exact AT.snoc u ‹_›)),AA,kn,kn,kn,kn,kn,kn,kn⟩))))
   refine cm Q ?_
   refine cm Q ?_
   refine ch Q ?_
   have ⟨_,_,b1,bR,ce,bT,b5,cB,_,_,_⟩:=O
   exact Ai ⟨[ah,aY,C,X,aL],[],[br,a5],[]⟩ (.inr (.inr ((⟨bh,_,_,_,_,_,_,_,rfl,(MS.mv O),(by first|assumption|(subst_vars;exact AT.snoc u ‹_›)),AA,kn,kn,kn,kn,kn,kn,kn⟩))))
  exact Ai v0 (.inl rfl)
 exact Ai v0 (.inl rfl)
theorem AlX:ApX 77:=fun {Γ} {K} {M} {Γ0} {left0} it bl pos vl count left call loads z1 z2 z3 z4 z5 pl p2 rl p4 p5 p6 p8 B P V R hM hL h=>Aof (it.toNat+1) it bl pos vl count left call loads z1 z2 z3 z4 z5 pl p2 rl p4 p5 p6 p8 B P V R hM hL ⟨h.1,h.2.1,h.2.2.1,h.2.2.2,Nat.lt_succ_self _⟩
def AqM (N n:Nat):Prop:=∀{Γ:Ctx} {K M:Int} {z:Ctx} {k:Int} (it bl:Int) (pos x:Int) (count left:Int) (call g:Int) (O U:Int) (X z4:Int) (Q pl:Int) (Z u:Int) (p4 p5:Int) (H J:Int) (B V:Rs) (P R:Rs) (hM:MS true Γ 2 K M bl pos x count left call g B V) (hL:AT 0 1 2 z Γ k left R) (h:it≤10∧u=R.length∧u+it≤20∧0≤u∧it.toNat<n),Ok trees N ⟨[it,bl,pos,x,count,left,call,g,O,U,X,z4,Q,pl,Z,u,p4,p5,H,J],[],[B,V,P,R],[]⟩ fun C=>(C=(0,v0))∨(∃(c left' d:Int),∃(o:Rs),C=(1,(⟨[c,left',d],[],[o],[]⟩:Ah))∧(MS true Γ 2 K M bl c x count left' call g B V)∧(AT 0 1 2 z Γ k left' o)∧(d=o.length)∧(d≤20)∧(left'≤left)∧(c+300*left'≤pos+300*left)∧(u≤d))∨(∃(D:Ctx),∃(c y j left' d:Int),∃(A o:Rs),C=(2,(⟨[c,y,j,left',d],[],[A,o],[]⟩:Ah))∧(MS false D 2 K M bl c y j left' call g B A)∧(AT 0 1 2 z D k left' o)∧(Ext x V A)∧(count≤j)∧(x≤y)∧(d=o.length)∧(d≤20)∧(left'≤left)∧(c+300*left'≤pos+300*left)∧(u≤d))
def Aqz (N:Nat):Prop:=∀{Γ:Ctx} {K M:Int} {z:Ctx} {k:Int} (it bl:Int) (pos x:Int) (count left:Int) (call g:Int) (O U:Int) (X z4:Int) (Q pl:Int) (Z u:Int) (p4 p5:Int) (H J:Int) (B V:Rs) (P R:Rs) (hM:MS true Γ 2 K M bl pos x count left call g B V) (hL:AT 0 1 2 z Γ k left R) (h:it≤10∧u=R.length∧u+it≤20∧0≤u:=by exact kn),Ok trees N ⟨[it,bl,pos,x,count,left,call,g,O,U,X,z4,Q,pl,Z,u,p4,p5,H,J],[],[B,V,P,R],[]⟩ fun C=>(C=(0,v0))∨(∃(c left' d:Int),∃(o:Rs),C=(1,(⟨[c,left',d],[],[o],[]⟩:Ah))∧(MS true Γ 2 K M bl c x count left' call g B V)∧(AT 0 1 2 z Γ k left' o)∧(d=o.length)∧(d≤20)∧(left'≤left)∧(c+300*left'≤pos+300*left)∧(u≤d))∨(∃(D:Ctx),∃(c y j left' d:Int),∃(A o:Rs),C=(2,(⟨[c,y,j,left',d],[],[A,o],[]⟩:Ah))∧(MS false D 2 K M bl c y j left' call g B A)∧(AT 0 1 2 z D k left' o)∧(Ext x V A)∧(count≤j)∧(x≤y)∧(d=o.length)∧(d≤20)∧(left'≤left)∧(c+300*left'≤pos+300*left)∧(u≤d))
theorem Ae1 (n:Nat):AqM 43 n:=by
 induction n with
 |zero=>intro Γ K M Γ0 aw it bl pos vl count left call d z1 z2 z3 z4 z5 pl p2 rl p4 p5 p6 p8 B V P R hM u h;exact absurd h.2.2.2.2 (Nat.not_lt_zero _)
 |succ n ih=>
 intro Γ K M Γ0 aw it bl pos vl count left call d z1 z2 z3 z4 z5 pl p2 rl p4 p5 p6 p8 B V P R hM u h
 have ⟨hm,dj,dk,dg,dt,dh,dl,dc,di,dp,db⟩:=hM;have ⟨hB,hl,hvl,H6,hV,hb,hc,hd⟩:=hm;have dd:G 3=40:=rfl;have du:G 2=12:=rfl
 refine .of (t:=Aek) rfl ?_
 unfold Aek
 refine gt it 0 (fun t1=>?_) fun t1=>?_
 ·refine gt left 0 (fun t2=>?_) fun t2=>?_
  ·obtain ⟨_,(⟨a9,bk,a3,aU,aW,aG,aC,aV,aQ,aB,a0,ax,aK,aD,aF,z,g,bq,aI,ay,ae,ap,ad,ai,rfl,k,bV,cQ,cX,cM,cV,bA,cD⟩|⟨af,bn,a1,a4,aE,aX,aN,aZ,aH,az,aJ,aO,y,o,c,j,a8,av,aq,aj,an,ak,D,rfl,x,cf,bF,b2,cR,cP,b6,cJ,bB,bL,bz⟩),G3⟩:=Amx 2 1 0 0 1 bl pos vl count left call d B V (MS.mv hM)
   ·refine ch G3 ?_
    have ⟨_,_,cA,b7,b8,cK,cq,cF,_,_,_⟩:=k
    refine ll aV ae ?_
    refine ll aK ap ?_
    refine ll aD ad ?_
    refine ll aF ai ?_
    refine dL (R++[AZ a9 bk 0 a3 bq aU aW aG aI aC ae aQ aB a0 ay ax ap ad ai]) (fun W4 e4=>?_) (BC (pw rl R) pe)
    have f4:=cL e4;try simp only [lA,lC,lN,lT']at f4
    refine FM (W4.length:Int) 1048576 ?_
    obtain ⟨_,(rfl|⟨al,Z,aR,bx,rfl,H,cr,cO,cw,ci,bZ,co⟩|⟨bp,ao,aM,A,aa,au,bo,bb,rfl,J,cn,cS,bI,cc,bE,c1,bX,b4,bG⟩),U⟩:=ih (it-1) bl z vl count g call d z1 z2 z3 z4 z5 pl p2 (W4.length:Int) p4 p5 p6 p8 B V P W4 (MS.mv k) (by subst_vars;exact AT.snoc u ‹_›) kn
    ·refine ch U ?_
     exact Ai ⟨[z,g,(W4.length:Int)],[],[W4],[]⟩ (.inr (.inl (⟨_,_,_,_,rfl,(MS.mv k),(by first|assumption|(subst_vars;exact AT.snoc u ‹_›)),kn,kn,kn,kn,kn⟩)))
    ·refine cm U ?_
     refine ch U ?_
     have ⟨_,_,bH,cU,bK,b3,bJ,bC,_,_,_⟩:=H
     exact Ai ⟨[al,Z,aR],[],[bx],[]⟩ (.inr (.inl (⟨_,_,_,_,rfl,(MS.mv H),(by first|assumption|(subst_vars;exact AT.snoc u ‹_›)),kn,kn,kn,kn,kn⟩)))
    refine cm U ?_
    refine cm U ?_
    refine ch U ?_
    have ⟨_,_,cu,cG,cj,cd,cx,bD,_,_,_⟩:=J
    exact Ai ⟨[ao,aM,A,aa,au],[],[bo,bb],[]⟩ (.inr (.inr ((⟨bp,_,_,_,_,_,_,_,rfl,(MS.mv J),(by first|assumption|(subst_vars;exact AT.snoc u ‹_›)),AA,kn,kn,kn,kn,kn,kn,kn⟩))))
   refine cm G3 ?_
   refine ch G3 ?_
   have ⟨_,_,cT,cC,bY,bW,bU,cI,_,_,_⟩:=x
   refine ll aH aq ?_
   refine ll az aj ?_
   refine ll aJ an ?_
   refine ll aO ak ?_
   refine dL (R++[AZ bn 0 a1 a4 a8 aE aX aN av aZ aq 0 0 0 [] 0 aj an ak]) (fun W6 e6=>?_) (BC (pw rl R) pe)
   have f6:=cL e6;try simp only [lA,lC,lN,lT']at f6
   refine FM (W6.length:Int) 1048576 ?_
   obtain ⟨_,(rfl|⟨ag,ab,aA,bw,rfl,N,bQ,ct,cN,b9,cY,bN⟩|⟨bh,ah,aY,C,X,aL,br,a5,rfl,O,cW,cH,bP,bS,b0,cg,cz,cv,bM⟩),Q⟩:=AlX (it-1) bl y o c j call d z1 z2 z3 z4 z5 pl p2 (W6.length:Int) p4 p5 p6 p8 B P D W6 (MS.mv x) (by subst_vars;exact AT.snoc u ‹_›)
   ·refine ch Q ?_
    exact Ai ⟨[y,o,c,j,(W6.length:Int)],[],[D,W6],[]⟩ (.inr (.inr ((⟨af,_,_,_,_,_,_,_,rfl,(MS.mv x),(by first|assumption|(subst_vars;exact AT.snoc u ‹_›)),AA,kn,kn,kn,kn,kn,kn,kn⟩))))
   ·refine cm Q ?_
    refine ch Q ?_
    have ⟨_,_,bO,cZ,cy,cp,cb,cE,_,_,_⟩:=N
    exact Ai ⟨[ag,o,c,ab,aA],[],[D,bw],[]⟩ (.inr (.inr ((⟨af,_,_,_,_,_,_,_,rfl,(MS.mv N),(by first|assumption|(subst_vars;exact AT.snoc u ‹_›)),AA,kn,kn,kn,kn,kn,kn,kn⟩))))
   refine cm Q ?_
   refine cm Q ?_
   refine ch Q ?_
   have ⟨_,_,b1,bR,ce,bT,b5,cB,_,_,_⟩:=O
   exact Ai ⟨[ah,aY,C,X,aL],[],[br,a5],[]⟩ (.inr (.inr ((⟨bh,_,_,_,_,_,_,_,rfl,(MS.mv O),(by first|assumption|(subst_vars;exact AT.snoc u ‹_›)),AA,kn,kn,kn,kn,kn,kn,kn⟩))))
  exact Ai v0 (.inl rfl)
 exact Ai v0 (.inl rfl)
theorem Apj:Aqz 43:=fun {Γ} {K} {M} {Γ0} {left0} it bl pos vl count left call loads z1 z2 z3 z4 z5 pl p2 rl p4 p5 p6 p8 B V P R hM hL h=>Ae1 (it.toNat+1) it bl pos vl count left call loads z1 z2 z3 z4 z5 pl p2 rl p4 p5 p6 p8 B V P R hM hL ⟨h.1,h.2.1,h.2.2.1,h.2.2.2,Nat.lt_succ_self _⟩
def Aq3 (N:Nat):Prop:=∀{Γ:Ctx} {K M:Int} (it bl:Int) (pos u:Int) (count left:Int) (call g:Int) (O A:Int) (C R:Int) (Q pl:Int) (H U:Int) (X D J:Int) (B V P:Rs) (Z:MS true Γ 2 K M bl pos u count left call g B V) (h:it≤10:=by exact kn),Ok trees N ⟨[it,bl,pos,u,count,left,call,g,O,A,C,R,Q,pl,H,U,X,D,J],[],[B,V,P],[]⟩ fun y=>(y=(0,v0)∧(it≤0∨left≤0))∨(∃(c left' d:Int),∃(k:Rs),y=(1,(⟨[c,left',d],[],[k],[]⟩:Ah))∧(MS true Γ 2 K M bl c u count left' call g B V)∧(AT 0 1 2 Γ Γ left left' k)∧(d=k.length)∧(d≤20)∧(left'≤left)∧(c+300*left'≤pos+300*left)∧(1≤d))∨(∃(z:Ctx),∃(c o j left' d:Int),∃(x k:Rs),y=(2,(⟨[c,o,j,left',d],[],[x,k],[]⟩:Ah))∧(MS false z 2 K M bl c o j left' call g B x)∧(AT 0 1 2 Γ z left left' k)∧(Ext u V x)∧(count≤j)∧(u≤o)∧(d=k.length)∧(d≤20)∧(left'≤left)∧(c+300*left'≤pos+300*left)∧(1≤d))
theorem Ap2:Aq3 11:=by
 intro Γ K M it bl pos vl count left call k z1 z2 z3 z4 z5 pl p2 p4 p5 p6 p8 B V P hM h
 have ⟨hm,dc,dd,c8,di,c9,dg,c6,db,dh,c5⟩:=hM;have ⟨hB,hl,hvl,H6,hV,hb,hc,hd⟩:=hm;have c7:G 3=40:=rfl;have dj:G 2=12:=rfl
 refine .of (t:=Aes) rfl ?_
 unfold Aes
 refine gt it 0 (fun t1=>?_) fun t1=>?_
 ·refine gt left 0 (fun t2=>?_) fun t2=>?_
  ·obtain ⟨_,(⟨a1,a5,aX,aM,aO,aB,ax,aN,aK,aw,aU,ap,aF,ay,aA,y,d,bb,aD,aq,ab,al,aa,af,rfl,j,bR,cM,cT,cH,cR,bv,cz⟩|⟨ac,a7,aV,aY,az,aP,aI,aR,aC,au,aE,aJ,x,o,c,g,a0,ao,am,ag,aj,ah,C,rfl,u,cb,bC,bY,cN,cK,b2,cF,bw,bH,br⟩),G3⟩:=Amx 2 1 0 0 1 bl pos vl count left call k B V (MS.mv hM)
   ·refine ch G3 ?_
    have ⟨_,_,cw,b3,b4,cG,cj,cB,_,_,_⟩:=j
    refine ll aN ab ?_
    refine ll aF al ?_
    refine ll ay aa ?_
    refine ll aA af ?_
    refine dL [AZ a1 a5 0 aX bb aM aO aB aD ax ab aK aw aU aq ap al aa af] (fun W4 e4=>?_)
    have f4:=cL e4;try simp only [lA,lC,lN,lT']at f4
    refine ll 1 W4 ?_
    obtain ⟨_,(rfl|⟨ai,U,aL,be,rfl,D,cn,cJ,cr,cd,bV,cg⟩|⟨ba,ak,aH,z,X,an,a9,a2,rfl,H,cf,cO,bE,b7,bA,cW,bT,b0,bB⟩),Q⟩:=Apj (it-1) bl y vl count d call k z1 z2 z3 z4 z5 pl p2 1 p4 p5 p6 p8 B V P W4 (MS.mv j) (by subst_vars;exact AT.one ‹_› om)
    ·refine ch Q ?_
     exact Ai ⟨[y,d,1],[],[W4],[]⟩ (.inr (.inl (⟨_,_,_,_,rfl,(MS.mv j),(by first|assumption|(subst_vars;exact AT.one ‹_› om)),kn,kn,kn,kn,kn⟩)))
    ·refine cm Q ?_
     refine ch Q ?_
     have ⟨_,_,bD,cQ,bG,bZ,bF,bx,_,_,_⟩:=D
     exact Ai ⟨[ai,U,aL],[],[be],[]⟩ (.inr (.inl (⟨_,_,_,_,rfl,(MS.mv D),(by first|assumption|(subst_vars;exact AT.one ‹_› om)),kn,kn,kn,kn,kn⟩)))
    refine cm Q ?_
    refine cm Q ?_
    refine ch Q ?_
    have ⟨_,_,cp,cC,ce,b8,ct,bz,_,_,_⟩:=H
    exact Ai ⟨[ak,aH,z,X,an],[],[a9,a2],[]⟩ (.inr (.inr ((⟨ba,_,_,_,_,_,_,_,rfl,(MS.mv H),(by first|assumption|(subst_vars;exact AT.one ‹_› om)),AA,kn,kn,kn,kn,kn,kn,kn⟩))))
   refine cm G3 ?_
   refine ch G3 ?_
   have ⟨_,_,cP,cy,bU,bS,bQ,cE,_,_,_⟩:=u
   refine ll aC am ?_
   refine ll au ag ?_
   refine ll aE aj ?_
   refine ll aJ ah ?_
   refine dL [AZ a7 0 aV aY a0 az aP aI ao aR am 0 0 0 [] 0 ag aj ah] (fun W6 e6=>?_)
   have f6:=cL e6;try simp only [lA,lC,lN,lT']at f6
   refine ll 1 W6 ?_
   obtain ⟨_,(rfl|⟨ad,Z,av,bd,rfl,J,bM,co,cI,b5,cU,bJ⟩|⟨a4,ae,aQ,A,R,aG,bc,aZ,rfl,N,cS,cD,bL,bO,bW,cc,cv,cq,bI⟩),O⟩:=AlX (it-1) bl x o c g call k z1 z2 z3 z4 z5 pl p2 1 p4 p5 p6 p8 B P C W6 (MS.mv u) (by subst_vars;exact AT.one ‹_› om)
   ·refine ch O ?_
    exact Ai ⟨[x,o,c,g,1],[],[C,W6],[]⟩ (.inr (.inr ((⟨ac,_,_,_,_,_,_,_,rfl,(MS.mv u),(by first|assumption|(subst_vars;exact AT.one ‹_› om)),AA,kn,kn,kn,kn,kn,kn,kn⟩))))
   ·refine cm O ?_
    refine ch O ?_
    have ⟨_,_,bK,cV,cu,ci,b6,cA,_,_,_⟩:=J
    exact Ai ⟨[ad,o,c,Z,av],[],[C,bd],[]⟩ (.inr (.inr ((⟨ac,_,_,_,_,_,_,_,rfl,(MS.mv J),(by first|assumption|(subst_vars;exact AT.one ‹_› om)),AA,kn,kn,kn,kn,kn,kn,kn⟩))))
   refine cm O ?_
   refine cm O ?_
   refine ch O ?_
   have ⟨_,_,bX,bN,b9,bP,b1,cx,_,_,_⟩:=N
   exact Ai ⟨[ae,aQ,A,R,aG],[],[bc,aZ],[]⟩ (.inr (.inr ((⟨a4,_,_,_,_,_,_,_,rfl,(MS.mv N),(by first|assumption|(subst_vars;exact AT.one ‹_› om)),AA,kn,kn,kn,kn,kn,kn,kn⟩))))
  exact Ai v0 (.inl (⟨rfl,kn⟩))
 exact Ai v0 (.inl (⟨rfl,kn⟩))
def K_7 (N:Nat):Prop:=∀{H:Int} {B:Rs} (hB:Dy B) (hl:H=B.length) (pos count:Int) (left call loads:Int) (h:0≤pos∧pos≤100∧count=0∧call=0∧loads=0:=by exact kn),Ok trees N ⟨[H,pos,count,left,call,loads],[],[B],[]⟩ fun J=>(∃(pl y z u A w' g c C left':Int),∃(x:List Nat),∃(j k o D:Rs),J=(0,(⟨[pl,y,z,u,A,w',g,c,C,left'],[x],[j,k,o,D],[]⟩:Ah))∧(J7 k z u A w' x o)∧(j=AD)∧(g=o.length)∧(y=k.length)∧(pl=j.length)∧(0≤c)∧(c≤1500))∨(∃(pl y z u A w' g c C d left':Int),∃(x:List Nat),∃(j k o D:Rs),J=(1,(⟨[pl,y,z,u,A,w',g,c,C,d,left'],[x],[j,k,o,D],[]⟩:Ah))∧(J7 k z u A w' x o)∧(j=AD)∧(g=o.length)∧(y=k.length)∧(pl=j.length)∧(0≤c)∧(c≤1500)∧(0≤d)∧(d≤4))
theorem c_7:K_7 7:=by
 intro bl B hB hl pos count left call aI h
 obtain ⟨h0,h1,rfl,rfl,rfl⟩:=h;have hM:=MS.Aiy hB hl ⟨h0,h1⟩;have bn:G 3=40:=rfl
 refine .of (t:=t_7) rfl ?_
 unfold t_7
 refine de [[PV.str [120],.int .i64 1],[.str [121],.int .i64 1]] ?_
 refine ll 2 [[PV.str [120],.int .i64 1],[.str [121],.int .i64 1]] ?_
 refine fr ?_
 obtain ⟨_,⟨ab,u,rfl,bf,bi,bc⟩,G1⟩:=Zx hB hl pos 2 0 4 0 0 [[PV.str [120],.int .i64 1],[.str [121],.int .i64 1]]
 refine ch G1 ?_
 obtain ⟨_,(⟨rfl,aU⟩|⟨D,g,j,z,rfl,k,aL,av,aW,aG,aE,aN⟩|⟨ba,C,J,c,d,o,R,A,rfl,x,aX,aA,aJ,aB,aO,aH,ay,ax,aR⟩),y⟩:=Ap2 (ab%4) bl u 2 0 4 0 0 0 0 0 0 0 2 1 0 0 0 0 B [[PV.str [120],.int .i64 1],[.str [121],.int .i64 1]] [[PV.str [120],.int .i64 1],[.str [121],.int .i64 1]] (MS.mv hM)
 ·refine ch y ?_
  obtain ⟨_,⟨am,ad,af,ag,O,H,aj,ap,rfl,a0,a6,a1,be⟩,G3⟩:=Wp (hM.FC 0 4) 1 3 u
  refine ch G3 ?_
  refine de [] ?_
  refine ll 0 [] ?_
  exact Ai ⟨[2,0,am,ad,af,ag,O,H,2,4],[aj],[[[PV.str [120],.int .i64 1],[.str [121],.int .i64 1]],[],ap,[[PV.str [120],.int .i64 1],[.str [121],.int .i64 1]]],[]⟩ (.inl (⟨_,_,_,_,_,_,_,_,_,_,_,_,_,_,_,rfl,(by first|exact J7.mk ‹_› ‹_› ‹_›|exact J7.nil ‹_›),rfl,kn,kn,kn,kn,kn⟩))
 ·refine cm y ?_
  refine ch y ?_
  have ⟨_,_,au,aQ,az,aP,aC,aw,_,_,_⟩:=k
  obtain ⟨_,⟨X,aq,ak,ac,Q,N,al,ae,rfl,bj,a4,bm,aZ⟩,G4⟩:=Wp (k.FC 0 g) 1 3 D
  refine ch G4 ?_
  refine ll j z ?_
  refine fr ?_
  exact Ai ⟨[2,j,X,aq,ak,ac,Q,N,2,g],[al],[[[PV.str [120],.int .i64 1],[.str [121],.int .i64 1]],z,ae,[[PV.str [120],.int .i64 1],[.str [121],.int .i64 1]]],[]⟩ (.inl (⟨_,_,_,_,_,_,_,_,_,_,_,_,_,_,_,rfl,(by first|exact J7.mk ‹_› ‹_› ‹_›|exact J7.nil ‹_›),rfl,kn,kn,kn,kn,kn⟩))
 refine cm y ?_
 refine cm y ?_
 refine ch y ?_
 have ⟨_,_,aV,aD,aM,aF,aY,aK,_,_,_⟩:=x
 obtain ⟨_,⟨an,ai,Z,aa,P,M,U,ao,rfl,a5,a8,a9,bk⟩,G5⟩:=J3 (x.FC c d) 1 3 C
 refine ch G5 ?_
 refine ll o A ?_
 refine fr ?_
 exact Ai ⟨[2,o,an,ai,Z,aa,P,M,J,c,d],[U],[[[PV.str [120],.int .i64 1],[.str [121],.int .i64 1]],A,ao,R],[]⟩ (.inr ((⟨_,_,_,_,_,_,_,_,_,_,_,_,_,_,_,_,rfl,(by first|exact J7.mk ‹_› ‹_› ‹_›|exact J7.nil ‹_›),rfl,kn,kn,kn,kn,kn,kn,kn⟩)))
def C_6 (N n:Nat):Prop:=∀(it a:Int) (b o:Int) (pos c:Int) (d g:Int) (sub k pl:Int) (B u P:Rs) (hs:C1 g sub) (h:(g=4∨g=1∨g=2∨g=8∨g=6)∧it≤10∧it.toNat<n),Ok trees N ⟨[it,a,b,o,pos,c,d,g,sub,k,pl],[],[B,u,P],[]⟩ fun x=>(∃(j:Int),x=(0,(⟨[j],[],[],[]⟩:Ah))∧(C1 g j))
def K_6 (N:Nat):Prop:=∀(it a:Int) (b o:Int) (pos c:Int) (d g:Int) (sub k pl:Int) (B u P:Rs) (hs:C1 g sub) (h:(g=4∨g=1∨g=2∨g=8∨g=6)∧it≤10:=by exact kn),Ok trees N ⟨[it,a,b,o,pos,c,d,g,sub,k,pl],[],[B,u,P],[]⟩ fun x=>(∃(j:Int),x=(0,(⟨[j],[],[],[]⟩:Ah))∧(C1 g j))
theorem Us (n:Nat):C_6 6 n:=by
 induction n with
 |zero=>intro it a b o pos c d g sub j pl B u P hs h;exact absurd h.2.2 (Nat.not_lt_zero _)
 |succ n ih=>
 intro it a b o pos c d g sub j pl B u P hs h
 obtain ⟨A,ae⟩:=hs;rcases A with rfl|rfl|rfl|rfl
 ·refine .of (t:=t_6) rfl ?_
  unfold t_6
  refine gt it 0 (fun N=>?_) fun N=>?_
  ·refine AN (2*1) 0 ?_
   refine eq (g%(2*1)) 0 (fun t2=>?_) fun t2=>?_
   ·obtain ⟨_,⟨z,rfl,M⟩,U⟩:=ih (it-1) a b o pos c d g (2*1) j pl B u P (by unfold C1;omega) kn
    refine ch U ?_
    exact Ai ⟨[z],[],[],[]⟩ (⟨_,rfl,(by first|assumption|(unfold C1;omega))⟩)
   exact Ai ⟨[1],[],[],[]⟩ (⟨_,rfl,(by first|assumption|(unfold C1;omega))⟩)
  exact Ai ⟨[1],[],[],[]⟩ (⟨_,rfl,(by first|assumption|(unfold C1;omega))⟩)
 ·refine .of (t:=t_6) rfl ?_
  unfold t_6
  refine gt it 0 (fun Z=>?_) fun Z=>?_
  ·refine AN (2*2) 0 ?_
   refine eq (g%(2*2)) 0 (fun t5=>?_) fun t5=>?_
   ·obtain ⟨_,⟨x,rfl,aa⟩,O⟩:=ih (it-1) a b o pos c d g (2*2) j pl B u P (by unfold C1;omega) kn
    refine ch O ?_
    exact Ai ⟨[x],[],[],[]⟩ (⟨_,rfl,(by first|assumption|(unfold C1;omega))⟩)
   exact Ai ⟨[2],[],[],[]⟩ (⟨_,rfl,(by first|assumption|(unfold C1;omega))⟩)
  exact Ai ⟨[2],[],[],[]⟩ (⟨_,rfl,(by first|assumption|(unfold C1;omega))⟩)
 ·refine .of (t:=t_6) rfl ?_
  unfold t_6
  refine gt it 0 (fun X=>?_) fun X=>?_
  ·refine AN (2*4) 0 ?_
   refine eq (g%(2*4)) 0 (fun t8=>?_) fun t8=>?_
   ·obtain ⟨_,⟨y,rfl,Q⟩,R⟩:=ih (it-1) a b o pos c d g (2*4) j pl B u P (by unfold C1;omega) kn
    refine ch R ?_
    exact Ai ⟨[y],[],[],[]⟩ (⟨_,rfl,(by first|assumption|(unfold C1;omega))⟩)
   exact Ai ⟨[4],[],[],[]⟩ (⟨_,rfl,(by first|assumption|(unfold C1;omega))⟩)
  exact Ai ⟨[4],[],[],[]⟩ (⟨_,rfl,(by first|assumption|(unfold C1;omega))⟩)
 ·refine .of (t:=t_6) rfl ?_
  unfold t_6
  refine gt it 0 (fun C=>?_) fun C=>?_
  ·refine AN (2*8) 0 ?_
   refine eq (g%(2*8)) 0 (fun D=>?_) fun D=>?_
   ·obtain ⟨_,⟨k,rfl,J⟩,H⟩:=ih (it-1) a b o pos c d g (2*8) j pl B u P (by unfold C1;omega) kn
    refine ch H ?_
    exact Ai ⟨[k],[],[],[]⟩ (⟨_,rfl,(by first|assumption|(unfold C1;omega))⟩)
   exact Ai ⟨[8],[],[],[]⟩ (⟨_,rfl,(by first|assumption|(unfold C1;omega))⟩)
  exact Ai ⟨[8],[],[],[]⟩ (⟨_,rfl,(by first|assumption|(unfold C1;omega))⟩)
theorem c_6:K_6 6:=fun it a b k pos c d g sub j pl B o P hs h=>Us (it.toNat+1) it a b k pos c d g sub j pl B o P hs ⟨h.1,h.2,Nat.lt_succ_self _⟩
def AqN (N n:Nat):Prop:=∀{Γ:Ctx} {K M:Int} {z:Ctx} {j:Int} (it z1:Int) (Q y:Int) (pos x:Int) (count left:Int) (D sub:Int) (J pl o:Int) (B O:Rs) (P V R:Rs) (U:MS false Γ 3 K M y pos x count left 0 1 B V) (X:AT 0 0 3 z Γ j left R) (h:it≤10∧o=R.length∧o+it≤20∧0≤o∧it.toNat<n),Ok trees N ⟨[it,z1,Q,y,pos,x,count,left,D,sub,J,pl,o],[],[B,O,P,V,R],[]⟩ fun C=>(C=(0,v0))∨(∃(c left' d:Int),∃(k:Rs),C=(1,(⟨[c,left',d],[],[k],[]⟩:Ah))∧(MS false Γ 3 K M y c x count left' 0 1 B V)∧(AT 0 0 3 z Γ j left' k)∧(d=k.length)∧(d≤20)∧(left'≤left)∧(c+300*left'≤pos+300*left)∧(o≤d))∨(∃(H:Ctx),∃(c u g left' d:Int),∃(A k:Rs),C=(2,(⟨[c,u,g,left',d],[],[A,k],[]⟩:Ah))∧(MS false H 3 K M y c u g left' 0 1 B A)∧(AT 0 0 3 z H j left' k)∧(Ext x V A)∧(count≤g)∧(x≤u)∧(d=k.length)∧(d≤20)∧(left'≤left)∧(c+300*left'≤pos+300*left)∧(o≤d))
def Aq0 (N:Nat):Prop:=∀{Γ:Ctx} {K M:Int} {z:Ctx} {j:Int} (it z1:Int) (Q y:Int) (pos u:Int) (count left:Int) (D sub:Int) (J pl o:Int) (B O:Rs) (P V R:Rs) (U:MS false Γ 3 K M y pos u count left 0 1 B V) (X:AT 0 0 3 z Γ j left R) (h:it≤10∧o=R.length∧o+it≤20∧0≤o:=by exact kn),Ok trees N ⟨[it,z1,Q,y,pos,u,count,left,D,sub,J,pl,o],[],[B,O,P,V,R],[]⟩ fun C=>(C=(0,v0))∨(∃(c left' d:Int),∃(k:Rs),C=(1,(⟨[c,left',d],[],[k],[]⟩:Ah))∧(MS false Γ 3 K M y c u count left' 0 1 B V)∧(AT 0 0 3 z Γ j left' k)∧(d=k.length)∧(d≤20)∧(left'≤left)∧(c+300*left'≤pos+300*left)∧(o≤d))∨(∃(H:Ctx),∃(c x g left' d:Int),∃(A k:Rs),C=(2,(⟨[c,x,g,left',d],[],[A,k],[]⟩:Ah))∧(MS false H 3 K M y c x g left' 0 1 B A)∧(AT 0 0 3 z H j left' k)∧(Ext u V A)∧(count≤g)∧(u≤x)∧(d=k.length)∧(d≤20)∧(left'≤left)∧(c+300*left'≤pos+300*left)∧(o≤d))
theorem Aot (n:Nat):AqN 42 n:=by
 induction n with
 |zero=>intro Γ K M Γ0 ax it z1 z2 bl pos vl count left ao sub al pl rl B Ar P V R hM o h;exact absurd h.2.2.2.2 (Nat.not_lt_zero _)
 |succ n ih=>
 intro Γ K M Γ0 ax it z1 z2 bl pos vl count left ao sub al pl rl B Ar P V R hM o h
 have ⟨hm,dc,dd,c8,di,c9,dg,c6,db,dh,c5⟩:=hM;have ⟨hB,hl,hvl,H6,hV,hb,hc,hd⟩:=hm;have c7:G 3=40:=rfl;have dj:G 2=12:=rfl
 refine .of (t:=Ael) rfl ?_
 unfold Ael
 refine gt it 0 (fun t1=>?_) fun t1=>?_
 ·refine gt left 0 (fun t2=>?_) fun t2=>?_
  ·obtain ⟨_,(⟨a8,bg,a4,aV,aX,aH,aD,aW,aR,aC,a1,ay,aL,aE,aG,y,d,bk,aJ,az,ad,aq,ac,ah,rfl,j,bQ,cK,cS,cG,cQ,bt,cy⟩|⟨ae,bh,a3,a5,aF,aY,aO,a0,aI,aA,aK,aP,x,k,c,g,a7,av,au,ai,an,aj,C,rfl,u,b9,bA,bX,cM,cJ,b1,cE,bv,bG,br⟩),G3⟩:=Sb 3 2 1 0 0 bl pos vl count left 0 1 B V (MS.mv hM)
   ·refine ch G3 ?_
    have ⟨_,_,cv,b2,b3,cF,ci,cA,_,_,_⟩:=j
    refine ll aW ad ?_
    refine ll aL aq ?_
    refine ll aE ac ?_
    refine ll aG ah ?_
    refine dL (R++[AZ a8 bg 0 a4 bk aV aX aH aJ aD ad aR aC a1 az ay aq ac ah]) (fun W4 e4=>?_) (BC (pw rl R) pe)
    have f4:=cL e4;try simp only [lA,lC,lN,lT']at f4
    refine FM (W4.length:Int) 1048576 ?_
    obtain ⟨_,(rfl|⟨ak,X,aU,bq,rfl,D,cj,cI,cq,cc,bU,cf⟩|⟨bj,ap,aN,z,Z,aw,bi,ba,rfl,H,ce,cN,bD,b6,bz,cV,bS,bZ,bB⟩),Q⟩:=ih (it-1) z1 z2 bl y vl count d ao sub al pl (W4.length:Int) B Ar P V W4 (MS.mv j) (by subst_vars;exact AT.snoc o ‹_›) kn
    ·refine ch Q ?_
     exact Ai ⟨[y,d,(W4.length:Int)],[],[W4],[]⟩ (.inr (.inl (⟨_,_,_,_,rfl,(MS.mv j),(by first|assumption|(subst_vars;exact AT.snoc o ‹_›)),kn,kn,kn,kn,kn⟩)))
    ·refine cm Q ?_
     refine ch Q ?_
     have ⟨_,_,bC,cP,bF,bY,bE,bw,_,_,_⟩:=D
     exact Ai ⟨[ak,X,aU],[],[bq],[]⟩ (.inr (.inl (⟨_,_,_,_,rfl,(MS.mv D),(by first|assumption|(subst_vars;exact AT.snoc o ‹_›)),kn,kn,kn,kn,kn⟩)))
    refine cm Q ?_
    refine cm Q ?_
    refine ch Q ?_
    have ⟨_,_,co,cB,cd,b7,cr,bx,_,_,_⟩:=H
    exact Ai ⟨[ap,aN,z,Z,aw],[],[bi,ba],[]⟩ (.inr (.inr ((⟨bj,_,_,_,_,_,_,_,rfl,(MS.mv H),(by first|assumption|(subst_vars;exact AT.snoc o ‹_›)),AA,kn,kn,kn,kn,kn,kn,kn⟩))))
   refine cm G3 ?_
   refine ch G3 ?_
   have ⟨_,_,cO,cx,bT,bR,bP,cD,_,_,_⟩:=u
   refine ll aI au ?_
   refine ll aA ai ?_
   refine ll aK an ?_
   refine ll aP aj ?_
   refine dL (R++[AZ bh 0 a3 a5 a7 aF aY aO av a0 au 0 0 0 [] 0 ai an aj]) (fun W6 e6=>?_) (BC (pw rl R) pe)
   have f6:=cL e6;try simp only [lA,lC,lN,lT']at f6
   refine FM (W6.length:Int) 1048576 ?_
   obtain ⟨_,(rfl|⟨af,aa,aB,bp,rfl,J,bL,cn,cH,b4,cT,bI⟩|⟨bf,ag,aZ,A,U,aM,bm,a6,rfl,N,cR,cC,bK,bN,bV,cb,cu,cp,bH⟩),O⟩:=ih (it-1) z1 z2 bl x k c g ao sub al pl (W6.length:Int) B Ar P C W6 (MS.mv u) (by subst_vars;exact AT.snoc o ‹_›) kn
   ·refine ch O ?_
    exact Ai ⟨[x,k,c,g,(W6.length:Int)],[],[C,W6],[]⟩ (.inr (.inr ((⟨ae,_,_,_,_,_,_,_,rfl,(MS.mv u),(by first|assumption|(subst_vars;exact AT.snoc o ‹_›)),AA,kn,kn,kn,kn,kn,kn,kn⟩))))
   ·refine cm O ?_
    refine ch O ?_
    have ⟨_,_,bJ,cU,ct,cg,b5,cz,_,_,_⟩:=J
    exact Ai ⟨[af,k,c,aa,aB],[],[C,bp],[]⟩ (.inr (.inr ((⟨ae,_,_,_,_,_,_,_,rfl,(MS.mv J),(by first|assumption|(subst_vars;exact AT.snoc o ‹_›)),AA,kn,kn,kn,kn,kn,kn,kn⟩))))
   refine cm O ?_
   refine cm O ?_
   refine ch O ?_
   have ⟨_,_,bW,bM,b8,bO,b0,cw,_,_,_⟩:=N
   exact Ai ⟨[ag,aZ,A,U,aM],[],[bm,a6],[]⟩ (.inr (.inr ((⟨bf,_,_,_,_,_,_,_,rfl,(MS.mv N),(by first|assumption|(subst_vars;exact AT.snoc o ‹_›)),AA,kn,kn,kn,kn,kn,kn,kn⟩))))
  exact Ai v0 (.inl rfl)
 exact Ai v0 (.inl rfl)
theorem Amh:Aq0 42:=fun {Γ} {K} {M} {Γ0} {left0} it z1 z2 bl pos vl count left grp sub al pl rl B Ar P V R hM hL h=>Aot (it.toNat+1) it z1 z2 bl pos vl count left grp sub al pl rl B Ar P V R hM hL ⟨h.1,h.2.1,h.2.2.1,h.2.2.2,Nat.lt_succ_self _⟩
def Aq4 (N:Nat):Prop:=∀{Γ:Ctx} {K M:Int} (it z1:Int) (H u:Int) (pos k:Int) (count left:Int) (z sub:Int) (C pl:Int) (B D:Rs) (P V:Rs) (J:MS false Γ 3 K M u pos k count left 0 1 B V) (h:it≤10:=by exact kn),Ok trees N ⟨[it,z1,H,u,pos,k,count,left,z,sub,C,pl],[],[B,D,P,V],[]⟩ fun y=>(y=(0,v0)∧(it≤0∨left≤0))∨(∃(c left' d:Int),∃(j:Rs),y=(1,(⟨[c,left',d],[],[j],[]⟩:Ah))∧(MS false Γ 3 K M u c k count left' 0 1 B V)∧(AT 0 0 3 Γ Γ left left' j)∧(d=j.length)∧(d≤20)∧(left'≤left)∧(c+300*left'≤pos+300*left)∧(1≤d))∨(∃(A:Ctx),∃(c o g left' d:Int),∃(x j:Rs),y=(2,(⟨[c,o,g,left',d],[],[x,j],[]⟩:Ah))∧(MS false A 3 K M u c o g left' 0 1 B x)∧(AT 0 0 3 Γ A left left' j)∧(Ext k V x)∧(count≤g)∧(k≤o)∧(d=j.length)∧(d≤20)∧(left'≤left)∧(c+300*left'≤pos+300*left)∧(1≤d))
theorem Ap3:Aq4 10:=by
 intro Γ K M it z1 z2 bl pos vl count left aV sub al pl B Ar P V hM h
 have ⟨hm,c6,c7,c3,db,c4,c8,c1,c5,c9,cZ⟩:=hM;have ⟨hB,hl,hvl,H6,hV,hb,hc,hd⟩:=hm;have c2:G 3=40:=rfl;have dc:G 2=12:=rfl
 refine .of (t:=Aet) rfl ?_
 unfold Aet
 refine gt it 0 (fun t1=>?_) fun t1=>?_
 ·refine gt left 0 (fun t2=>?_) fun t2=>?_
  ·obtain ⟨_,(⟨a2,a6,aY,aM,aO,aB,ax,aN,aK,aw,aU,ap,aF,ay,aA,x,d,bc,aD,aq,aa,ak,Z,ae,rfl,j,bM,cG,cO,cC,cM,bo,cu⟩|⟨ab,a8,aW,aZ,az,aP,aI,aR,aC,au,aE,aJ,u,k,c,g,a1,an,am,af,ai,ag,A,rfl,o,b5,bw,bT,cH,cF,bX,cA,bp,bC,bm⟩),G3⟩:=Sb 3 2 1 0 0 bl pos vl count left 0 1 B V (MS.mv hM)
   ·refine ch G3 ?_
    have ⟨_,_,cq,bY,bZ,cB,cd,cw,_,_,_⟩:=j
    refine ll aN aa ?_
    refine ll aF ak ?_
    refine ll ay Z ?_
    refine ll aA ae ?_
    refine dL [AZ a2 a6 0 aY bc aM aO aB aD ax aa aK aw aU aq ap ak Z ae] (fun W4 e4=>?_)
    have f4:=cL e4;try simp only [lA,lC,lN,lT']at f4
    refine ll 1 W4 ?_
    obtain ⟨_,(rfl|⟨ah,R,aL,bf,rfl,C,ce,cE,cj,b7,bQ,cb⟩|⟨bb,aj,aH,y,U,ao,ba,a3,rfl,D,b9,cI,bz,b2,bt,cR,bO,bV,bv⟩),O⟩:=Amh (it-1) z1 z2 bl x vl count d aV sub al pl 1 B Ar P V W4 (MS.mv j) (by subst_vars;exact AT.one ‹_› om)
    ·refine ch O ?_
     exact Ai ⟨[x,d,1],[],[W4],[]⟩ (.inr (.inl (⟨_,_,_,_,rfl,(MS.mv j),(by first|assumption|(subst_vars;exact AT.one ‹_› om)),kn,kn,kn,kn,kn⟩)))
    ·refine cm O ?_
     refine ch O ?_
     have ⟨_,_,bx,cK,bB,bU,bA,bq,_,_,_⟩:=C
     exact Ai ⟨[ah,R,aL],[],[bf],[]⟩ (.inr (.inl (⟨_,_,_,_,rfl,(MS.mv C),(by first|assumption|(subst_vars;exact AT.one ‹_› om)),kn,kn,kn,kn,kn⟩)))
    refine cm O ?_
    refine cm O ?_
    refine ch O ?_
    have ⟨_,_,cg,cx,b8,b3,cn,br,_,_,_⟩:=D
    exact Ai ⟨[aj,aH,y,U,ao],[],[ba,a3],[]⟩ (.inr (.inr ((⟨bb,_,_,_,_,_,_,_,rfl,(MS.mv D),(by first|assumption|(subst_vars;exact AT.one ‹_› om)),AA,kn,kn,kn,kn,kn,kn,kn⟩))))
   refine cm G3 ?_
   refine ch G3 ?_
   have ⟨_,_,cJ,ct,bP,bN,bL,cz,_,_,_⟩:=o
   refine ll aC am ?_
   refine ll au af ?_
   refine ll aE ai ?_
   refine ll aJ ag ?_
   refine dL [AZ a8 0 aW aZ a1 az aP aI an aR am 0 0 0 [] 0 af ai ag] (fun W6 e6=>?_)
   have f6:=cL e6;try simp only [lA,lC,lN,lT']at f6
   refine ll 1 W6 ?_
   obtain ⟨_,(rfl|⟨ac,X,av,be,rfl,H,bH,cf,cD,b0,cP,bE⟩|⟨a5,ad,aQ,z,Q,aG,bd,a0,rfl,J,cN,cy,bG,bJ,bR,b6,cp,ci,bD⟩),N⟩:=Amh (it-1) z1 z2 bl u k c g aV sub al pl 1 B Ar P A W6 (MS.mv o) (by subst_vars;exact AT.one ‹_› om)
   ·refine ch N ?_
    exact Ai ⟨[u,k,c,g,1],[],[A,W6],[]⟩ (.inr (.inr ((⟨ab,_,_,_,_,_,_,_,rfl,(MS.mv o),(by first|assumption|(subst_vars;exact AT.one ‹_› om)),AA,kn,kn,kn,kn,kn,kn,kn⟩))))
   ·refine cm N ?_
    refine ch N ?_
    have ⟨_,_,bF,cQ,co,cc,b1,cv,_,_,_⟩:=H
    exact Ai ⟨[ac,k,c,X,av],[],[A,be],[]⟩ (.inr (.inr ((⟨ab,_,_,_,_,_,_,_,rfl,(MS.mv H),(by first|assumption|(subst_vars;exact AT.one ‹_› om)),AA,kn,kn,kn,kn,kn,kn,kn⟩))))
   refine cm N ?_
   refine cm N ?_
   refine ch N ?_
   have ⟨_,_,bS,bI,b4,bK,bW,cr,_,_,_⟩:=J
   exact Ai ⟨[ad,aQ,z,Q,aG],[],[bd,a0],[]⟩ (.inr (.inr ((⟨a5,_,_,_,_,_,_,_,rfl,(MS.mv J),(by first|assumption|(subst_vars;exact AT.one ‹_› om)),AA,kn,kn,kn,kn,kn,kn,kn⟩))))
  exact Ai v0 (.inl (⟨rfl,kn⟩))
 exact Ai v0 (.inl (⟨rfl,kn⟩))
def AqE (N n:Nat):Prop:=∀{Γ:Ctx} {K M:Int} {z:Ctx} {j:Int} (it z1:Int) (Q y:Int) (pos x:Int) (count left:Int) (D sub:Int) (J pl:Int) (fl o:Int) (B O:Rs) (P U:Rs) (V R:Rs) (X:MS false Γ 3 K M y pos x count left 1 1 B V) (Z:AT 0 0 3 z Γ j left R) (h:it≤10∧o=R.length∧o+it≤20∧0≤o∧it.toNat<n),Ok trees N ⟨[it,z1,Q,y,pos,x,count,left,D,sub,J,pl,fl,o],[],[B,O,P,U,V,R],[]⟩ fun C=>(C=(0,v0))∨(∃(c left' d:Int),∃(k:Rs),C=(1,(⟨[c,left',d],[],[k],[]⟩:Ah))∧(MS false Γ 3 K M y c x count left' 1 1 B V)∧(AT 0 0 3 z Γ j left' k)∧(d=k.length)∧(d≤20)∧(left'≤left)∧(c+300*left'≤pos+300*left)∧(o≤d))∨(∃(H:Ctx),∃(c u g left' d:Int),∃(A k:Rs),C=(2,(⟨[c,u,g,left',d],[],[A,k],[]⟩:Ah))∧(MS false H 3 K M y c u g left' 1 1 B A)∧(AT 0 0 3 z H j left' k)∧(Ext x V A)∧(count≤g)∧(x≤u)∧(d=k.length)∧(d≤20)∧(left'≤left)∧(c+300*left'≤pos+300*left)∧(o≤d))
def ApZ (N:Nat):Prop:=∀{Γ:Ctx} {K M:Int} {z:Ctx} {j:Int} (it z1:Int) (Q y:Int) (pos u:Int) (count left:Int) (D sub:Int) (J pl:Int) (fl o:Int) (B O:Rs) (P U:Rs) (V R:Rs) (X:MS false Γ 3 K M y pos u count left 1 1 B V) (Z:AT 0 0 3 z Γ j left R) (h:it≤10∧o=R.length∧o+it≤20∧0≤o:=by exact kn),Ok trees N ⟨[it,z1,Q,y,pos,u,count,left,D,sub,J,pl,fl,o],[],[B,O,P,U,V,R],[]⟩ fun C=>(C=(0,v0))∨(∃(c left' d:Int),∃(k:Rs),C=(1,(⟨[c,left',d],[],[k],[]⟩:Ah))∧(MS false Γ 3 K M y c u count left' 1 1 B V)∧(AT 0 0 3 z Γ j left' k)∧(d=k.length)∧(d≤20)∧(left'≤left)∧(c+300*left'≤pos+300*left)∧(o≤d))∨(∃(H:Ctx),∃(c x g left' d:Int),∃(A k:Rs),C=(2,(⟨[c,x,g,left',d],[],[A,k],[]⟩:Ah))∧(MS false H 3 K M y c x g left' 1 1 B A)∧(AT 0 0 3 z H j left' k)∧(Ext u V A)∧(count≤g)∧(u≤x)∧(d=k.length)∧(d≤20)∧(left'≤left)∧(c+300*left'≤pos+300*left)∧(o≤d))
theorem Aoh (n:Nat):AqE 75 n:=by
 induction n with
 |zero=>intro Γ K M Γ0 ax it z1 z2 bl pos vl count left ao sub al pl fl rl B Ar P Fs V R hM o h;exact absurd h.2.2.2.2 (Nat.not_lt_zero _)
 |succ n ih=>
 intro Γ K M Γ0 ax it z1 z2 bl pos vl count left ao sub al pl fl rl B Ar P Fs V R hM o h
 have ⟨hm,dd,dg,c9,dj,db,dh,c7,dc,di,c6⟩:=hM;have ⟨hB,hl,hvl,H6,hV,hb,hc,hd⟩:=hm;have c8:G 3=40:=rfl;have dk:G 2=12:=rfl
 refine .of (t:=AdO) rfl ?_
 unfold AdO
 refine gt it 0 (fun t1=>?_) fun t1=>?_
 ·refine gt left 0 (fun t2=>?_) fun t2=>?_
  ·obtain ⟨_,(⟨a8,bg,a4,aV,aX,aH,aD,aW,aR,aC,a1,ay,aL,aE,aG,y,d,bm,aJ,az,ad,aq,ac,ah,rfl,j,bR,cM,cT,cH,cR,bv,cz⟩|⟨ae,bi,a3,a5,aF,aY,aO,a0,aI,aA,aK,aP,x,k,c,g,a7,av,au,ai,an,aj,C,rfl,u,cb,bB,bY,cN,cK,b2,cF,bw,bH,bt⟩),G3⟩:=Sb 3 2 1 0 0 bl pos vl count left 1 1 B V (MS.mv hM)
   ·refine ch G3 ?_
    have ⟨_,_,cw,b3,b4,cG,cj,cB,_,_,_⟩:=j
    refine ll aW ad ?_
    refine ll aL aq ?_
    refine ll aE ac ?_
    refine ll aG ah ?_
    refine dL (R++[AZ a8 bg 0 a4 bm aV aX aH aJ aD ad aR aC a1 az ay aq ac ah]) (fun W4 e4=>?_) (BC (pw rl R) pe)
    have f4:=cL e4;try simp only [lA,lC,lN,lT']at f4
    refine FM (W4.length:Int) 1048576 ?_
    obtain ⟨_,(rfl|⟨ak,X,aU,br,rfl,D,cn,cJ,cr,cd,bV,cg⟩|⟨bk,ap,aN,z,Z,aw,bj,ba,rfl,H,cf,cO,bE,b7,bA,cW,bT,b0,bC⟩),Q⟩:=ih (it-1) z1 z2 bl y vl count d ao sub al pl fl (W4.length:Int) B Ar P Fs V W4 (MS.mv j) (by subst_vars;exact AT.snoc o ‹_›) kn
    ·refine ch Q ?_
     exact Ai ⟨[y,d,(W4.length:Int)],[],[W4],[]⟩ (.inr (.inl (⟨_,_,_,_,rfl,(MS.mv j),(by first|assumption|(subst_vars;exact AT.snoc o ‹_›)),kn,kn,kn,kn,kn⟩)))
    ·refine cm Q ?_
     refine ch Q ?_
     have ⟨_,_,bD,cQ,bG,bZ,bF,bx,_,_,_⟩:=D
     exact Ai ⟨[ak,X,aU],[],[br],[]⟩ (.inr (.inl (⟨_,_,_,_,rfl,(MS.mv D),(by first|assumption|(subst_vars;exact AT.snoc o ‹_›)),kn,kn,kn,kn,kn⟩)))
    refine cm Q ?_
    refine cm Q ?_
    refine ch Q ?_
    have ⟨_,_,cp,cC,ce,b8,ct,bz,_,_,_⟩:=H
    exact Ai ⟨[ap,aN,z,Z,aw],[],[bj,ba],[]⟩ (.inr (.inr ((⟨bk,_,_,_,_,_,_,_,rfl,(MS.mv H),(by first|assumption|(subst_vars;exact AT.snoc o ‹_›)),AA,kn,kn,kn,kn,kn,kn,kn⟩))))
   refine cm G3 ?_
   refine ch G3 ?_
   have ⟨_,_,cP,cy,bU,bS,bQ,cE,_,_,_⟩:=u
   refine ll aI au ?_
   refine ll aA ai ?_
   refine ll aK an ?_
   refine ll aP aj ?_
   refine dL (R++[AZ bi 0 a3 a5 a7 aF aY aO av a0 au 0 0 0 [] 0 ai an aj]) (fun W6 e6=>?_) (BC (pw rl R) pe)
   have f6:=cL e6;try simp only [lA,lC,lN,lT']at f6
   refine FM (W6.length:Int) 1048576 ?_
   obtain ⟨_,(rfl|⟨af,aa,aB,bq,rfl,J,bM,co,cI,b5,cU,bJ⟩|⟨bf,ag,aZ,A,U,aM,bn,a6,rfl,N,cS,cD,bL,bO,bW,cc,cv,cq,bI⟩),O⟩:=ih (it-1) z1 z2 bl x k c g ao sub al pl fl (W6.length:Int) B Ar P Fs C W6 (MS.mv u) (by subst_vars;exact AT.snoc o ‹_›) kn
   ·refine ch O ?_
    exact Ai ⟨[x,k,c,g,(W6.length:Int)],[],[C,W6],[]⟩ (.inr (.inr ((⟨ae,_,_,_,_,_,_,_,rfl,(MS.mv u),(by first|assumption|(subst_vars;exact AT.snoc o ‹_›)),AA,kn,kn,kn,kn,kn,kn,kn⟩))))
   ·refine cm O ?_
    refine ch O ?_
    have ⟨_,_,bK,cV,cu,ci,b6,cA,_,_,_⟩:=J
    exact Ai ⟨[af,k,c,aa,aB],[],[C,bq],[]⟩ (.inr (.inr ((⟨ae,_,_,_,_,_,_,_,rfl,(MS.mv J),(by first|assumption|(subst_vars;exact AT.snoc o ‹_›)),AA,kn,kn,kn,kn,kn,kn,kn⟩))))
   refine cm O ?_
   refine cm O ?_
   refine ch O ?_
   have ⟨_,_,bX,bN,b9,bP,b1,cx,_,_,_⟩:=N
   exact Ai ⟨[ag,aZ,A,U,aM],[],[bn,a6],[]⟩ (.inr (.inr ((⟨bf,_,_,_,_,_,_,_,rfl,(MS.mv N),(by first|assumption|(subst_vars;exact AT.snoc o ‹_›)),AA,kn,kn,kn,kn,kn,kn,kn⟩))))
  exact Ai v0 (.inl rfl)
 exact Ai v0 (.inl rfl)
theorem AlY:ApZ 75:=fun {Γ} {K} {M} {Γ0} {left0} it z1 z2 bl pos vl count left grp sub al pl fl rl B Ar P Fs V R hM hL h=>Aoh (it.toNat+1) it z1 z2 bl pos vl count left grp sub al pl fl rl B Ar P Fs V R hM hL ⟨h.1,h.2.1,h.2.2.1,h.2.2.2,Nat.lt_succ_self _⟩
def Aqg (N:Nat):Prop:=∀{Γ:Ctx} {K M:Int} (it z1:Int) (H u:Int) (pos k:Int) (count left:Int) (z sub:Int) (C pl fl:Int) (B D:Rs) (P J V:Rs) (O:MS false Γ 3 K M u pos k count left 1 1 B V) (h:it≤10:=by exact kn),Ok trees N ⟨[it,z1,H,u,pos,k,count,left,z,sub,C,pl,fl],[],[B,D,P,J,V],[]⟩ fun y=>(y=(0,v0)∧(it≤0∨left≤0))∨(∃(c left' d:Int),∃(j:Rs),y=(1,(⟨[c,left',d],[],[j],[]⟩:Ah))∧(MS false Γ 3 K M u c k count left' 1 1 B V)∧(AT 0 0 3 Γ Γ left left' j)∧(d=j.length)∧(d≤20)∧(left'≤left)∧(c+300*left'≤pos+300*left)∧(1≤d))∨(∃(A:Ctx),∃(c o g left' d:Int),∃(x j:Rs),y=(2,(⟨[c,o,g,left',d],[],[x,j],[]⟩:Ah))∧(MS false A 3 K M u c o g left' 1 1 B x)∧(AT 0 0 3 Γ A left left' j)∧(Ext k V x)∧(count≤g)∧(k≤o)∧(d=j.length)∧(d≤20)∧(left'≤left)∧(c+300*left'≤pos+300*left)∧(1≤d))
theorem AlZ:Aqg 68:=by
 intro Γ K M it z1 z2 bl pos vl count left aV sub al pl fl B Ar P Fs V hM h
 have ⟨hm,c7,c8,c4,dc,c5,c9,c2,c6,db,c1⟩:=hM;have ⟨hB,hl,hvl,H6,hV,hb,hc,hd⟩:=hm;have c3:G 3=40:=rfl;have dd:G 2=12:=rfl
 refine .of (t:=AdS) rfl ?_
 unfold AdS
 refine gt it 0 (fun t1=>?_) fun t1=>?_
 ·refine gt left 0 (fun t2=>?_) fun t2=>?_
  ·obtain ⟨_,(⟨a2,a6,aY,aM,aO,aB,ax,aN,aK,aw,aU,ap,aF,ay,aA,x,d,bc,aD,aq,aa,ak,Z,ae,rfl,j,bN,cH,cP,cD,cN,bp,cv⟩|⟨ab,a8,aW,aZ,az,aP,aI,aR,aC,au,aE,aJ,u,k,c,g,a1,an,am,af,ai,ag,A,rfl,o,b6,bx,bU,cI,cG,bY,cB,bq,bD,bn⟩),G3⟩:=Sb 3 2 1 0 0 bl pos vl count left 1 1 B V (MS.mv hM)
   ·refine ch G3 ?_
    have ⟨_,_,cr,bZ,b0,cC,ce,cx,_,_,_⟩:=j
    refine ll aN aa ?_
    refine ll aF ak ?_
    refine ll ay Z ?_
    refine ll aA ae ?_
    refine dL [AZ a2 a6 0 aY bc aM aO aB aD ax aa aK aw aU aq ap ak Z ae] (fun W4 e4=>?_)
    have f4:=cL e4;try simp only [lA,lC,lN,lT']at f4
    refine ll 1 W4 ?_
    obtain ⟨_,(rfl|⟨ah,R,aL,bf,rfl,C,cf,cF,cn,b8,bR,cc⟩|⟨bb,aj,aH,y,U,ao,ba,a3,rfl,D,cb,cJ,bA,b3,bv,cS,bP,bW,bw⟩),O⟩:=AlY (it-1) z1 z2 bl x vl count d aV sub al pl fl 1 B Ar P Fs V W4 (MS.mv j) (by subst_vars;exact AT.one ‹_› om)
    ·refine ch O ?_
     exact Ai ⟨[x,d,1],[],[W4],[]⟩ (.inr (.inl (⟨_,_,_,_,rfl,(MS.mv j),(by first|assumption|(subst_vars;exact AT.one ‹_› om)),kn,kn,kn,kn,kn⟩)))
    ·refine cm O ?_
     refine ch O ?_
     have ⟨_,_,bz,cM,bC,bV,bB,br,_,_,_⟩:=C
     exact Ai ⟨[ah,R,aL],[],[bf],[]⟩ (.inr (.inl (⟨_,_,_,_,rfl,(MS.mv C),(by first|assumption|(subst_vars;exact AT.one ‹_› om)),kn,kn,kn,kn,kn⟩)))
    refine cm O ?_
    refine cm O ?_
    refine ch O ?_
    have ⟨_,_,ci,cy,b9,b4,co,bt,_,_,_⟩:=D
    exact Ai ⟨[aj,aH,y,U,ao],[],[ba,a3],[]⟩ (.inr (.inr ((⟨bb,_,_,_,_,_,_,_,rfl,(MS.mv D),(by first|assumption|(subst_vars;exact AT.one ‹_› om)),AA,kn,kn,kn,kn,kn,kn,kn⟩))))
   refine cm G3 ?_
   refine ch G3 ?_
   have ⟨_,_,cK,cu,bQ,bO,bM,cA,_,_,_⟩:=o
   refine ll aC am ?_
   refine ll au af ?_
   refine ll aE ai ?_
   refine ll aJ ag ?_
   refine dL [AZ a8 0 aW aZ a1 az aP aI an aR am 0 0 0 [] 0 af ai ag] (fun W6 e6=>?_)
   have f6:=cL e6;try simp only [lA,lC,lN,lT']at f6
   refine ll 1 W6 ?_
   obtain ⟨_,(rfl|⟨ac,X,av,be,rfl,H,bI,cg,cE,b1,cQ,bF⟩|⟨a5,ad,aQ,z,Q,aG,bd,a0,rfl,J,cO,cz,bH,bK,bS,b7,cq,cj,bE⟩),N⟩:=AlY (it-1) z1 z2 bl u k c g aV sub al pl fl 1 B Ar P Fs A W6 (MS.mv o) (by subst_vars;exact AT.one ‹_› om)
   ·refine ch N ?_
    exact Ai ⟨[u,k,c,g,1],[],[A,W6],[]⟩ (.inr (.inr ((⟨ab,_,_,_,_,_,_,_,rfl,(MS.mv o),(by first|assumption|(subst_vars;exact AT.one ‹_› om)),AA,kn,kn,kn,kn,kn,kn,kn⟩))))
   ·refine cm N ?_
    refine ch N ?_
    have ⟨_,_,bG,cR,cp,cd,b2,cw,_,_,_⟩:=H
    exact Ai ⟨[ac,k,c,X,av],[],[A,be],[]⟩ (.inr (.inr ((⟨ab,_,_,_,_,_,_,_,rfl,(MS.mv H),(by first|assumption|(subst_vars;exact AT.one ‹_› om)),AA,kn,kn,kn,kn,kn,kn,kn⟩))))
   refine cm N ?_
   refine cm N ?_
   refine ch N ?_
   have ⟨_,_,bT,bJ,b5,bL,bX,ct,_,_,_⟩:=J
   exact Ai ⟨[ad,aQ,z,Q,aG],[],[bd,a0],[]⟩ (.inr (.inr ((⟨a5,_,_,_,_,_,_,_,rfl,(MS.mv J),(by first|assumption|(subst_vars;exact AT.one ‹_› om)),AA,kn,kn,kn,kn,kn,kn,kn⟩))))
  exact Ai v0 (.inl (⟨rfl,kn⟩))
 exact Ai v0 (.inl (⟨rfl,kn⟩))
end Go.Proofs.YtbmofjdmgjpfoaaGreatDoor.Am
end
