/- Part 28 of MeaningCalls. -/
import Derived.Test.YtaolbokoijfhnaaGreatDoorJ16
import Derived.Test.YtaolbokoijfhnaaGreatDoorJ27
set_option linter.all false
namespace Go.Proofs.YtaolbokoijfhnaaGreatDoor.Am
section
set_option maxHeartbeats 4000000
set_option maxRecDepth 100000
open Go.AM Go.AM.K
def K_5 (N:Nat):Prop:=∀{q:Int} {B:Rs} (hB:BV B) (hl:q=B.length) (pos count:Int) (left call loads:Int) (h:0<=pos/\pos<=1000000:=by exact kn),Ok trees N ⟨[q,pos,count,left,call,loads],[],[B],[]⟩ fun v=>(∃(r j:Int),v=(0,(⟨[r,j],[],[],[]⟩:Aj))/\(j=pos+1)/\(0<=r)/\(r<=255))
theorem c_5:K_5 5:=by
 intro v B hB hl pos count left call x h
 refine .of (t:=t_5) rfl ?_
 conv=>arg 3;reduce
 refine gt (pos+1) v (fun z=>?_) fun z=>?_
 ·exact Ah ⟨[0,(pos+1)],[],[],[]⟩ (⟨_,_,rfl,kn,kn,kn⟩)
 refine Dv ((pos+1)-1) 0 ?_
 refine CF ((pos+1)-1) v ?_
 obtain ⟨q,j,C,A⟩:=Pz hB ((pos+1)-1) om om
 refine el j ?_
 exact Ah ⟨[q,(pos+1)],[],[],[]⟩ (⟨_,_,rfl,kn,kn,kn⟩)
def Aqv (N n:Nat):Prop:=∀{Γ:Ctx} {K M:Int} {O:Ctx} {z:Int} (it bl:Int) (pos I:Int) (count left:Int) (call v:Int) (z1 z2:Int) (z3 z4:Int) (z5 pl:Int) (Y C:Int) (X U:Int) (Z p8:Int) (B P:Rs) (V R:Rs) (hM:MS false Γ 2 K M bl pos I count left call v B V) (hL:AP 0 1 2 O Γ z left R) (h:it<=10/\C=R.length/\C+it<=20/\0<=C/\it.toNat<n),Ok trees N ⟨[it,bl,pos,I,count,left,call,v,z1,z2,z3,z4,z5,pl,Y,C,X,U,Z,p8],[],[B,P,V,R],[]⟩ fun J=>(J=(0,v0))∨(∃(j left' q:Int),∃(A:Rs),J=(1,(⟨[j,left',q],[],[A],[]⟩:Aj))/\(MS false Γ 2 K M bl j I count left' call v B V)/\(AP 0 1 2 O Γ z left' A)/\(q=A.length)/\(q<=20)/\(left'<=left)/\(j+300*left'<=pos+300*left)/\(C<=q))∨(∃(Q:Ctx),∃(j H x left' q:Int),∃(L A:Rs),J=(2,(⟨[j,H,x,left',q],[],[L,A],[]⟩:Aj))/\(MS false Q 2 K M bl j H x left' call v B L)/\(AP 0 1 2 O Q z left' A)/\(Ext I V L)/\(count<=x)/\(I<=H)/\(q=A.length)/\(q<=20)/\(left'<=left)/\(j+300*left'<=pos+300*left)/\(C<=q))
def ApK (N:Nat):Prop:=∀{Γ:Ctx} {K M:Int} {O:Ctx} {z:Int} (it bl:Int) (pos I:Int) (count left:Int) (call v:Int) (z1 z2:Int) (z3 z4:Int) (z5 pl:Int) (Y C:Int) (X U:Int) (Z p8:Int) (B P:Rs) (V R:Rs) (hM:MS false Γ 2 K M bl pos I count left call v B V) (hL:AP 0 1 2 O Γ z left R) (h:it<=10/\C=R.length/\C+it<=20/\0<=C:=by exact kn),Ok trees N ⟨[it,bl,pos,I,count,left,call,v,z1,z2,z3,z4,z5,pl,Y,C,X,U,Z,p8],[],[B,P,V,R],[]⟩ fun J=>(J=(0,v0))∨(∃(j left' q:Int),∃(A:Rs),J=(1,(⟨[j,left',q],[],[A],[]⟩:Aj))/\(MS false Γ 2 K M bl j I count left' call v B V)/\(AP 0 1 2 O Γ z left' A)/\(q=A.length)/\(q<=20)/\(left'<=left)/\(j+300*left'<=pos+300*left)/\(C<=q))∨(∃(Q:Ctx),∃(j H x left' q:Int),∃(L A:Rs),J=(2,(⟨[j,H,x,left',q],[],[L,A],[]⟩:Aj))/\(MS false Q 2 K M bl j H x left' call v B L)/\(AP 0 1 2 O Q z left' A)/\(Ext I V L)/\(count<=x)/\(I<=H)/\(q=A.length)/\(q<=20)/\(left'<=left)/\(j+300*left'<=pos+300*left)/\(C<=q))
theorem AnZ (n:Nat):Aqv 77 n:=by
 induction n with
 |zero=>intro Γ K M Γ0 aK it bl pos vl count left call q z1 z2 z3 z4 z5 pl p2 rl p4 p5 p6 p8 B P V R hM C h;exact absurd h.2.2.2.2 (Nat.not_lt_zero _)
 |succ n ih=>
 intro Γ K M Γ0 aK it bl pos vl count left call q z1 z2 z3 z4 z5 pl p2 rl p4 p5 p6 p8 B P V R hM C h
 have ⟨hm,dy,dv,dF,dl,dw,dD,dx,dz,dt,dE⟩:=hM;have ⟨hB,hl,hvl,GP,hV,hb,hc,hd⟩:=hm;have du:G 3=40:=rfl;have dC:G 2=12:=rfl
 refine .of (t:=Afn) rfl ?_
 conv=>arg 3;reduce
 refine gt it 0 (fun t1=>?_) fun t1=>?_
 ·refine gt left 0 (fun t2=>?_) fun t2=>?_
  ·obtain ⟨_,(⟨bi,bC,bw,aG,aN,aU,a3,a1,aY,aP,aJ,aE,az,aC,aD,I,v,bh,a4,aF,af,ap,av,ag,rfl,H,cE,c1,bJ,cD,cY,cx,cX⟩|⟨ai,bx,bk,br,ay,aI,aO,a0,aW,aZ,aL,aB,J,z,j,x,bA,aH,ak,aw,al,ao,N,rfl,A,bZ,bL,b9,cQ,cR,cA,cq,cv,bP,bF⟩),G3⟩:=RE 2 1 0 0 1 bl pos vl count left call q B V (MS.mv hM)
   ·refine ch G3 ?_
    have ⟨_,_,cr,cM,cJ,b5,cV,ct,_,_,_⟩:=H
    refine ll a1 af ?_
    refine ll az ap ?_
    refine ll aC av ?_
    refine ll aD ag ?_
    refine dL (R++[AQ bi bC 0 bw bh aG aN aU a4 a3 af aY aP aJ aF aE ap av ag]) (fun W4 e4=>?_) (Bq (pw rl R) pe)
    have f4:=cL e4;try simp only [lA,lC,lN,lT']at f4
    refine E6 (W4.length:Int) 1048576 ?_
    obtain ⟨_,(rfl|⟨ah,ae,aQ,bg,rfl,Y,bY,bH,c3,cC,cN,cS⟩|⟨a8,aq,aX,L,aa,aA,a5,bp,rfl,U,cW,b6,cH,cG,bI,bW,ce,c2,cB⟩),Z⟩:=ih (it-1) bl I vl count v call q z1 z2 z3 z4 z5 pl p2 (W4.length:Int) p4 p5 p6 p8 B P V W4 (MS.mv H) (by subst_vars;exact AP.snoc C asm) kn
    ·refine ch Z ?_
     exact Ah ⟨[I,v,(W4.length:Int)],[],[W4],[]⟩ (.inr (.inl (⟨_,_,_,_,rfl,(MS.mv H),(by first|assumption|(subst_vars;exact AP.snoc C asm)),kn,kn,kn,kn,kn⟩)))
    ·refine cm Z ?_
     refine ch Z ?_
     have ⟨_,_,cU,c4,cF,cf,c5,cy,_,_,_⟩:=Y
     exact Ah ⟨[ah,ae,aQ],[],[bg],[]⟩ (.inr (.inl (⟨_,_,_,_,rfl,(MS.mv Y),(by first|assumption|(subst_vars;exact AP.snoc C asm)),kn,kn,kn,kn,kn⟩)))
    refine cm Z ?_
    refine cm Z ?_
    refine ch Z ?_
    have ⟨_,_,bQ,cO,bS,cz,b0,cT,_,_,_⟩:=U
    exact Ah ⟨[aq,aX,L,aa,aA],[],[a5,bp],[]⟩ (.inr (.inr ((⟨a8,_,_,_,_,_,_,_,rfl,(MS.mv U),(by first|assumption|(subst_vars;exact AP.snoc C asm)),A9,kn,kn,kn,kn,kn,kn,kn⟩))))
   refine cm G3 ?_
   refine ch G3 ?_
   have ⟨_,_,cK,b7,bX,b1,cu,c8,_,_,_⟩:=A
   refine ll aW ak ?_
   refine ll aZ aw ?_
   refine ll aL al ?_
   refine ll aB ao ?_
   refine dL (R++[AQ bx 0 bk br bA ay aI aO aH a0 ak 0 0 0 [] 0 aw al ao]) (fun W6 e6=>?_) (Bq (pw rl R) pe)
   have f6:=cL e6;try simp only [lA,lC,lN,lT']at f6
   refine E6 (W6.length:Int) 1048576 ?_
   obtain ⟨_,(rfl|⟨ax,ad,aR,bB,rfl,Q,ci,bT,b8,co,cc,cw⟩|⟨bn,au,a2,O,ab,aM,ba,bf,rfl,X,cj,cP,b3,bG,cZ,bM,b4,bK,c7⟩),G7⟩:=ih (it-1) bl J z j x call q z1 z2 z3 z4 z5 pl p2 (W6.length:Int) p4 p5 p6 p8 B P N W6 (MS.mv A) (by subst_vars;exact AP.snoc C asm) kn
   ·refine ch G7 ?_
    exact Ah ⟨[J,z,j,x,(W6.length:Int)],[],[N,W6],[]⟩ (.inr (.inr ((⟨ai,_,_,_,_,_,_,_,rfl,(MS.mv A),(by first|assumption|(subst_vars;exact AP.snoc C asm)),A9,kn,kn,kn,kn,kn,kn,kn⟩))))
   ·refine cm G7 ?_
    refine ch G7 ?_
    have ⟨_,_,cb,cd,c6,cp,bO,bR,_,_,_⟩:=Q
    exact Ah ⟨[ax,z,j,ad,aR],[],[N,bB],[]⟩ (.inr (.inr ((⟨ai,_,_,_,_,_,_,_,rfl,(MS.mv Q),(by first|assumption|(subst_vars;exact AP.snoc C asm)),A9,kn,kn,kn,kn,kn,kn,kn⟩))))
   refine cm G7 ?_
   refine cm G7 ?_
   refine ch G7 ?_
   have ⟨_,_,bU,bN,cI,cg,b2,bV,_,_,_⟩:=X
   exact Ah ⟨[au,a2,O,ab,aM],[],[ba,bf],[]⟩ (.inr (.inr ((⟨bn,_,_,_,_,_,_,_,rfl,(MS.mv X),(by first|assumption|(subst_vars;exact AP.snoc C asm)),A9,kn,kn,kn,kn,kn,kn,kn⟩))))
  exact Ah v0 (.inl rfl)
 exact Ah v0 (.inl rfl)
theorem Alh:ApK 77:=fun {Γ} {K} {M} {Γ0} {left0} it bl pos vl count left call loads z1 z2 z3 z4 z5 pl p2 rl p4 p5 p6 p8 B P V R hM hL h=>AnZ (it.toNat+1) it bl pos vl count left call loads z1 z2 z3 z4 z5 pl p2 rl p4 p5 p6 p8 B P V R hM hL ⟨h.1,h.2.1,h.2.2.1,h.2.2.2,Nat.lt_succ_self _⟩
def Aq3 (N n:Nat):Prop:=∀{Γ:Ctx} {K M:Int} {O:Ctx} {z:Int} (it bl:Int) (pos I:Int) (count left:Int) (call v:Int) (z1 z2:Int) (z3 z4:Int) (z5 pl:Int) (Y C:Int) (X U:Int) (Z p8:Int) (B V:Rs) (P R:Rs) (hM:MS true Γ 2 K M bl pos I count left call v B V) (hL:AP 0 1 2 O Γ z left R) (h:it<=10/\C=R.length/\C+it<=20/\0<=C/\it.toNat<n),Ok trees N ⟨[it,bl,pos,I,count,left,call,v,z1,z2,z3,z4,z5,pl,Y,C,X,U,Z,p8],[],[B,V,P,R],[]⟩ fun J=>(J=(0,v0))∨(∃(j left' q:Int),∃(A:Rs),J=(1,(⟨[j,left',q],[],[A],[]⟩:Aj))/\(MS true Γ 2 K M bl j I count left' call v B V)/\(AP 0 1 2 O Γ z left' A)/\(q=A.length)/\(q<=20)/\(left'<=left)/\(j+300*left'<=pos+300*left)/\(C<=q))∨(∃(Q:Ctx),∃(j H x left' q:Int),∃(L A:Rs),J=(2,(⟨[j,H,x,left',q],[],[L,A],[]⟩:Aj))/\(MS false Q 2 K M bl j H x left' call v B L)/\(AP 0 1 2 O Q z left' A)/\(Ext I V L)/\(count<=x)/\(I<=H)/\(q=A.length)/\(q<=20)/\(left'<=left)/\(j+300*left'<=pos+300*left)/\(C<=q))
def Aqg (N:Nat):Prop:=∀{Γ:Ctx} {K M:Int} {O:Ctx} {z:Int} (it bl:Int) (pos I:Int) (count left:Int) (call v:Int) (z1 z2:Int) (z3 z4:Int) (z5 pl:Int) (Y C:Int) (X U:Int) (Z p8:Int) (B V:Rs) (P R:Rs) (hM:MS true Γ 2 K M bl pos I count left call v B V) (hL:AP 0 1 2 O Γ z left R) (h:it<=10/\C=R.length/\C+it<=20/\0<=C:=by exact kn),Ok trees N ⟨[it,bl,pos,I,count,left,call,v,z1,z2,z3,z4,z5,pl,Y,C,X,U,Z,p8],[],[B,V,P,R],[]⟩ fun J=>(J=(0,v0))∨(∃(j left' q:Int),∃(A:Rs),J=(1,(⟨[j,left',q],[],[A],[]⟩:Aj))/\(MS true Γ 2 K M bl j I count left' call v B V)/\(AP 0 1 2 O Γ z left' A)/\(q=A.length)/\(q<=20)/\(left'<=left)/\(j+300*left'<=pos+300*left)/\(C<=q))∨(∃(Q:Ctx),∃(j H x left' q:Int),∃(L A:Rs),J=(2,(⟨[j,H,x,left',q],[],[L,A],[]⟩:Aj))/\(MS false Q 2 K M bl j H x left' call v B L)/\(AP 0 1 2 O Q z left' A)/\(Ext I V L)/\(count<=x)/\(I<=H)/\(q=A.length)/\(q<=20)/\(left'<=left)/\(j+300*left'<=pos+300*left)/\(C<=q))
theorem Adt (n:Nat):Aq3 43 n:=by
 induction n with
 |zero=>intro Γ K M Γ0 aK it bl pos vl count left call q z1 z2 z3 z4 z5 pl p2 rl p4 p5 p6 p8 B V P R hM C h;exact absurd h.2.2.2.2 (Nat.not_lt_zero _)
 |succ n ih=>
 intro Γ K M Γ0 aK it bl pos vl count left call q z1 z2 z3 z4 z5 pl p2 rl p4 p5 p6 p8 B V P R hM C h
 have ⟨hm,dy,dv,dF,dl,dw,dD,dx,dz,dt,dE⟩:=hM;have ⟨hB,hl,hvl,GP,hV,hb,hc,hd⟩:=hm;have du:G 3=40:=rfl;have dC:G 2=12:=rfl
 refine .of (t:=AfA) rfl ?_
 conv=>arg 3;reduce
 refine gt it 0 (fun t1=>?_) fun t1=>?_
 ·refine gt left 0 (fun t2=>?_) fun t2=>?_
  ·obtain ⟨_,(⟨bi,bC,bw,aG,aN,aU,a3,a1,aY,aP,aJ,aE,az,aC,aD,I,v,bh,a4,aF,af,ap,av,ag,rfl,H,cE,c1,bJ,cD,cY,cx,cX⟩|⟨ai,bx,bk,br,ay,aI,aO,a0,aW,aZ,aL,aB,J,z,j,x,bA,aH,ak,aw,al,ao,N,rfl,A,bZ,bL,b9,cQ,cR,cA,cq,cv,bP,bF⟩),G3⟩:=AlG 2 1 0 0 1 bl pos vl count left call q B V (MS.mv hM)
   ·refine ch G3 ?_
    have ⟨_,_,cr,cM,cJ,b5,cV,ct,_,_,_⟩:=H
    refine ll a1 af ?_
    refine ll az ap ?_
    refine ll aC av ?_
    refine ll aD ag ?_
    refine dL (R++[AQ bi bC 0 bw bh aG aN aU a4 a3 af aY aP aJ aF aE ap av ag]) (fun W4 e4=>?_) (Bq (pw rl R) pe)
    have f4:=cL e4;try simp only [lA,lC,lN,lT']at f4
    refine E6 (W4.length:Int) 1048576 ?_
    obtain ⟨_,(rfl|⟨ah,ae,aQ,bg,rfl,Y,bY,bH,c3,cC,cN,cS⟩|⟨a8,aq,aX,L,aa,aA,a5,bp,rfl,U,cW,b6,cH,cG,bI,bW,ce,c2,cB⟩),Z⟩:=ih (it-1) bl I vl count v call q z1 z2 z3 z4 z5 pl p2 (W4.length:Int) p4 p5 p6 p8 B V P W4 (MS.mv H) (by subst_vars;exact AP.snoc C asm) kn
    ·refine ch Z ?_
     exact Ah ⟨[I,v,(W4.length:Int)],[],[W4],[]⟩ (.inr (.inl (⟨_,_,_,_,rfl,(MS.mv H),(by first|assumption|(subst_vars;exact AP.snoc C asm)),kn,kn,kn,kn,kn⟩)))
    ·refine cm Z ?_
     refine ch Z ?_
     have ⟨_,_,cU,c4,cF,cf,c5,cy,_,_,_⟩:=Y
     exact Ah ⟨[ah,ae,aQ],[],[bg],[]⟩ (.inr (.inl (⟨_,_,_,_,rfl,(MS.mv Y),(by first|assumption|(subst_vars;exact AP.snoc C asm)),kn,kn,kn,kn,kn⟩)))
    refine cm Z ?_
    refine cm Z ?_
    refine ch Z ?_
    have ⟨_,_,bQ,cO,bS,cz,b0,cT,_,_,_⟩:=U
    exact Ah ⟨[aq,aX,L,aa,aA],[],[a5,bp],[]⟩ (.inr (.inr ((⟨a8,_,_,_,_,_,_,_,rfl,(MS.mv U),(by first|assumption|(subst_vars;exact AP.snoc C asm)),A9,kn,kn,kn,kn,kn,kn,kn⟩))))
   refine cm G3 ?_
   refine ch G3 ?_
   have ⟨_,_,cK,b7,bX,b1,cu,c8,_,_,_⟩:=A
   refine ll aW ak ?_
   refine ll aZ aw ?_
   refine ll aL al ?_
   refine ll aB ao ?_
   refine dL (R++[AQ bx 0 bk br bA ay aI aO aH a0 ak 0 0 0 [] 0 aw al ao]) (fun W6 e6=>?_) (Bq (pw rl R) pe)
   have f6:=cL e6;try simp only [lA,lC,lN,lT']at f6
   refine E6 (W6.length:Int) 1048576 ?_
   obtain ⟨_,(rfl|⟨ax,ad,aR,bB,rfl,Q,ci,bT,b8,co,cc,cw⟩|⟨bn,au,a2,O,ab,aM,ba,bf,rfl,X,cj,cP,b3,bG,cZ,bM,b4,bK,c7⟩),G7⟩:=Alh (it-1) bl J z j x call q z1 z2 z3 z4 z5 pl p2 (W6.length:Int) p4 p5 p6 p8 B P N W6 (MS.mv A) (by subst_vars;exact AP.snoc C asm)
   ·refine ch G7 ?_
    exact Ah ⟨[J,z,j,x,(W6.length:Int)],[],[N,W6],[]⟩ (.inr (.inr ((⟨ai,_,_,_,_,_,_,_,rfl,(MS.mv A),(by first|assumption|(subst_vars;exact AP.snoc C asm)),A9,kn,kn,kn,kn,kn,kn,kn⟩))))
   ·refine cm G7 ?_
    refine ch G7 ?_
    have ⟨_,_,cb,cd,c6,cp,bO,bR,_,_,_⟩:=Q
    exact Ah ⟨[ax,z,j,ad,aR],[],[N,bB],[]⟩ (.inr (.inr ((⟨ai,_,_,_,_,_,_,_,rfl,(MS.mv Q),(by first|assumption|(subst_vars;exact AP.snoc C asm)),A9,kn,kn,kn,kn,kn,kn,kn⟩))))
   refine cm G7 ?_
   refine cm G7 ?_
   refine ch G7 ?_
   have ⟨_,_,bU,bN,cI,cg,b2,bV,_,_,_⟩:=X
   exact Ah ⟨[au,a2,O,ab,aM],[],[ba,bf],[]⟩ (.inr (.inr ((⟨bn,_,_,_,_,_,_,_,rfl,(MS.mv X),(by first|assumption|(subst_vars;exact AP.snoc C asm)),A9,kn,kn,kn,kn,kn,kn,kn⟩))))
  exact Ah v0 (.inl rfl)
 exact Ah v0 (.inl rfl)
theorem Apd:Aqg 43:=fun {Γ} {K} {M} {Γ0} {left0} it bl pos vl count left call loads z1 z2 z3 z4 z5 pl p2 rl p4 p5 p6 p8 B V P R hM hL h=>Adt (it.toNat+1) it bl pos vl count left call loads z1 z2 z3 z4 z5 pl p2 rl p4 p5 p6 p8 B V P R hM hL ⟨h.1,h.2.1,h.2.2.1,h.2.2.2,Nat.lt_succ_self _⟩
def Aqk (N:Nat):Prop:=∀{Γ:Ctx} {K M:Int} (it bl:Int) (pos A:Int) (count left:Int) (call v:Int) (z1 Y:Int) (X Z:Int) (U pl:Int) (Q O:Int) (L R p8:Int) (B V P:Rs) (hM:MS true Γ 2 K M bl pos A count left call v B V) (h:it<=10:=by exact kn),Ok trees N ⟨[it,bl,pos,A,count,left,call,v,z1,Y,X,Z,U,pl,Q,O,L,R,p8],[],[B,V,P],[]⟩ fun I=>(I=(0,v0)/\(it<=0∨left<=0))∨(∃(j left' q:Int),∃(z:Rs),I=(1,(⟨[j,left',q],[],[z],[]⟩:Aj))/\(MS true Γ 2 K M bl j A count left' call v B V)/\(AP 0 1 2 Γ Γ left left' z)/\(q=z.length)/\(q<=20)/\(left'<=left)/\(j+300*left'<=pos+300*left)/\(1<=q))∨(∃(J:Ctx),∃(j C x left' q:Int),∃(H z:Rs),I=(2,(⟨[j,C,x,left',q],[],[H,z],[]⟩:Aj))/\(MS false J 2 K M bl j C x left' call v B H)/\(AP 0 1 2 Γ J left left' z)/\(Ext A V H)/\(count<=x)/\(A<=C)/\(q=z.length)/\(q<=20)/\(left'<=left)/\(j+300*left'<=pos+300*left)/\(1<=q))
theorem Apw:Aqk 11:=by
 intro Γ K M it bl pos vl count left call z z1 z2 z3 z4 z5 pl p2 p4 p5 p6 p8 B V P hM h
 have ⟨hm,dt,dj,dy,dd,dk,dw,dl,du,dh,dx⟩:=hM;have ⟨hB,hl,hvl,GP,hV,hb,hc,hd⟩:=hm;have di:G 3=40:=rfl;have dv:G 2=12:=rfl
 refine .of (t:=AfI) rfl ?_
 conv=>arg 3;reduce
 refine gt it 0 (fun t1=>?_) fun t1=>?_
 ·refine gt left 0 (fun t2=>?_) fun t2=>?_
  ·obtain ⟨_,(⟨a5,bj,bc,aC,aI,aN,aX,aV,aQ,aK,aF,aA,av,ay,az,H,q,a4,aY,aB,ad,ak,ao,ae,rfl,C,cA,cW,bF,cz,cU,ct,cT⟩|⟨ag,bf,a6,ba,au,aE,aJ,aU,aO,aR,aG,ax,I,x,j,v,bg,aD,ah,ap,ai,aj,L,rfl,A,bV,bH,b5,cM,cN,cw,ci,cq,bL,bA⟩),G3⟩:=AlG 2 1 0 0 1 bl pos vl count left call z B V (MS.mv hM)
   ·refine ch G3 ?_
    have ⟨_,_,cj,cH,cF,b1,cR,co,_,_,_⟩:=C
    refine ll aV ad ?_
    refine ll av ak ?_
    refine ll ay ao ?_
    refine ll az ae ?_
    refine dL [AQ a5 bj 0 bc a4 aC aI aN aY aX ad aQ aK aF aB aA ak ao ae] (fun W4 e4=>?_)
    have f4:=cL e4;try simp only [lA,lC,lN,lT']at f4
    refine ll 1 W4 ?_
    obtain ⟨_,(rfl|⟨af,ac,aL,a3,rfl,U,bU,bD,cY,cy,cI,cO⟩|⟨a0,al,aP,J,Y,aw,aZ,a9,rfl,Q,cS,b2,cD,cC,bE,bS,b9,cX,cx⟩),X⟩:=Apd (it-1) bl H vl count q call z z1 z2 z3 z4 z5 pl p2 1 p4 p5 p6 p8 B V P W4 (MS.mv C) (by subst_vars;exact AP.one asm om)
    ·refine ch X ?_
     exact Ah ⟨[H,q,1],[],[W4],[]⟩ (.inr (.inl (⟨_,_,_,_,rfl,(MS.mv C),(by first|assumption|(subst_vars;exact AP.one asm om)),kn,kn,kn,kn,kn⟩)))
    ·refine cm X ?_
     refine ch X ?_
     have ⟨_,_,cQ,cZ,cB,cb,c1,cu,_,_,_⟩:=U
     exact Ah ⟨[af,ac,aL],[],[a3],[]⟩ (.inr (.inl (⟨_,_,_,_,rfl,(MS.mv U),(by first|assumption|(subst_vars;exact AP.one asm om)),kn,kn,kn,kn,kn⟩)))
    refine cm X ?_
    refine cm X ?_
    refine ch X ?_
    have ⟨_,_,bM,cJ,bO,cv,bW,cP,_,_,_⟩:=Q
    exact Ah ⟨[al,aP,J,Y,aw],[],[aZ,a9],[]⟩ (.inr (.inr ((⟨a0,_,_,_,_,_,_,_,rfl,(MS.mv Q),(by first|assumption|(subst_vars;exact AP.one asm om)),A9,kn,kn,kn,kn,kn,kn,kn⟩))))
   refine cm G3 ?_
   refine ch G3 ?_
   have ⟨_,_,cG,b3,bT,bX,cp,c4,_,_,_⟩:=A
   refine ll aO ah ?_
   refine ll aR ap ?_
   refine ll aG ai ?_
   refine ll ax aj ?_
   refine dL [AQ bf 0 a6 ba bg au aE aJ aD aU ah 0 0 0 [] 0 ap ai aj] (fun W6 e6=>?_)
   have f6:=cL e6;try simp only [lA,lC,lN,lT']at f6
   refine ll 1 W6 ?_
   obtain ⟨_,(rfl|⟨aq,ab,aM,bi,rfl,O,cd,bP,b4,cf,b7,cr⟩|⟨a8,an,aW,N,Z,aH,a1,a2,rfl,R,ce,cK,bZ,bC,cV,bI,b0,bG,c3⟩),G7⟩:=Alh (it-1) bl I x j v call z z1 z2 z3 z4 z5 pl p2 1 p4 p5 p6 p8 B P L W6 (MS.mv A) (by subst_vars;exact AP.one asm om)
   ·refine ch G7 ?_
    exact Ah ⟨[I,x,j,v,1],[],[L,W6],[]⟩ (.inr (.inr ((⟨ag,_,_,_,_,_,_,_,rfl,(MS.mv A),(by first|assumption|(subst_vars;exact AP.one asm om)),A9,kn,kn,kn,kn,kn,kn,kn⟩))))
   ·refine cm G7 ?_
    refine ch G7 ?_
    have ⟨_,_,b6,b8,c2,cg,bK,bN,_,_,_⟩:=O
    exact Ah ⟨[aq,x,j,ab,aM],[],[L,bi],[]⟩ (.inr (.inr ((⟨ag,_,_,_,_,_,_,_,rfl,(MS.mv O),(by first|assumption|(subst_vars;exact AP.one asm om)),A9,kn,kn,kn,kn,kn,kn,kn⟩))))
   refine cm G7 ?_
   refine cm G7 ?_
   refine ch G7 ?_
   have ⟨_,_,bQ,bJ,cE,cc,bY,bR,_,_,_⟩:=R
   exact Ah ⟨[an,aW,N,Z,aH],[],[a1,a2],[]⟩ (.inr (.inr ((⟨a8,_,_,_,_,_,_,_,rfl,(MS.mv R),(by first|assumption|(subst_vars;exact AP.one asm om)),A9,kn,kn,kn,kn,kn,kn,kn⟩))))
  exact Ah v0 (.inl (⟨rfl,kn⟩))
 exact Ah v0 (.inl (⟨rfl,kn⟩))
def K_7 (N:Nat):Prop:=∀{P:Int} {B:Rs} (hB:BV B) (hl:P=B.length) (pos count:Int) (left call loads:Int) (h:0<=pos/\pos<=100/\count=0/\call=0/\loads=0:=by exact kn),Ok trees N ⟨[P,pos,count,left,call,loads],[],[B],[]⟩ fun Q=>(∃(pl J M I L w' v j H left':Int),∃(C:List Nat),∃(x z A O:Rs),Q=(0,(⟨[pl,J,M,I,L,w',v,j,H,left'],[C],[x,z,A,O],[]⟩:Aj))/\(JV z M I L w' C A)/\(x=WL)/\(v=A.length)/\(J=z.length)/\(pl=x.length)/\(0<=j)/\(j<=1500))∨(∃(pl J M I L w' v j H q left':Int),∃(C:List Nat),∃(x z A O:Rs),Q=(1,(⟨[pl,J,M,I,L,w',v,j,H,q,left'],[C],[x,z,A,O],[]⟩:Aj))/\(JV z M I L w' C A)/\(x=WL)/\(v=A.length)/\(J=z.length)/\(pl=x.length)/\(0<=j)/\(j<=1500)/\(0<=q)/\(q<=4))
theorem c_7:K_7 7:=by
 intro bl B hB hl pos count left call aN h
 obtain ⟨h0,h1,rfl,rfl,rfl⟩:=h;have Z:=MS.Ao7 hB hl ⟨h0,h1⟩;have bt:G 3=40:=rfl
 refine .of (t:=t_7) rfl ?_
 conv=>arg 3;reduce
 refine de [[PV.str [120],.int .i64 1],[.str [121],.int .i64 1]] ?_
 refine ll 2 [[PV.str [120],.int .i64 1],[.str [121],.int .i64 1]] ?_
 refine fr ?_
 obtain ⟨_,⟨an,x,rfl,bn,bo,a9⟩,G1⟩:=Yr hB hl pos 2 0 4 0 0 [[PV.str [120],.int .i64 1],[.str [121],.int .i64 1]]
 refine ch G1 ?_
 obtain ⟨_,(⟨rfl,ax⟩|⟨M,v,A,N,rfl,C,aH,aB,aW,aQ,aY,aR⟩|⟨bi,J,Q,j,q,H,U,L,rfl,z,aP,aG,aX,aV,aL,aA,aJ,a1,a0⟩),I⟩:=Apw (an%4) bl x 2 0 4 0 0 0 0 0 0 0 2 1 0 0 0 0 B [[PV.str [120],.int .i64 1],[.str [121],.int .i64 1]] [[PV.str [120],.int .i64 1],[.str [121],.int .i64 1]] (MS.mv Z)
 ·refine ch I ?_
  obtain ⟨_,⟨aa,al,aj,au,V,O,ab,ao,rfl,a2,a3,bb,bj⟩,G3⟩:=V7 (Z.Fh 0 4) 1 3 x
  refine ch G3 ?_
  refine de [] ?_
  refine ll 0 [] ?_
  exact Ah ⟨[2,0,aa,al,aj,au,V,O,2,4],[ab],[[[PV.str [120],.int .i64 1],[.str [121],.int .i64 1]],[],ao,[[PV.str [120],.int .i64 1],[.str [121],.int .i64 1]]],[]⟩ (.inl (⟨_,_,_,_,_,_,_,_,_,_,_,_,_,_,_,rfl,(by first|exact JV.mk asm asm asm|exact JV.nil asm),rfl,kn,kn,kn,kn,kn⟩))
 ·refine cm I ?_
  refine ch I ?_
  have ⟨_,_,aM,az,aD,ay,aC,aI,_,_,_⟩:=C
  obtain ⟨_,⟨ac,ag,av,ak,X,R,ad,ap,rfl,ba,bc,bp,bh⟩,G4⟩:=V7 (C.Fh 0 v) 1 3 M
  refine ch G4 ?_
  refine ll A N ?_
  refine fr ?_
  exact Ah ⟨[2,A,ac,ag,av,ak,X,R,2,v],[ad],[[[PV.str [120],.int .i64 1],[.str [121],.int .i64 1]],N,ap,[[PV.str [120],.int .i64 1],[.str [121],.int .i64 1]]],[]⟩ (.inl (⟨_,_,_,_,_,_,_,_,_,_,_,_,_,_,_,rfl,(by first|exact JV.mk asm asm asm|exact JV.nil asm),rfl,kn,kn,kn,kn,kn⟩))
 refine cm I ?_
 refine cm I ?_
 refine ch I ?_
 have ⟨_,_,aO,aE,aK,aZ,aU,aF,_,_,_⟩:=z
 obtain ⟨_,⟨af,ah,ae,aq,Y,P,ai,aw,rfl,a6,bk,br,a7⟩,G5⟩:=IZ (z.Fh j q) 1 3 J
 refine ch G5 ?_
 refine ll H L ?_
 refine fr ?_
 exact Ah ⟨[2,H,af,ah,ae,aq,Y,P,Q,j,q],[ai],[[[PV.str [120],.int .i64 1],[.str [121],.int .i64 1]],L,aw,U],[]⟩ (.inr ((⟨_,_,_,_,_,_,_,_,_,_,_,_,_,_,_,_,rfl,(by first|exact JV.mk asm asm asm|exact JV.nil asm),rfl,kn,kn,kn,kn,kn,kn,kn⟩)))
def C_6 (N n:Nat):Prop:=∀(it a:Int) (b A:Int) (pos c:Int) (d j:Int) (sub z pl:Int) (B x P:Rs) (hs:Cz j sub) (h:(j=4∨j=1∨j=2∨j=8∨j=6)/\it<=10/\it.toNat<n),Ok trees N ⟨[it,a,b,A,pos,c,d,j,sub,z,pl],[],[B,x,P],[]⟩ fun v=>(∃(q:Int),v=(0,(⟨[q],[],[],[]⟩:Aj))/\(Cz j q))
def K_6 (N:Nat):Prop:=∀(it a:Int) (b A:Int) (pos c:Int) (d j:Int) (sub z pl:Int) (B x P:Rs) (hs:Cz j sub) (h:(j=4∨j=1∨j=2∨j=8∨j=6)/\it<=10:=by exact kn),Ok trees N ⟨[it,a,b,A,pos,c,d,j,sub,z,pl],[],[B,x,P],[]⟩ fun v=>(∃(q:Int),v=(0,(⟨[q],[],[],[]⟩:Aj))/\(Cz j q))
theorem RQ (n:Nat):C_6 6 n:=by
 induction n with
 |zero=>intro it a b q pos c d j sub v pl B x P hs h;exact absurd h.2.2 (Nat.not_lt_zero _)
 |succ n ih=>
 intro it a b q pos c d j sub v pl B x P hs h
 obtain ⟨L,ae⟩:=hs;rcases L with rfl|rfl|rfl|rfl
 ·refine .of (t:=t_6) rfl ?_
  conv=>arg 3;reduce
  refine gt it 0 (fun Z=>?_) fun Z=>?_
  ·refine AB (2*1) 0 ?_
   refine eq (j%(2*1)) 0 (fun O=>?_) fun O=>?_
   ·obtain ⟨_,⟨C,rfl,Q⟩,X⟩:=ih (it-1) a b q pos c d j (2*1) v pl B x P (by unfold Cz;omega) kn
    refine ch X ?_
    exact Ah ⟨[C],[],[],[]⟩ (⟨_,rfl,(by first|assumption|(unfold Cz;omega))⟩)
   exact Ah ⟨[1],[],[],[]⟩ (⟨_,rfl,(by first|assumption|(unfold Cz;omega))⟩)
  exact Ah ⟨[1],[],[],[]⟩ (⟨_,rfl,(by first|assumption|(unfold Cz;omega))⟩)
 ·refine .of (t:=t_6) rfl ?_
  conv=>arg 3;reduce
  refine gt it 0 (fun R=>?_) fun R=>?_
  ·refine AB (2*2) 0 ?_
   refine eq (j%(2*2)) 0 (fun t5=>?_) fun t5=>?_
   ·obtain ⟨_,⟨H,rfl,Y⟩,V⟩:=ih (it-1) a b q pos c d j (2*2) v pl B x P (by unfold Cz;omega) kn
    refine ch V ?_
    exact Ah ⟨[H],[],[],[]⟩ (⟨_,rfl,(by first|assumption|(unfold Cz;omega))⟩)
   exact Ah ⟨[2],[],[],[]⟩ (⟨_,rfl,(by first|assumption|(unfold Cz;omega))⟩)
  exact Ah ⟨[2],[],[],[]⟩ (⟨_,rfl,(by first|assumption|(unfold Cz;omega))⟩)
 ·refine .of (t:=t_6) rfl ?_
  conv=>arg 3;reduce
  refine gt it 0 (fun U=>?_) fun U=>?_
  ·refine AB (2*4) 0 ?_
   refine eq (j%(2*4)) 0 (fun t8=>?_) fun t8=>?_
   ·obtain ⟨_,⟨A,rfl,aa⟩,G9⟩:=ih (it-1) a b q pos c d j (2*4) v pl B x P (by unfold Cz;omega) kn
    refine ch G9 ?_
    exact Ah ⟨[A],[],[],[]⟩ (⟨_,rfl,(by first|assumption|(unfold Cz;omega))⟩)
   exact Ah ⟨[4],[],[],[]⟩ (⟨_,rfl,(by first|assumption|(unfold Cz;omega))⟩)
  exact Ah ⟨[4],[],[],[]⟩ (⟨_,rfl,(by first|assumption|(unfold Cz;omega))⟩)
 ·refine .of (t:=t_6) rfl ?_
  conv=>arg 3;reduce
  refine gt it 0 (fun I=>?_) fun I=>?_
  ·refine AB (2*8) 0 ?_
   refine eq (j%(2*8)) 0 (fun M=>?_) fun M=>?_
   ·obtain ⟨_,⟨z,rfl,N⟩,J⟩:=ih (it-1) a b q pos c d j (2*8) v pl B x P (by unfold Cz;omega) kn
    refine ch J ?_
    exact Ah ⟨[z],[],[],[]⟩ (⟨_,rfl,(by first|assumption|(unfold Cz;omega))⟩)
   exact Ah ⟨[8],[],[],[]⟩ (⟨_,rfl,(by first|assumption|(unfold Cz;omega))⟩)
  exact Ah ⟨[8],[],[],[]⟩ (⟨_,rfl,(by first|assumption|(unfold Cz;omega))⟩)
theorem c_6:K_6 6:=fun it a b x pos c d j sub v pl B q P hs h=>RQ (it.toNat+1) it a b x pos c d j sub v pl B q P hs ⟨h.1,h.2,Nat.lt_succ_self _⟩
def Aq4 (N n:Nat):Prop:=∀{Γ:Ctx} {K M:Int} {O:Ctx} {x:Int} (it z1:Int) (Z I:Int) (pos C:Int) (count left:Int) (Q sub:Int) (X pl A:Int) (B Y:Rs) (P V R:Rs) (hM:MS false Γ 3 K M I pos C count left 0 1 B V) (hL:AP 0 0 3 O Γ x left R) (h:it<=10/\A=R.length/\A+it<=20/\0<=A/\it.toNat<n),Ok trees N ⟨[it,z1,Z,I,pos,C,count,left,Q,sub,X,pl,A],[],[B,Y,P,V,R],[]⟩ fun L=>(L=(0,v0))∨(∃(j left' q:Int),∃(z:Rs),L=(1,(⟨[j,left',q],[],[z],[]⟩:Aj))/\(MS false Γ 3 K M I j C count left' 0 1 B V)/\(AP 0 0 3 O Γ x left' z)/\(q=z.length)/\(q<=20)/\(left'<=left)/\(j+300*left'<=pos+300*left)/\(A<=q))∨(∃(U:Ctx),∃(j H v left' q:Int),∃(J z:Rs),L=(2,(⟨[j,H,v,left',q],[],[J,z],[]⟩:Aj))/\(MS false U 3 K M I j H v left' 0 1 B J)/\(AP 0 0 3 O U x left' z)/\(Ext C V J)/\(count<=v)/\(C<=H)/\(q=z.length)/\(q<=20)/\(left'<=left)/\(j+300*left'<=pos+300*left)/\(A<=q))
def Aqh (N:Nat):Prop:=∀{Γ:Ctx} {K M:Int} {O:Ctx} {x:Int} (it z1:Int) (Z I:Int) (pos C:Int) (count left:Int) (Q sub:Int) (X pl A:Int) (B Y:Rs) (P V R:Rs) (hM:MS false Γ 3 K M I pos C count left 0 1 B V) (hL:AP 0 0 3 O Γ x left R) (h:it<=10/\A=R.length/\A+it<=20/\0<=A:=by exact kn),Ok trees N ⟨[it,z1,Z,I,pos,C,count,left,Q,sub,X,pl,A],[],[B,Y,P,V,R],[]⟩ fun L=>(L=(0,v0))∨(∃(j left' q:Int),∃(z:Rs),L=(1,(⟨[j,left',q],[],[z],[]⟩:Aj))/\(MS false Γ 3 K M I j C count left' 0 1 B V)/\(AP 0 0 3 O Γ x left' z)/\(q=z.length)/\(q<=20)/\(left'<=left)/\(j+300*left'<=pos+300*left)/\(A<=q))∨(∃(U:Ctx),∃(j H v left' q:Int),∃(J z:Rs),L=(2,(⟨[j,H,v,left',q],[],[J,z],[]⟩:Aj))/\(MS false U 3 K M I j H v left' 0 1 B J)/\(AP 0 0 3 O U x left' z)/\(Ext C V J)/\(count<=v)/\(C<=H)/\(q=z.length)/\(q<=20)/\(left'<=left)/\(j+300*left'<=pos+300*left)/\(A<=q))
theorem Aoi (n:Nat):Aq4 42 n:=by
 induction n with
 |zero=>intro Γ K M Γ0 aL it z1 z2 bl pos vl count left aj sub al pl rl B Ar P V R hM A h;exact absurd h.2.2.2.2 (Nat.not_lt_zero _)
 |succ n ih=>
 intro Γ K M Γ0 aL it z1 z2 bl pos vl count left aj sub al pl rl B Ar P V R hM A h
 have ⟨hm,dt,dj,dy,dd,dk,dw,dl,du,dh,dx⟩:=hM;have ⟨hB,hl,hvl,GP,hV,hb,hc,hd⟩:=hm;have di:G 3=40:=rfl;have dv:G 2=12:=rfl
 refine .of (t:=AfB) rfl ?_
 conv=>arg 3;reduce
 refine gt it 0 (fun t1=>?_) fun t1=>?_
 ·refine gt left 0 (fun t2=>?_) fun t2=>?_
  ·obtain ⟨_,(⟨be,bv,bo,aH,aO,aV,a4,a2,aZ,aQ,aK,aF,aA,aD,aE,H,q,bc,a5,aG,ae,aq,aw,af,rfl,C,cz,cV,bE,cy,cT,cr,cS⟩|⟨ah,bp,bf,bk,az,aJ,aP,a1,aY,a0,aM,aC,I,x,j,v,br,aI,ak,ax,an,ap,L,rfl,z,bU,bG,b4,cK,cM,cv,cg,cp,bK,bA⟩),G3⟩:=RE 3 2 1 0 0 bl pos vl count left 0 1 B V (MS.mv hM)
   ·refine ch G3 ?_
    have ⟨_,_,ci,cG,cE,b0,cQ,cj,_,_,_⟩:=C
    refine ll a2 ae ?_
    refine ll aA aq ?_
    refine ll aD aw ?_
    refine ll aE af ?_
    refine dL (R++[AQ be bv 0 bo bc aH aO aV a5 a4 ae aZ aQ aK aG aF aq aw af]) (fun W4 e4=>?_) (Bq (pw rl R) pe)
    have f4:=cL e4;try simp only [lA,lC,lN,lT']at f4
    refine E6 (W4.length:Int) 1048576 ?_
    obtain ⟨_,(rfl|⟨ag,ad,aR,bb,rfl,X,bT,bC,cX,cx,cH,cN⟩|⟨a7,au,aW,J,Z,aB,a6,bj,rfl,Q,cR,b1,cC,cB,bD,bR,b8,cW,cw⟩),Y⟩:=ih (it-1) z1 z2 bl H vl count q aj sub al pl (W4.length:Int) B Ar P V W4 (MS.mv C) (by subst_vars;exact AP.snoc A asm) kn
    ·refine ch Y ?_
     exact Ah ⟨[H,q,(W4.length:Int)],[],[W4],[]⟩ (.inr (.inl (⟨_,_,_,_,rfl,(MS.mv C),(by first|assumption|(subst_vars;exact AP.snoc A asm)),kn,kn,kn,kn,kn⟩)))
    ·refine cm Y ?_
     refine ch Y ?_
     have ⟨_,_,cP,cY,cA,b9,cZ,ct,_,_,_⟩:=X
     exact Ah ⟨[ag,ad,aR],[],[bb],[]⟩ (.inr (.inl (⟨_,_,_,_,rfl,(MS.mv X),(by first|assumption|(subst_vars;exact AP.snoc A asm)),kn,kn,kn,kn,kn⟩)))
    refine cm Y ?_
    refine cm Y ?_
    refine ch Y ?_
    have ⟨_,_,bL,cI,bN,cu,bV,cO,_,_,_⟩:=Q
    exact Ah ⟨[au,aW,J,Z,aB],[],[a6,bj],[]⟩ (.inr (.inr ((⟨a7,_,_,_,_,_,_,_,rfl,(MS.mv Q),(by first|assumption|(subst_vars;exact AP.snoc A asm)),A9,kn,kn,kn,kn,kn,kn,kn⟩))))
   refine cm G3 ?_
   refine ch G3 ?_
   have ⟨_,_,cF,b2,bS,bW,co,c3,_,_,_⟩:=z
   refine ll aY ak ?_
   refine ll a0 ax ?_
   refine ll aM an ?_
   refine ll aC ap ?_
   refine dL (R++[AQ bp 0 bf bk br az aJ aP aI a1 ak 0 0 0 [] 0 ax an ap]) (fun W6 e6=>?_) (Bq (pw rl R) pe)
   have f6:=cL e6;try simp only [lA,lC,lN,lT']at f6
   refine E6 (W6.length:Int) 1048576 ?_
   obtain ⟨_,(rfl|⟨ay,ac,aU,bt,rfl,O,cc,bO,b3,ce,b6,cq⟩|⟨bh,av,a3,N,aa,aN,a9,ba,rfl,U,cd,cJ,bY,bB,cU,bH,bZ,bF,c2⟩),G7⟩:=ih (it-1) z1 z2 bl I x j v aj sub al pl (W6.length:Int) B Ar P L W6 (MS.mv z) (by subst_vars;exact AP.snoc A asm) kn
   ·refine ch G7 ?_
    exact Ah ⟨[I,x,j,v,(W6.length:Int)],[],[L,W6],[]⟩ (.inr (.inr ((⟨ah,_,_,_,_,_,_,_,rfl,(MS.mv z),(by first|assumption|(subst_vars;exact AP.snoc A asm)),A9,kn,kn,kn,kn,kn,kn,kn⟩))))
   ·refine cm G7 ?_
    refine ch G7 ?_
    have ⟨_,_,b5,b7,c1,cf,bJ,bM,_,_,_⟩:=O
    exact Ah ⟨[ay,x,j,ac,aU],[],[L,bt],[]⟩ (.inr (.inr ((⟨ah,_,_,_,_,_,_,_,rfl,(MS.mv O),(by first|assumption|(subst_vars;exact AP.snoc A asm)),A9,kn,kn,kn,kn,kn,kn,kn⟩))))
   refine cm G7 ?_
   refine cm G7 ?_
   refine ch G7 ?_
   have ⟨_,_,bP,bI,cD,cb,bX,bQ,_,_,_⟩:=U
   exact Ah ⟨[av,a3,N,aa,aN],[],[a9,ba],[]⟩ (.inr (.inr ((⟨bh,_,_,_,_,_,_,_,rfl,(MS.mv U),(by first|assumption|(subst_vars;exact AP.snoc A asm)),A9,kn,kn,kn,kn,kn,kn,kn⟩))))
  exact Ah v0 (.inl rfl)
 exact Ah v0 (.inl rfl)
theorem Alp:Aqh 42:=fun {Γ} {K} {M} {Γ0} {left0} it z1 z2 bl pos vl count left grp sub al pl rl B Ar P V R hM hL h=>Aoi (it.toNat+1) it z1 z2 bl pos vl count left grp sub al pl rl B Ar P V R hM hL ⟨h.1,h.2.1,h.2.2.1,h.2.2.2,Nat.lt_succ_self _⟩
def Aql (N:Nat):Prop:=∀{Γ:Ctx} {K M:Int} (it z1:Int) (R C:Int) (pos z:Int) (count left:Int) (J sub:Int) (O pl:Int) (B Q:Rs) (P V:Rs) (U:MS false Γ 3 K M C pos z count left 0 1 B V) (h:it<=10:=by exact kn),Ok trees N ⟨[it,z1,R,C,pos,z,count,left,J,sub,O,pl],[],[B,Q,P,V],[]⟩ fun I=>(I=(0,v0)/\(it<=0∨left<=0))∨(∃(j left' q:Int),∃(x:Rs),I=(1,(⟨[j,left',q],[],[x],[]⟩:Aj))/\(MS false Γ 3 K M C j z count left' 0 1 B V)/\(AP 0 0 3 Γ Γ left left' x)/\(q=x.length)/\(q<=20)/\(left'<=left)/\(j+300*left'<=pos+300*left)/\(1<=q))∨(∃(L:Ctx),∃(j A v left' q:Int),∃(H x:Rs),I=(2,(⟨[j,A,v,left',q],[],[H,x],[]⟩:Aj))/\(MS false L 3 K M C j A v left' 0 1 B H)/\(AP 0 0 3 Γ L left left' x)/\(Ext z V H)/\(count<=v)/\(z<=A)/\(q=x.length)/\(q<=20)/\(left'<=left)/\(j+300*left'<=pos+300*left)/\(1<=q))
theorem Apx:Aql 10:=by
 intro Γ K M it z1 z2 bl pos vl count left aZ sub al pl B Ar P V hM h
 have ⟨hm,dh,db,dt,c7,dc,dk,dd,di,c8,dl⟩:=hM;have ⟨hB,hl,hvl,GP,hV,hb,hc,hd⟩:=hm;have c9:G 3=40:=rfl;have dj:G 2=12:=rfl
 refine .of (t:=AfJ) rfl ?_
 conv=>arg 3;reduce
 refine gt it 0 (fun t1=>?_) fun t1=>?_
 ·refine gt left 0 (fun t2=>?_) fun t2=>?_
  ·obtain ⟨_,(⟨a6,bk,be,aC,aI,aN,aX,aV,aQ,aK,aF,aA,av,ay,az,C,q,a5,aY,aB,ac,aj,ao,ad,rfl,A,cv,cR,bA,cu,cP,cj,cO⟩|⟨af,bg,a7,bb,au,aE,aJ,aU,aP,aR,aG,ax,H,x,j,v,bh,aD,ag,ap,ah,ai,J,rfl,z,bQ,bC,b0,cG,cH,cq,cc,cg,bG,br⟩),G3⟩:=RE 3 2 1 0 0 bl pos vl count left 0 1 B V (MS.mv hM)
   ·refine ch G3 ?_
    have ⟨_,_,cd,cC,cA,bW,cM,ce,_,_,_⟩:=A
    refine ll aV ac ?_
    refine ll av aj ?_
    refine ll ay ao ?_
    refine ll az ad ?_
    refine dL [AQ a6 bk 0 be a5 aC aI aN aY aX ac aQ aK aF aB aA aj ao ad] (fun W4 e4=>?_)
    have f4:=cL e4;try simp only [lA,lC,lN,lT']at f4
    refine ll 1 W4 ?_
    obtain ⟨_,(rfl|⟨ae,ab,aL,a4,rfl,R,bP,bx,cT,ct,cD,cI⟩|⟨a1,ak,aO,I,X,aw,a0,ba,rfl,O,cN,bX,cy,cx,bz,bN,b4,cS,cr⟩),U⟩:=Alp (it-1) z1 z2 bl C vl count q aZ sub al pl 1 B Ar P V W4 (MS.mv A) (by subst_vars;exact AP.one asm om)
    ·refine ch U ?_
     exact Ah ⟨[C,q,1],[],[W4],[]⟩ (.inr (.inl (⟨_,_,_,_,rfl,(MS.mv A),(by first|assumption|(subst_vars;exact AP.one asm om)),kn,kn,kn,kn,kn⟩)))
    ·refine cm U ?_
     refine ch U ?_
     have ⟨_,_,cK,cU,cw,b5,cV,co,_,_,_⟩:=R
     exact Ah ⟨[ae,ab,aL],[],[a4],[]⟩ (.inr (.inl (⟨_,_,_,_,rfl,(MS.mv R),(by first|assumption|(subst_vars;exact AP.one asm om)),kn,kn,kn,kn,kn⟩)))
    refine cm U ?_
    refine cm U ?_
    refine ch U ?_
    have ⟨_,_,bH,cE,bJ,cp,bR,cJ,_,_,_⟩:=O
    exact Ah ⟨[ak,aO,I,X,aw],[],[a0,ba],[]⟩ (.inr (.inr ((⟨a1,_,_,_,_,_,_,_,rfl,(MS.mv O),(by first|assumption|(subst_vars;exact AP.one asm om)),A9,kn,kn,kn,kn,kn,kn,kn⟩))))
   refine cm G3 ?_
   refine ch G3 ?_
   have ⟨_,_,cB,bY,bO,bS,cf,cY,_,_,_⟩:=z
   refine ll aP ag ?_
   refine ll aR ap ?_
   refine ll aG ah ?_
   refine ll ax ai ?_
   refine dL [AQ bg 0 a7 bb bh au aE aJ aD aU ag 0 0 0 [] 0 ap ah ai] (fun W6 e6=>?_)
   have f6:=cL e6;try simp only [lA,lC,lN,lT']at f6
   refine ll 1 W6 ?_
   obtain ⟨_,(rfl|⟨aq,aa,aM,bj,rfl,N,b7,bK,bZ,b9,b2,ci⟩|⟨a9,an,aW,L,Y,aH,a2,a3,rfl,Q,b8,cF,bU,bw,cQ,bD,bV,bB,cX⟩),Z⟩:=Alp (it-1) z1 z2 bl H x j v aZ sub al pl 1 B Ar P J W6 (MS.mv z) (by subst_vars;exact AP.one asm om)
   ·refine ch Z ?_
    exact Ah ⟨[H,x,j,v,1],[],[J,W6],[]⟩ (.inr (.inr ((⟨af,_,_,_,_,_,_,_,rfl,(MS.mv z),(by first|assumption|(subst_vars;exact AP.one asm om)),A9,kn,kn,kn,kn,kn,kn,kn⟩))))
   ·refine cm Z ?_
    refine ch Z ?_
    have ⟨_,_,b1,b3,cW,cb,bF,bI,_,_,_⟩:=N
    exact Ah ⟨[aq,x,j,aa,aM],[],[J,bj],[]⟩ (.inr (.inr ((⟨af,_,_,_,_,_,_,_,rfl,(MS.mv N),(by first|assumption|(subst_vars;exact AP.one asm om)),A9,kn,kn,kn,kn,kn,kn,kn⟩))))
   refine cm Z ?_
   refine cm Z ?_
   refine ch Z ?_
   have ⟨_,_,bL,bE,cz,b6,bT,bM,_,_,_⟩:=Q
   exact Ah ⟨[an,aW,L,Y,aH],[],[a2,a3],[]⟩ (.inr (.inr ((⟨a9,_,_,_,_,_,_,_,rfl,(MS.mv Q),(by first|assumption|(subst_vars;exact AP.one asm om)),A9,kn,kn,kn,kn,kn,kn,kn⟩))))
  exact Ah v0 (.inl (⟨rfl,kn⟩))
 exact Ah v0 (.inl (⟨rfl,kn⟩))
def Aqw (N n:Nat):Prop:=∀{Γ:Ctx} {K M:Int} {O:Ctx} {x:Int} (it z1:Int) (z2 I:Int) (pos C:Int) (count left:Int) (Q sub:Int) (Y pl:Int) (fl A:Int) (B Z:Rs) (P X:Rs) (V R:Rs) (hM:MS false Γ 3 K M I pos C count left 1 1 B V) (hL:AP 0 0 3 O Γ x left R) (h:it<=10/\A=R.length/\A+it<=20/\0<=A/\it.toNat<n),Ok trees N ⟨[it,z1,z2,I,pos,C,count,left,Q,sub,Y,pl,fl,A],[],[B,Z,P,X,V,R],[]⟩ fun L=>(L=(0,v0))∨(∃(j left' q:Int),∃(z:Rs),L=(1,(⟨[j,left',q],[],[z],[]⟩:Aj))/\(MS false Γ 3 K M I j C count left' 1 1 B V)/\(AP 0 0 3 O Γ x left' z)/\(q=z.length)/\(q<=20)/\(left'<=left)/\(j+300*left'<=pos+300*left)/\(A<=q))∨(∃(U:Ctx),∃(j H v left' q:Int),∃(J z:Rs),L=(2,(⟨[j,H,v,left',q],[],[J,z],[]⟩:Aj))/\(MS false U 3 K M I j H v left' 1 1 B J)/\(AP 0 0 3 O U x left' z)/\(Ext C V J)/\(count<=v)/\(C<=H)/\(q=z.length)/\(q<=20)/\(left'<=left)/\(j+300*left'<=pos+300*left)/\(A<=q))
def ApL (N:Nat):Prop:=∀{Γ:Ctx} {K M:Int} {O:Ctx} {x:Int} (it z1:Int) (z2 I:Int) (pos C:Int) (count left:Int) (Q sub:Int) (Y pl:Int) (fl A:Int) (B Z:Rs) (P X:Rs) (V R:Rs) (hM:MS false Γ 3 K M I pos C count left 1 1 B V) (hL:AP 0 0 3 O Γ x left R) (h:it<=10/\A=R.length/\A+it<=20/\0<=A:=by exact kn),Ok trees N ⟨[it,z1,z2,I,pos,C,count,left,Q,sub,Y,pl,fl,A],[],[B,Z,P,X,V,R],[]⟩ fun L=>(L=(0,v0))∨(∃(j left' q:Int),∃(z:Rs),L=(1,(⟨[j,left',q],[],[z],[]⟩:Aj))/\(MS false Γ 3 K M I j C count left' 1 1 B V)/\(AP 0 0 3 O Γ x left' z)/\(q=z.length)/\(q<=20)/\(left'<=left)/\(j+300*left'<=pos+300*left)/\(A<=q))∨(∃(U:Ctx),∃(j H v left' q:Int),∃(J z:Rs),L=(2,(⟨[j,H,v,left',q],[],[J,z],[]⟩:Aj))/\(MS false U 3 K M I j H v left' 1 1 B J)/\(AP 0 0 3 O U x left' z)/\(Ext C V J)/\(count<=v)/\(C<=H)/\(q=z.length)/\(q<=20)/\(left'<=left)/\(j+300*left'<=pos+300*left)/\(A<=q))
theorem Aoa (n:Nat):Aqw 75 n:=by
 induction n with
 |zero=>intro Γ K M Γ0 aL it z1 z2 bl pos vl count left aj sub al pl fl rl B Ar P Fs V R hM A h;exact absurd h.2.2.2.2 (Nat.not_lt_zero _)
 |succ n ih=>
 intro Γ K M Γ0 aL it z1 z2 bl pos vl count left aj sub al pl fl rl B Ar P Fs V R hM A h
 have ⟨hm,du,dk,dz,dh,dl,dx,dt,dv,di,dy⟩:=hM;have ⟨hB,hl,hvl,GP,hV,hb,hc,hd⟩:=hm;have dj:G 3=40:=rfl;have dw:G 2=12:=rfl
 refine .of (t:=Afo) rfl ?_
 conv=>arg 3;reduce
 refine gt it 0 (fun t1=>?_) fun t1=>?_
 ·refine gt left 0 (fun t2=>?_) fun t2=>?_
  ·obtain ⟨_,(⟨bf,bw,bp,aH,aO,aV,a4,a2,aZ,aQ,aK,aF,aA,aD,aE,H,q,be,a5,aG,ae,aq,aw,af,rfl,C,cA,cW,bF,cz,cU,ct,cT⟩|⟨ah,br,bg,bm,az,aJ,aP,a1,aY,a0,aM,aC,I,x,j,v,bt,aI,ak,ax,an,ap,L,rfl,z,bV,bH,b5,cM,cN,cw,ci,cq,bL,bB⟩),G3⟩:=RE 3 2 1 0 0 bl pos vl count left 1 1 B V (MS.mv hM)
   ·refine ch G3 ?_
    have ⟨_,_,cj,cH,cF,b1,cR,co,_,_,_⟩:=C
    refine ll a2 ae ?_
    refine ll aA aq ?_
    refine ll aD aw ?_
    refine ll aE af ?_
    refine dL (R++[AQ bf bw 0 bp be aH aO aV a5 a4 ae aZ aQ aK aG aF aq aw af]) (fun W4 e4=>?_) (Bq (pw rl R) pe)
    have f4:=cL e4;try simp only [lA,lC,lN,lT']at f4
    refine E6 (W4.length:Int) 1048576 ?_
    obtain ⟨_,(rfl|⟨ag,ad,aR,bc,rfl,X,bU,bD,cY,cy,cI,cO⟩|⟨a7,au,aW,J,Z,aB,a6,bk,rfl,Q,cS,b2,cD,cC,bE,bS,b9,cX,cx⟩),Y⟩:=ih (it-1) z1 z2 bl H vl count q aj sub al pl fl (W4.length:Int) B Ar P Fs V W4 (MS.mv C) (by subst_vars;exact AP.snoc A asm) kn
    ·refine ch Y ?_
     exact Ah ⟨[H,q,(W4.length:Int)],[],[W4],[]⟩ (.inr (.inl (⟨_,_,_,_,rfl,(MS.mv C),(by first|assumption|(subst_vars;exact AP.snoc A asm)),kn,kn,kn,kn,kn⟩)))
    ·refine cm Y ?_
     refine ch Y ?_
     have ⟨_,_,cQ,cZ,cB,cb,c1,cu,_,_,_⟩:=X
     exact Ah ⟨[ag,ad,aR],[],[bc],[]⟩ (.inr (.inl (⟨_,_,_,_,rfl,(MS.mv X),(by first|assumption|(subst_vars;exact AP.snoc A asm)),kn,kn,kn,kn,kn⟩)))
    refine cm Y ?_
    refine cm Y ?_
    refine ch Y ?_
    have ⟨_,_,bM,cJ,bO,cv,bW,cP,_,_,_⟩:=Q
    exact Ah ⟨[au,aW,J,Z,aB],[],[a6,bk],[]⟩ (.inr (.inr ((⟨a7,_,_,_,_,_,_,_,rfl,(MS.mv Q),(by first|assumption|(subst_vars;exact AP.snoc A asm)),A9,kn,kn,kn,kn,kn,kn,kn⟩))))
   refine cm G3 ?_
   refine ch G3 ?_
   have ⟨_,_,cG,b3,bT,bX,cp,c4,_,_,_⟩:=z
   refine ll aY ak ?_
   refine ll a0 ax ?_
   refine ll aM an ?_
   refine ll aC ap ?_
   refine dL (R++[AQ br 0 bg bm bt az aJ aP aI a1 ak 0 0 0 [] 0 ax an ap]) (fun W6 e6=>?_) (Bq (pw rl R) pe)
   have f6:=cL e6;try simp only [lA,lC,lN,lT']at f6
   refine E6 (W6.length:Int) 1048576 ?_
   obtain ⟨_,(rfl|⟨ay,ac,aU,bv,rfl,O,cd,bP,b4,cf,b7,cr⟩|⟨bi,av,a3,N,aa,aN,a9,bb,rfl,U,ce,cK,bZ,bC,cV,bI,b0,bG,c3⟩),G7⟩:=ih (it-1) z1 z2 bl I x j v aj sub al pl fl (W6.length:Int) B Ar P Fs L W6 (MS.mv z) (by subst_vars;exact AP.snoc A asm) kn
   ·refine ch G7 ?_
    exact Ah ⟨[I,x,j,v,(W6.length:Int)],[],[L,W6],[]⟩ (.inr (.inr ((⟨ah,_,_,_,_,_,_,_,rfl,(MS.mv z),(by first|assumption|(subst_vars;exact AP.snoc A asm)),A9,kn,kn,kn,kn,kn,kn,kn⟩))))
   ·refine cm G7 ?_
    refine ch G7 ?_
    have ⟨_,_,b6,b8,c2,cg,bK,bN,_,_,_⟩:=O
    exact Ah ⟨[ay,x,j,ac,aU],[],[L,bv],[]⟩ (.inr (.inr ((⟨ah,_,_,_,_,_,_,_,rfl,(MS.mv O),(by first|assumption|(subst_vars;exact AP.snoc A asm)),A9,kn,kn,kn,kn,kn,kn,kn⟩))))
   refine cm G7 ?_
   refine cm G7 ?_
   refine ch G7 ?_
   have ⟨_,_,bQ,bJ,cE,cc,bY,bR,_,_,_⟩:=U
   exact Ah ⟨[av,a3,N,aa,aN],[],[a9,bb],[]⟩ (.inr (.inr ((⟨bi,_,_,_,_,_,_,_,rfl,(MS.mv U),(by first|assumption|(subst_vars;exact AP.snoc A asm)),A9,kn,kn,kn,kn,kn,kn,kn⟩))))
  exact Ah v0 (.inl rfl)
 exact Ah v0 (.inl rfl)
theorem Ali:ApL 75:=fun {Γ} {K} {M} {Γ0} {left0} it z1 z2 bl pos vl count left grp sub al pl fl rl B Ar P Fs V R hM hL h=>Aoa (it.toNat+1) it z1 z2 bl pos vl count left grp sub al pl fl rl B Ar P Fs V R hM hL ⟨h.1,h.2.1,h.2.2.1,h.2.2.2,Nat.lt_succ_self _⟩
def ApP (N:Nat):Prop:=∀{Γ:Ctx} {K M:Int} (it z1:Int) (U C:Int) (pos z:Int) (count left:Int) (J sub:Int) (Q pl fl:Int) (B R:Rs) (P O V:Rs) (X:MS false Γ 3 K M C pos z count left 1 1 B V) (h:it<=10:=by exact kn),Ok trees N ⟨[it,z1,U,C,pos,z,count,left,J,sub,Q,pl,fl],[],[B,R,P,O,V],[]⟩ fun I=>(I=(0,v0)/\(it<=0∨left<=0))∨(∃(j left' q:Int),∃(x:Rs),I=(1,(⟨[j,left',q],[],[x],[]⟩:Aj))/\(MS false Γ 3 K M C j z count left' 1 1 B V)/\(AP 0 0 3 Γ Γ left left' x)/\(q=x.length)/\(q<=20)/\(left'<=left)/\(j+300*left'<=pos+300*left)/\(1<=q))∨(∃(L:Ctx),∃(j A v left' q:Int),∃(H x:Rs),I=(2,(⟨[j,A,v,left',q],[],[H,x],[]⟩:Aj))/\(MS false L 3 K M C j A v left' 1 1 B H)/\(AP 0 0 3 Γ L left left' x)/\(Ext z V H)/\(count<=v)/\(z<=A)/\(q=x.length)/\(q<=20)/\(left'<=left)/\(j+300*left'<=pos+300*left)/\(1<=q))
theorem Alj:ApP 68:=by
 intro Γ K M it z1 z2 bl pos vl count left aZ sub al pl fl B Ar P Fs V hM h
 have ⟨hm,di,dc,du,c8,dd,dl,dh,dj,c9,dt⟩:=hM;have ⟨hB,hl,hvl,GP,hV,hb,hc,hd⟩:=hm;have db:G 3=40:=rfl;have dk:G 2=12:=rfl
 refine .of (t:=Afr) rfl ?_
 conv=>arg 3;reduce
 refine gt it 0 (fun t1=>?_) fun t1=>?_
 ·refine gt left 0 (fun t2=>?_) fun t2=>?_
  ·obtain ⟨_,(⟨a6,bk,be,aC,aI,aN,aX,aV,aQ,aK,aF,aA,av,ay,az,C,q,a5,aY,aB,ac,aj,ao,ad,rfl,A,cw,cS,bB,cv,cQ,co,cP⟩|⟨af,bg,a7,bb,au,aE,aJ,aU,aP,aR,aG,ax,H,x,j,v,bh,aD,ag,ap,ah,ai,J,rfl,z,bR,bD,b1,cH,cI,cr,cd,ci,bH,bt⟩),G3⟩:=RE 3 2 1 0 0 bl pos vl count left 1 1 B V (MS.mv hM)
   ·refine ch G3 ?_
    have ⟨_,_,ce,cD,cB,bX,cN,cf,_,_,_⟩:=A
    refine ll aV ac ?_
    refine ll av aj ?_
    refine ll ay ao ?_
    refine ll az ad ?_
    refine dL [AQ a6 bk 0 be a5 aC aI aN aY aX ac aQ aK aF aB aA aj ao ad] (fun W4 e4=>?_)
    have f4:=cL e4;try simp only [lA,lC,lN,lT']at f4
    refine ll 1 W4 ?_
    obtain ⟨_,(rfl|⟨ae,ab,aL,a4,rfl,R,bQ,bz,cU,cu,cE,cJ⟩|⟨a1,ak,aO,I,X,aw,a0,ba,rfl,O,cO,bY,cz,cy,bA,bO,b5,cT,ct⟩),U⟩:=Ali (it-1) z1 z2 bl C vl count q aZ sub al pl fl 1 B Ar P Fs V W4 (MS.mv A) (by subst_vars;exact AP.one asm om)
    ·refine ch U ?_
     exact Ah ⟨[C,q,1],[],[W4],[]⟩ (.inr (.inl (⟨_,_,_,_,rfl,(MS.mv A),(by first|assumption|(subst_vars;exact AP.one asm om)),kn,kn,kn,kn,kn⟩)))
    ·refine cm U ?_
     refine ch U ?_
     have ⟨_,_,cM,cV,cx,b6,cW,cp,_,_,_⟩:=R
     exact Ah ⟨[ae,ab,aL],[],[a4],[]⟩ (.inr (.inl (⟨_,_,_,_,rfl,(MS.mv R),(by first|assumption|(subst_vars;exact AP.one asm om)),kn,kn,kn,kn,kn⟩)))
    refine cm U ?_
    refine cm U ?_
    refine ch U ?_
    have ⟨_,_,bI,cF,bK,cq,bS,cK,_,_,_⟩:=O
    exact Ah ⟨[ak,aO,I,X,aw],[],[a0,ba],[]⟩ (.inr (.inr ((⟨a1,_,_,_,_,_,_,_,rfl,(MS.mv O),(by first|assumption|(subst_vars;exact AP.one asm om)),A9,kn,kn,kn,kn,kn,kn,kn⟩))))
   refine cm G3 ?_
   refine ch G3 ?_
   have ⟨_,_,cC,bZ,bP,bT,cg,cZ,_,_,_⟩:=z
   refine ll aP ag ?_
   refine ll aR ap ?_
   refine ll aG ah ?_
   refine ll ax ai ?_
   refine dL [AQ bg 0 a7 bb bh au aE aJ aD aU ag 0 0 0 [] 0 ap ah ai] (fun W6 e6=>?_)
   have f6:=cL e6;try simp only [lA,lC,lN,lT']at f6
   refine ll 1 W6 ?_
   obtain ⟨_,(rfl|⟨aq,aa,aM,bj,rfl,N,b8,bL,b0,cb,b3,cj⟩|⟨a9,an,aW,L,Y,aH,a2,a3,rfl,Q,b9,cG,bV,bx,cR,bE,bW,bC,cY⟩),Z⟩:=Ali (it-1) z1 z2 bl H x j v aZ sub al pl fl 1 B Ar P Fs J W6 (MS.mv z) (by subst_vars;exact AP.one asm om)
   ·refine ch Z ?_
    exact Ah ⟨[H,x,j,v,1],[],[J,W6],[]⟩ (.inr (.inr ((⟨af,_,_,_,_,_,_,_,rfl,(MS.mv z),(by first|assumption|(subst_vars;exact AP.one asm om)),A9,kn,kn,kn,kn,kn,kn,kn⟩))))
   ·refine cm Z ?_
    refine ch Z ?_
    have ⟨_,_,b2,b4,cX,cc,bG,bJ,_,_,_⟩:=N
    exact Ah ⟨[aq,x,j,aa,aM],[],[J,bj],[]⟩ (.inr (.inr ((⟨af,_,_,_,_,_,_,_,rfl,(MS.mv N),(by first|assumption|(subst_vars;exact AP.one asm om)),A9,kn,kn,kn,kn,kn,kn,kn⟩))))
   refine cm Z ?_
   refine cm Z ?_
   refine ch Z ?_
   have ⟨_,_,bM,bF,cA,b7,bU,bN,_,_,_⟩:=Q
   exact Ah ⟨[an,aW,L,Y,aH],[],[a2,a3],[]⟩ (.inr (.inr ((⟨a9,_,_,_,_,_,_,_,rfl,(MS.mv Q),(by first|assumption|(subst_vars;exact AP.one asm om)),A9,kn,kn,kn,kn,kn,kn,kn⟩))))
  exact Ah v0 (.inl (⟨rfl,kn⟩))
 exact Ah v0 (.inl (⟨rfl,kn⟩))
end
end Go.Proofs.YtaolbokoijfhnaaGreatDoor.Am
