/- Part 27 of TypesFunctions. -/
import Derived.Test.YtbmofjdmgjpfoaaGreatDoorF17
import Derived.Test.YtbmofjdmgjpfoaaGreatDoorF26
set_option linter.all false
namespace Go.Proofs.YtbmofjdmgjpfoaaGreatDoor.Am
section
set_option maxHeartbeats 40000000
set_option maxRecDepth 100000
open Go.AM Go.AM.K
def K_4 (N:Nat):Prop:=∀{H:Int} {B:Rs} (hB:Dl B) (hl:H=B.length) (h:H<=140737488355328:=by exact kn),Ok trees N ⟨[H],[],[B],[]⟩ fun L=>(∃(J q A pl' x z:Int),∃(v C j I:Rs),L=(0,(⟨[J,q,A,pl',x,z],[],[v,C,j,I],[]⟩:Aj))/\(Bz J q v C j I)/\(A=v.length)/\(pl'=C.length)/\(x=j.length)/\(z=I.length))
theorem bodyok {Γ:Ctx} {R:Rs} (h:C2 Γ R:=by first|exact C2.of asm asm|exact C2.nil|exact C2.plus asm asm asm asm|exact C2.AiB asm asm):C2 Γ R:=h
theorem w_4 {bl:Int} {B:Rs} (hB:Dl B) (hl:bl=B.length) (g:Nat) (hg:(g:Int)=4∨(g:Int)=1∨(g:Int)=2∨(g:Int)=8∨(g:Int)=6) (r pos:Int) (hp:0<=pos/\pos<=1) (l7:bl<=140737488355328):W trees (fun zz=>(∃(g' eQ fu pl' fo fj:Int),∃(eG P' eO R':Rs),zz=(0,(⟨[g',eQ,fu,pl',fo,fj],[],[eG,P',eO,R'],[]⟩:Aj))/\(Bz g' eQ eG P' eO R')/\(fu=eG.length)/\(pl'=P'.length)/\(fo=eO.length)/\(fj=R'.length))) (X_4 g) ⟨[bl,r,pos],[],[B],[]⟩:=by
 have l6:G 3=40:=rfl;have l5:G 2=12:=rfl
 conv=>arg 3;delta X_4;conv=>arg 3;reduce
 conv=>arg 3;reduce
 obtain ⟨_,⟨Y,q,rfl,lW,lK,lR⟩,G1⟩:=c_5 hB hl pos 0 0 0 0
 refine ch G1 ?_
 refine nv ⟨[bl,r,pos,Y,q],[],[B],[]⟩ ?_
 refine de A7 ?_
 refine ll 5 A7 ?_
 refine fr ?_
 refine de Ax ?_
 refine ll 3 Ax ?_
 refine fr ?_
 obtain ⟨_,⟨j,rfl,lT⟩,G2⟩:=c_6 (Y%3) 0 0 bl q 0 0 (g:Int) 1 5 3 B A7 Ax (by exact ⟨.inl rfl,by omega⟩)
 refine ch G2 ?_
 refine nv ⟨[bl,r,pos,Y,q,(A7.length:Int),(Ax.length:Int),j],[],[B,A7,Ax],[]⟩ ?_
 obtain ⟨_,⟨Z,v,rfl,lZ,lJ,l2⟩,G3⟩:=c_5 hB hl q 0 0 0 0
 refine ch G3 ?_
 refine nv ⟨[bl,r,pos,Y,q,(A7.length:Int),(Ax.length:Int),j,Z,v],[],[B,A7,Ax],[]⟩ ?_
 refine eq (Z%3) 0 (fun t4=>?_) fun t4=>?_
 ·obtain ⟨_,(⟨an,ak,X,V,J,O,ao,ag,aq,ac,R,H,C,I,aC,rfl,ka,iW,k5,iB,lj,j5,ke⟩|⟨aj,ai,N,P,M,L,al,af,ap,U,ab,Q,x,A,z,aB,rfl,kd,kc,k3,lg,k2,io,ia,lr,kA⟩),G5⟩:=c_7 hB hl v 0 0 0 0
  ·refine ch G5 ?_
   refine nv ⟨[bl,r,pos,Y,q,(A7.length:Int),(Ax.length:Int),j,Z,v,an,ak,X,V,J,O,ao,ag,aq,ac],[R],[B,A7,Ax,H,C,I,aC],[]⟩ ?_
   refine el (j':=0) rfl ?_
   refine el (j':=1) rfl ?_
   refine el (j':=2) rfl ?_
   refine de Ax ?_
   refine ll 3 Ax ?_
   obtain ⟨_,⟨Tz,ah,rfl,lU,lQ,lM⟩,G6⟩:=Ln hB hl ag 3 0 12 1 1 Ax
   refine ch G6 ?_
   refine nv ⟨[bl,r,pos,Y,q,(A7.length:Int),(Ax.length:Int),j,Z,v,an,ak,X,V,J,O,ao,ag,aq,ac,1,2,3,(Ax.length:Int),Tz,ah],[R,[110],[116],[99]],[B,A7,Ax,H,C,I,aC,Ax],[]⟩ ?_
   refine ll an H ?_
   refine ll ak C ?_
   refine ll ao I ?_
   refine de [hrow H C X V J R O I] ?_
   refine ll 1 [hrow H C X V J R O I] ?_
   refine fr ?_
   have a3:=MS.Tj (call:=1) (pos:=ah) (count:=0) hB hl om om om
   obtain ⟨_,(⟨rfl,lq⟩|⟨a2,aG,aX,a1,rfl,b7,i5,jE,iR,lk,iU,h6⟩|⟨lL,aZ,a5,aw,aF,aY,bh,a0,rfl,bV,iP,jy,im,la,iE,jL,jh,lo,j0⟩),G7⟩:=Ak7 (1+(Tz%8)) 0 0 bl ah 3 0 12 (g:Int) j 5 3 1 B A7 Ax [hrow H C X V J R O I] Ax (MS.mv a3)
   ·refine ch G7 ?_
    refine nv ⟨[bl,r,pos,Y,q,(A7.length:Int),(Ax.length:Int),j,Z,v,an,ak,X,V,J,O,ao,ag,aq,ac,1,2,3,(Ax.length:Int),Tz,ah,([hrow H C X V J R O I].length:Int)],[R,[110],[116],[99]],[B,A7,Ax,H,C,I,aC,Ax,[hrow H C X V J R O I]],[]⟩ ?_
    obtain ⟨_,⟨dC,bi,rfl,lS,lH,lO⟩,G8⟩:=Ln hB hl ah 3 0 12 1 1 Ax
    refine ch G8 ?_
    refine nv ⟨[bl,r,pos,Y,q,(A7.length:Int),(Ax.length:Int),j,Z,v,an,ak,X,V,J,O,ao,ag,aq,ac,1,2,3,(Ax.length:Int),Tz,ah,([hrow H C X V J R O I].length:Int),dC,bi],[R,[110],[116],[99]],[B,A7,Ax,H,C,I,aC,Ax,[hrow H C X V J R O I]],[]⟩ ?_
    refine eq (dC%4) 0 (fun t9=>?_) fun t9=>?_
    ·obtain ⟨_,⟨c9,cF,cP,c8,b2,bm,cT,bH,rfl,jm,kj,jo,jd⟩,hr⟩:=IS (a3.Fc 0 12) 3 3 bi
     refine ch hr ?_
     refine nv ⟨[bl,r,pos,Y,q,(A7.length:Int),(Ax.length:Int),j,Z,v,an,ak,X,V,J,O,ao,ag,aq,ac,1,2,3,(Ax.length:Int),Tz,ah,([hrow H C X V J R O I].length:Int),dC,bi,c9,cF,cP,c8,b2,bm],[R,[110],[116],[99],cT],[B,A7,Ax,H,C,I,aC,Ax,[hrow H C X V J R O I],bH],[]⟩ ?_
     obtain ⟨_,⟨ek,dE,d6,eh,d3,ce,eT,eX,d5,c7,bY,rfl,e7,j1,kI,iX,iu⟩,hY⟩:=Ov 0 0 3 bl bm 3 0 12 1 1 B Ax (MS.mv (MS.wide (M':=20000) a3 ⟨by omega,by omega⟩))
     refine ch hY ?_
     have ⟨_,_,kq,kG,k8,kL,kM,jT,_,_,_⟩:=e7
     refine nv ⟨[bl,r,pos,Y,q,(A7.length:Int),(Ax.length:Int),j,Z,v,an,ak,X,V,J,O,ao,ag,aq,ac,1,2,3,(Ax.length:Int),Tz,ah,([hrow H C X V J R O I].length:Int),dC,bi,c9,cF,cP,c8,b2,bm,ek,dE,d6,eh,d3,ce,0,0,eT],[R,[110],[116],[99],cT,eX,d5],[B,A7,Ax,H,C,I,aC,Ax,[hrow H C X V J R O I],bH,c7,bY,[],[]],[]⟩ ?_
     refine dL [AT 9 0 0 0 [] 0 0 0 [] 0 [] 0 0 0 [] 0 [] [] []] (fun ft gL=>?_)
     have h2:=cL gL;try simp only [lA,lC,lN,lT']at h2
     refine ll 1 ft ?_
     refine fr ?_
     refine ll b2 bH ?_
     refine ll ek c7 ?_
     refine ll ce bY ?_
     refine ll 0 [] ?_
     refine ll 0 [] ?_
     refine dL [AT 5 0 0 0 [] c9 cF cP cT c8 bH 0 0 0 [] 0 [] ft [],AT 3 0 0 0 eX 5 17 0 [] 0 c7 dE d6 eh d5 d3 bY [] []] (fun fw gA=>?_)
     have f3:=cL gA;try simp only [lA,lC,lN,lT']at f3
     refine ll 2 fw ?_
     refine fr ?_
     exact Ag ⟨[(g:Int),j,5,3,1,2],[],[A7,Ax,[hrow H C X V J R O I],fw],[]⟩ (⟨_,_,_,_,_,_,_,_,_,_,rfl,(by subst_vars;first|exact Bz.a hg asm bodyok om|exact Bz.b hg asm rfl asm bodyok om),kn,kn,kn,kn⟩)
    refine de [] ?_
    refine ll 0 [] ?_
    exact Ag ⟨[(g:Int),j,5,3,1,0],[],[A7,Ax,[hrow H C X V J R O I],[]],[]⟩ (⟨_,_,_,_,_,_,_,_,_,_,rfl,(by subst_vars;first|exact Bz.a hg asm bodyok om|exact Bz.b hg asm rfl asm bodyok om),kn,kn,kn,kn⟩)
   ·refine cm G7 ?_
    refine ch G7 ?_
    have ⟨_,_,kP,jV,kX,jD,iL,j7,_,_,_⟩:=b7
    refine nv ⟨[bl,r,pos,Y,q,(A7.length:Int),(Ax.length:Int),j,Z,v,an,ak,X,V,J,O,ao,ag,aq,ac,1,2,3,(Ax.length:Int),Tz,ah,([hrow H C X V J R O I].length:Int),a2,aG,aX],[R,[110],[116],[99]],[B,A7,Ax,H,C,I,aC,Ax,[hrow H C X V J R O I],a1],[]⟩ ?_
    obtain ⟨_,⟨bM,bc,rfl,jq,lw,kv⟩,gN⟩:=Ln hB hl a2 3 0 aG 1 1 Ax
    refine ch gN ?_
    refine nv ⟨[bl,r,pos,Y,q,(A7.length:Int),(Ax.length:Int),j,Z,v,an,ak,X,V,J,O,ao,ag,aq,ac,1,2,3,(Ax.length:Int),Tz,ah,([hrow H C X V J R O I].length:Int),a2,aG,aX,bM,bc],[R,[110],[116],[99]],[B,A7,Ax,H,C,I,aC,Ax,[hrow H C X V J R O I],a1],[]⟩ ?_
    refine eq (bM%4) 0 (fun gz=>?_) fun gz=>?_
    ·obtain ⟨_,⟨Kw,du,cz,cy,bJ,bt,c4,bI,rfl,iD,k6,jG,lD⟩,gn⟩:=IS (b7.Fc 0 aG) 3 3 bc
     refine ch gn ?_
     refine nv ⟨[bl,r,pos,Y,q,(A7.length:Int),(Ax.length:Int),j,Z,v,an,ak,X,V,J,O,ao,ag,aq,ac,1,2,3,(Ax.length:Int),Tz,ah,([hrow H C X V J R O I].length:Int),a2,aG,aX,bM,bc,Kw,du,cz,cy,bJ,bt],[R,[110],[116],[99],c4],[B,A7,Ax,H,C,I,aC,Ax,[hrow H C X V J R O I],a1,bI],[]⟩ ?_
     obtain ⟨_,⟨dG,ej,dN,em,eC,cp,e5,eI,dz,dt,bG,rfl,ff,kR,ky,jZ,iV⟩,g8⟩:=Ov 0 0 3 bl bt 3 0 aG 1 1 B Ax (MS.mv (MS.wide (M':=20000) b7 ⟨by omega,by omega⟩))
     refine ch g8 ?_
     have ⟨_,_,i4,lG,iJ,h8,jO,kF,_,_,_⟩:=ff
     refine nv ⟨[bl,r,pos,Y,q,(A7.length:Int),(Ax.length:Int),j,Z,v,an,ak,X,V,J,O,ao,ag,aq,ac,1,2,3,(Ax.length:Int),Tz,ah,([hrow H C X V J R O I].length:Int),a2,aG,aX,bM,bc,Kw,du,cz,cy,bJ,bt,dG,ej,dN,em,eC,cp,0,0,e5],[R,[110],[116],[99],c4,eI,dz],[B,A7,Ax,H,C,I,aC,Ax,[hrow H C X V J R O I],a1,bI,dt,bG,[],[]],[]⟩ ?_
     refine dL [AT 9 0 0 0 [] 0 0 0 [] 0 [] 0 0 0 [] 0 [] [] []] (fun fy hn=>?_)
     have hW:=cL hn;try simp only [lA,lC,lN,lT']at hW
     refine ll 1 fy ?_
     refine fr ?_
     refine ll bJ bI ?_
     refine ll dG dt ?_
     refine ll cp bG ?_
     refine ll 0 [] ?_
     refine ll 0 [] ?_
     refine dL (a1++[AT 5 0 0 0 [] Kw du cz c4 cy bI 0 0 0 [] 0 [] fy [],AT 3 0 0 0 eI 5 17 0 [] 0 dt ej dN em dz eC bG [] []]) (fun eZ gw=>?_) (Bq (pw aX a1) pe)
     have hj:=cL gw;try simp only [lA,lC,lN,lT']at hj
     refine Er (eZ.length:Int) 1048576 ?_
     refine fr ?_
     exact Ag ⟨[(g:Int),j,5,3,1,(eZ.length:Int)],[],[A7,Ax,[hrow H C X V J R O I],eZ],[]⟩ (⟨_,_,_,_,_,_,_,_,_,_,rfl,(by subst_vars;first|exact Bz.a hg asm bodyok om|exact Bz.b hg asm rfl asm bodyok om),kn,kn,kn,kn⟩)
    refine ll aX a1 ?_
    refine fr ?_
    exact Ag ⟨[(g:Int),j,5,3,1,aX],[],[A7,Ax,[hrow H C X V J R O I],a1],[]⟩ (⟨_,_,_,_,_,_,_,_,_,_,rfl,(by subst_vars;first|exact Bz.a hg asm bodyok om|exact Bz.b hg asm rfl asm bodyok om),kn,kn,kn,kn⟩)
   refine cm G7 ?_
   refine cm G7 ?_
   refine ch G7 ?_
   have ⟨_,_,i7,km,jr,ix,jg,ko,_,_,_⟩:=bV
   refine nv ⟨[bl,r,pos,Y,q,(A7.length:Int),(Ax.length:Int),j,Z,v,an,ak,X,V,J,O,ao,ag,aq,ac,1,2,3,(Ax.length:Int),Tz,ah,([hrow H C X V J R O I].length:Int),aZ,a5,aw,aF,aY],[R,[110],[116],[99]],[B,A7,Ax,H,C,I,aC,Ax,[hrow H C X V J R O I],bh,a0],[]⟩ ?_
   obtain ⟨_,⟨bO,ba,rfl,lv,k9,lB⟩,gC⟩:=Ln hB hl aZ a5 aw aF 1 1 bh
   refine ch gC ?_
   refine nv ⟨[bl,r,pos,Y,q,(A7.length:Int),(Ax.length:Int),j,Z,v,an,ak,X,V,J,O,ao,ag,aq,ac,1,2,3,(Ax.length:Int),Tz,ah,([hrow H C X V J R O I].length:Int),aZ,a5,aw,aF,aY,bO,ba],[R,[110],[116],[99]],[B,A7,Ax,H,C,I,aC,Ax,[hrow H C X V J R O I],bh,a0],[]⟩ ?_
   refine eq (bO%4) 0 (fun gb=>?_) fun gb=>?_
   ·obtain ⟨_,⟨dh,cX,cA,di,bE,bj,cY,bD,rfl,jH,jP,jl,lf⟩,hq⟩:=IS (bV.Fc aw aF) 3 3 ba
    refine ch hq ?_
    refine nv ⟨[bl,r,pos,Y,q,(A7.length:Int),(Ax.length:Int),j,Z,v,an,ak,X,V,J,O,ao,ag,aq,ac,1,2,3,(Ax.length:Int),Tz,ah,([hrow H C X V J R O I].length:Int),aZ,a5,aw,aF,aY,bO,ba,dh,cX,cA,di,bE,bj],[R,[110],[116],[99],cY],[B,A7,Ax,H,C,I,aC,Ax,[hrow H C X V J R O I],bh,a0,bD],[]⟩ ?_
    obtain ⟨_,⟨d1,dw,dW,ef,dD,cd,e2,eP,eA,cH,b9,rfl,fg,lp,kY,kx,kN⟩,gu⟩:=Ov 0 0 3 bl bj a5 aw aF 1 1 B bh (MS.mv (MS.wide (M':=20000) bV ⟨by omega,by omega⟩))
    refine ch gu ?_
    have ⟨_,_,iK,h7,jw,kr,jA,jN,_,_,_⟩:=fg
    refine nv ⟨[bl,r,pos,Y,q,(A7.length:Int),(Ax.length:Int),j,Z,v,an,ak,X,V,J,O,ao,ag,aq,ac,1,2,3,(Ax.length:Int),Tz,ah,([hrow H C X V J R O I].length:Int),aZ,a5,aw,aF,aY,bO,ba,dh,cX,cA,di,bE,bj,d1,dw,dW,ef,dD,cd,0,0,e2],[R,[110],[116],[99],cY,eP,eA],[B,A7,Ax,H,C,I,aC,Ax,[hrow H C X V J R O I],bh,a0,bD,cH,b9,[],[]],[]⟩ ?_
    refine dL [AT 9 0 0 0 [] 0 0 0 [] 0 [] 0 0 0 [] 0 [] [] []] (fun fA hG=>?_)
    have gH:=cL hG;try simp only [lA,lC,lN,lT']at gH
    refine ll 1 fA ?_
    refine fr ?_
    refine ll bE bD ?_
    refine ll d1 cH ?_
    refine ll cd b9 ?_
    refine ll 0 [] ?_
    refine ll 0 [] ?_
    refine dL (a0++[AT 5 0 0 0 [] dh cX cA cY di bD 0 0 0 [] 0 [] fA [],AT 3 0 0 0 eP 5 17 0 [] 0 cH dw dW ef eA dD b9 [] []]) (fun e3 hH=>?_) (Bq (pw aY a0) pe)
    have hm:=cL hH;try simp only [lA,lC,lN,lT']at hm
    refine Er (e3.length:Int) 1048576 ?_
    refine fr ?_
    exact Ag ⟨[(g:Int),j,5,3,1,(e3.length:Int)],[],[A7,Ax,[hrow H C X V J R O I],e3],[]⟩ (⟨_,_,_,_,_,_,_,_,_,_,rfl,(by subst_vars;first|exact Bz.a hg asm bodyok om|exact Bz.b hg asm rfl asm bodyok om),kn,kn,kn,kn⟩)
   refine ll aY a0 ?_
   refine fr ?_
   exact Ag ⟨[(g:Int),j,5,3,1,aY],[],[A7,Ax,[hrow H C X V J R O I],a0],[]⟩ (⟨_,_,_,_,_,_,_,_,_,_,rfl,(by subst_vars;first|exact Bz.a hg asm bodyok om|exact Bz.b hg asm rfl asm bodyok om),kn,kn,kn,kn⟩)
  refine cm G5 ?_
  refine ch G5 ?_
  refine nv ⟨[bl,r,pos,Y,q,(A7.length:Int),(Ax.length:Int),j,Z,v,aj,ai,N,P,M,L,al,af,ap,U,ab],[Q],[B,A7,Ax,x,A,z,aB],[]⟩ ?_
  refine el (j':=0) rfl ?_
  refine el (j':=1) rfl ?_
  refine el (j':=2) rfl ?_
  refine de Ax ?_
  refine ll 3 Ax ?_
  obtain ⟨_,⟨aE,ad,rfl,kt,jk,kH⟩,fM⟩:=Ln hB hl af 3 U 12 1 1 Ax
  refine ch fM ?_
  refine nv ⟨[bl,r,pos,Y,q,(A7.length:Int),(Ax.length:Int),j,Z,v,aj,ai,N,P,M,L,al,af,ap,U,ab,1,2,3,(Ax.length:Int),aE,ad],[Q,[110],[116],[99]],[B,A7,Ax,x,A,z,aB,Ax],[]⟩ ?_
  refine ll aj x ?_
  refine ll ai A ?_
  refine ll al z ?_
  refine de [hrow x A N P M Q L z] ?_
  refine ll 1 [hrow x A N P M Q L z] ?_
  refine fr ?_
  have a3:=MS.Tj (call:=1) (pos:=ad) (count:=U) hB hl om om om
  obtain ⟨_,(⟨rfl,he⟩|⟨aW,aA,aK,aN,rfl,bw,fU,hk,hS,g6,gh,g0⟩|⟨j8,aP,aQ,av,ay,aJ,a6,aO,rfl,bk,gq,fZ,f1,gS,gd,fX,hL,hU,gW⟩),bB⟩:=Ak7 (1+(aE%8)) 0 0 bl ad 3 U 12 (g:Int) j 5 3 1 B A7 Ax [hrow x A N P M Q L z] Ax (MS.mv a3)
  ·refine ch bB ?_
   refine nv ⟨[bl,r,pos,Y,q,(A7.length:Int),(Ax.length:Int),j,Z,v,aj,ai,N,P,M,L,al,af,ap,U,ab,1,2,3,(Ax.length:Int),aE,ad,([hrow x A N P M Q L z].length:Int)],[Q,[110],[116],[99]],[B,A7,Ax,x,A,z,aB,Ax,[hrow x A N P M Q L z]],[]⟩ ?_
   obtain ⟨_,⟨bR,a8,rfl,ih,iH,jW⟩,hT⟩:=Ln hB hl ad 3 U 12 1 1 Ax
   refine ch hT ?_
   refine nv ⟨[bl,r,pos,Y,q,(A7.length:Int),(Ax.length:Int),j,Z,v,aj,ai,N,P,M,L,al,af,ap,U,ab,1,2,3,(Ax.length:Int),aE,ad,([hrow x A N P M Q L z].length:Int),bR,a8],[Q,[110],[116],[99]],[B,A7,Ax,x,A,z,aB,Ax,[hrow x A N P M Q L z]],[]⟩ ?_
   refine eq (bR%4) 0 (fun hN=>?_) fun hN=>?_
   ·obtain ⟨_,⟨cR,c3,cQ,c5,bX,bz,cK,bW,rfl,iy,j3,ir,ig⟩,h3⟩:=IS (a3.Fc U 12) 3 3 a8
    refine ch h3 ?_
    refine nv ⟨[bl,r,pos,Y,q,(A7.length:Int),(Ax.length:Int),j,Z,v,aj,ai,N,P,M,L,al,af,ap,U,ab,1,2,3,(Ax.length:Int),aE,ad,([hrow x A N P M Q L z].length:Int),bR,a8,cR,c3,cQ,c5,bX,bz],[Q,[110],[116],[99],cK],[B,A7,Ax,x,A,z,aB,Ax,[hrow x A N P M Q L z],bW],[]⟩ ?_
    obtain ⟨_,⟨eD,d2,dx,dy,eu,cf,e1,eL,eE,cE,cc,rfl,fh,i0,i6,kT,lx⟩,hh⟩:=Ov 0 0 3 bl bz 3 U 12 1 1 B Ax (MS.mv (MS.wide (M':=20000) a3 ⟨by omega,by omega⟩))
    refine ch hh ?_
    have ⟨_,_,lE,jb,jf,iF,iZ,ku,_,_,_⟩:=fh
    refine nv ⟨[bl,r,pos,Y,q,(A7.length:Int),(Ax.length:Int),j,Z,v,aj,ai,N,P,M,L,al,af,ap,U,ab,1,2,3,(Ax.length:Int),aE,ad,([hrow x A N P M Q L z].length:Int),bR,a8,cR,c3,cQ,c5,bX,bz,eD,d2,dx,dy,eu,cf,0,0,e1],[Q,[110],[116],[99],cK,eL,eE],[B,A7,Ax,x,A,z,aB,Ax,[hrow x A N P M Q L z],bW,cE,cc,[],[]],[]⟩ ?_
    refine dL [AT 9 0 0 0 [] 0 0 0 [] 0 [] 0 0 0 [] 0 [] [] []] (fun fB fN=>?_)
    have fP:=cL fN;try simp only [lA,lC,lN,lT']at fP
    refine ll 1 fB ?_
    refine fr ?_
    refine ll bX bW ?_
    refine ll eD cE ?_
    refine ll cf cc ?_
    refine ll 0 [] ?_
    refine ll 0 [] ?_
    refine dL [AT 5 0 0 0 [] cR c3 cQ cK c5 bW 0 0 0 [] 0 [] fB [],AT 3 0 0 0 eL 5 17 0 [] 0 cE d2 dx dy eE eu cc [] []] (fun fC hA=>?_)
    have fH:=cL hA;try simp only [lA,lC,lN,lT']at fH
    refine ll 2 fC ?_
    refine fr ?_
    exact Ag ⟨[(g:Int),j,5,3,1,2],[],[A7,Ax,[hrow x A N P M Q L z],fC],[]⟩ (⟨_,_,_,_,_,_,_,_,_,_,rfl,(by subst_vars;first|exact Bz.a hg asm bodyok om|exact Bz.b hg asm rfl asm bodyok om),kn,kn,kn,kn⟩)
   refine de [] ?_
   refine ll 0 [] ?_
   exact Ag ⟨[(g:Int),j,5,3,1,0],[],[A7,Ax,[hrow x A N P M Q L z],[]],[]⟩ (⟨_,_,_,_,_,_,_,_,_,_,rfl,(by subst_vars;first|exact Bz.a hg asm bodyok om|exact Bz.b hg asm rfl asm bodyok om),kn,kn,kn,kn⟩)
  ·refine cm bB ?_
   refine ch bB ?_
   have ⟨_,_,hi,gQ,hF,hI,gM,fY,_,_,_⟩:=bw
   refine nv ⟨[bl,r,pos,Y,q,(A7.length:Int),(Ax.length:Int),j,Z,v,aj,ai,N,P,M,L,al,af,ap,U,ab,1,2,3,(Ax.length:Int),aE,ad,([hrow x A N P M Q L z].length:Int),aW,aA,aK],[Q,[110],[116],[99]],[B,A7,Ax,x,A,z,aB,Ax,[hrow x A N P M Q L z],aN],[]⟩ ?_
   obtain ⟨_,⟨bF,bb,rfl,kz,jB,iv⟩,gZ⟩:=Ln hB hl aW 3 U aA 1 1 Ax
   refine ch gZ ?_
   refine nv ⟨[bl,r,pos,Y,q,(A7.length:Int),(Ax.length:Int),j,Z,v,aj,ai,N,P,M,L,al,af,ap,U,ab,1,2,3,(Ax.length:Int),aE,ad,([hrow x A N P M Q L z].length:Int),aW,aA,aK,bF,bb],[Q,[110],[116],[99]],[B,A7,Ax,x,A,z,aB,Ax,[hrow x A N P M Q L z],aN],[]⟩ ?_
   refine eq (bF%4) 0 (fun gs=>?_) fun gs=>?_
   ·obtain ⟨_,⟨c6,cN,db,dl,bL,bn,cS,bU,rfl,ie,jU,ja,kw⟩,gr⟩:=IS (bw.Fc U aA) 3 3 bb
    refine ch gr ?_
    refine nv ⟨[bl,r,pos,Y,q,(A7.length:Int),(Ax.length:Int),j,Z,v,aj,ai,N,P,M,L,al,af,ap,U,ab,1,2,3,(Ax.length:Int),aE,ad,([hrow x A N P M Q L z].length:Int),aW,aA,aK,bF,bb,c6,cN,db,dl,bL,bn],[Q,[110],[116],[99],cS],[B,A7,Ax,x,A,z,aB,Ax,[hrow x A N P M Q L z],aN,bU],[]⟩ ?_
    obtain ⟨_,⟨dM,ec,eb,dX,eo,cj,eM,eS,dZ,ct,b0,rfl,fa,jp,kU,iz,kD⟩,hZ⟩:=Ov 0 0 3 bl bn 3 U aA 1 1 B Ax (MS.mv (MS.wide (M':=20000) bw ⟨by omega,by omega⟩))
    refine ch hZ ?_
    have ⟨_,_,j2,iQ,kE,kJ,kW,jX,_,_,_⟩:=fa
    refine nv ⟨[bl,r,pos,Y,q,(A7.length:Int),(Ax.length:Int),j,Z,v,aj,ai,N,P,M,L,al,af,ap,U,ab,1,2,3,(Ax.length:Int),aE,ad,([hrow x A N P M Q L z].length:Int),aW,aA,aK,bF,bb,c6,cN,db,dl,bL,bn,dM,ec,eb,dX,eo,cj,0,0,eM],[Q,[110],[116],[99],cS,eS,dZ],[B,A7,Ax,x,A,z,aB,Ax,[hrow x A N P M Q L z],aN,bU,ct,b0,[],[]],[]⟩ ?_
    refine dL [AT 9 0 0 0 [] 0 0 0 [] 0 [] 0 0 0 [] 0 [] [] []] (fun fi hX=>?_)
    have hC:=cL hX;try simp only [lA,lC,lN,lT']at hC
    refine ll 1 fi ?_
    refine fr ?_
    refine ll bL bU ?_
    refine ll dM ct ?_
    refine ll cj b0 ?_
    refine ll 0 [] ?_
    refine ll 0 [] ?_
    refine dL (aN++[AT 5 0 0 0 [] c6 cN db cS dl bU 0 0 0 [] 0 [] fi [],AT 3 0 0 0 eS 5 17 0 [] 0 ct ec eb dX dZ eo b0 [] []]) (fun eU fK=>?_) (Bq (pw aK aN) pe)
    have hO:=cL fK;try simp only [lA,lC,lN,lT']at hO
    refine Er (eU.length:Int) 1048576 ?_
    refine fr ?_
    exact Ag ⟨[(g:Int),j,5,3,1,(eU.length:Int)],[],[A7,Ax,[hrow x A N P M Q L z],eU],[]⟩ (⟨_,_,_,_,_,_,_,_,_,_,rfl,(by subst_vars;first|exact Bz.a hg asm bodyok om|exact Bz.b hg asm rfl asm bodyok om),kn,kn,kn,kn⟩)
   refine ll aK aN ?_
   refine fr ?_
   exact Ag ⟨[(g:Int),j,5,3,1,aK],[],[A7,Ax,[hrow x A N P M Q L z],aN],[]⟩ (⟨_,_,_,_,_,_,_,_,_,_,rfl,(by subst_vars;first|exact Bz.a hg asm bodyok om|exact Bz.b hg asm rfl asm bodyok om),kn,kn,kn,kn⟩)
  refine cm bB ?_
  refine cm bB ?_
  refine ch bB ?_
  have ⟨_,_,ga,hD,gB,fV,hv,hP,_,_,_⟩:=bk
  refine nv ⟨[bl,r,pos,Y,q,(A7.length:Int),(Ax.length:Int),j,Z,v,aj,ai,N,P,M,L,al,af,ap,U,ab,1,2,3,(Ax.length:Int),aE,ad,([hrow x A N P M Q L z].length:Int),aP,aQ,av,ay,aJ],[Q,[110],[116],[99]],[B,A7,Ax,x,A,z,aB,Ax,[hrow x A N P M Q L z],a6,aO],[]⟩ ?_
  obtain ⟨_,⟨Xr,be,rfl,ju,j9,h5⟩,gi⟩:=Ln hB hl aP aQ av ay 1 1 a6
  refine ch gi ?_
  refine nv ⟨[bl,r,pos,Y,q,(A7.length:Int),(Ax.length:Int),j,Z,v,aj,ai,N,P,M,L,al,af,ap,U,ab,1,2,3,(Ax.length:Int),aE,ad,([hrow x A N P M Q L z].length:Int),aP,aQ,av,ay,aJ,Xr,be],[Q,[110],[116],[99]],[B,A7,Ax,x,A,z,aB,Ax,[hrow x A N P M Q L z],a6,aO],[]⟩ ?_
  refine eq (Xr%4) 0 (fun hE=>?_) fun hE=>?_
  ·obtain ⟨_,⟨c2,cC,cM,cO,b6,bA,cJ,bT,rfl,iC,iG,jY,jR⟩,gj⟩:=IS (bk.Fc av ay) 3 3 be
   refine ch gj ?_
   refine nv ⟨[bl,r,pos,Y,q,(A7.length:Int),(Ax.length:Int),j,Z,v,aj,ai,N,P,M,L,al,af,ap,U,ab,1,2,3,(Ax.length:Int),aE,ad,([hrow x A N P M Q L z].length:Int),aP,aQ,av,ay,aJ,Xr,be,c2,cC,cM,cO,b6,bA],[Q,[110],[116],[99],cJ],[B,A7,Ax,x,A,z,aB,Ax,[hrow x A N P M Q L z],a6,aO,bT],[]⟩ ?_
   obtain ⟨_,⟨ee,d0,ew,d7,ep,co,eK,eR,es,cI,b1,rfl,e9,kh,kQ,jC,i8⟩,hM⟩:=Ov 0 0 3 bl bA aQ av ay 1 1 B a6 (MS.mv (MS.wide (M':=20000) bk ⟨by omega,by omega⟩))
   refine ch hM ?_
   have ⟨_,_,kp,kf,iI,ly,kS,jj,_,_,_⟩:=e9
   refine nv ⟨[bl,r,pos,Y,q,(A7.length:Int),(Ax.length:Int),j,Z,v,aj,ai,N,P,M,L,al,af,ap,U,ab,1,2,3,(Ax.length:Int),aE,ad,([hrow x A N P M Q L z].length:Int),aP,aQ,av,ay,aJ,Xr,be,c2,cC,cM,cO,b6,bA,ee,d0,ew,d7,ep,co,0,0,eK],[Q,[110],[116],[99],cJ,eR,es],[B,A7,Ax,x,A,z,aB,Ax,[hrow x A N P M Q L z],a6,aO,bT,cI,b1,[],[]],[]⟩ ?_
   refine dL [AT 9 0 0 0 [] 0 0 0 [] 0 [] 0 0 0 [] 0 [] [] []] (fun fk gx=>?_)
   have gg:=cL gx;try simp only [lA,lC,lN,lT']at gg
   refine ll 1 fk ?_
   refine fr ?_
   refine ll b6 bT ?_
   refine ll ee cI ?_
   refine ll co b1 ?_
   refine ll 0 [] ?_
   refine ll 0 [] ?_
   refine dL (aO++[AT 5 0 0 0 [] c2 cC cM cJ cO bT 0 0 0 [] 0 [] fk [],AT 3 0 0 0 eR 5 17 0 [] 0 cI d0 ew d7 es ep b1 [] []]) (fun eW f9=>?_) (Bq (pw aJ aO) pe)
   have gV:=cL f9;try simp only [lA,lC,lN,lT']at gV
   refine Er (eW.length:Int) 1048576 ?_
   refine fr ?_
   exact Ag ⟨[(g:Int),j,5,3,1,(eW.length:Int)],[],[A7,Ax,[hrow x A N P M Q L z],eW],[]⟩ (⟨_,_,_,_,_,_,_,_,_,_,rfl,(by subst_vars;first|exact Bz.a hg asm bodyok om|exact Bz.b hg asm rfl asm bodyok om),kn,kn,kn,kn⟩)
  refine ll aJ aO ?_
  refine fr ?_
  exact Ag ⟨[(g:Int),j,5,3,1,aJ],[],[A7,Ax,[hrow x A N P M Q L z],aO],[]⟩ (⟨_,_,_,_,_,_,_,_,_,_,rfl,(by subst_vars;first|exact Bz.a hg asm bodyok om|exact Bz.b hg asm rfl asm bodyok om),kn,kn,kn,kn⟩)
 refine el (j':=0) rfl ?_
 refine el (j':=1) rfl ?_
 refine el (j':=2) rfl ?_
 refine de Ax ?_
 refine ll 3 Ax ?_
 obtain ⟨_,⟨aD,ae,rfl,i2,jI,kZ⟩,hR⟩:=Ln hB hl v 3 0 12 0 1 Ax
 refine ch hR ?_
 refine nv ⟨[bl,r,pos,Y,q,(A7.length:Int),(Ax.length:Int),j,Z,v,1,2,3,(Ax.length:Int),aD,ae],[[110],[116],[99]],[B,A7,Ax,Ax],[]⟩ ?_
 have a3:=MS.Tj (call:=0) (pos:=ae) (count:=0) hB hl om om om
 obtain ⟨_,(⟨rfl,fO⟩|⟨aV,ax,aH,aL,rfl,br,fQ,gv,hw,ho,gp,gf⟩|⟨i1,aU,aR,au,az,aI,a4,aM,rfl,bq,gm,g5,ht,hJ,gD,f4,g9,gR,gk⟩),bC⟩:=Ao5 (1+(aD%8)) 0 0 bl ae 3 0 12 (g:Int) j 5 3 B A7 Ax Ax (MS.mv a3)
 ·refine ch bC ?_
  refine nv ⟨[bl,r,pos,Y,q,(A7.length:Int),(Ax.length:Int),j,Z,v,1,2,3,(Ax.length:Int),aD,ae],[[110],[116],[99]],[B,A7,Ax,Ax],[]⟩ ?_
  obtain ⟨_,⟨bZ,bg,rfl,kg,k7,kC⟩,fL⟩:=Ln hB hl ae 3 0 12 0 1 Ax
  refine ch fL ?_
  refine nv ⟨[bl,r,pos,Y,q,(A7.length:Int),(Ax.length:Int),j,Z,v,1,2,3,(Ax.length:Int),aD,ae,bZ,bg],[[110],[116],[99]],[B,A7,Ax,Ax],[]⟩ ?_
  refine eq (bZ%4) 0 (fun gJ=>?_) fun gJ=>?_
  ·obtain ⟨_,⟨dv,cD,cZ,dk,bP,bo,c1,cb,rfl,js,iw,j4,iO⟩,hy⟩:=IS (a3.Fc 0 12) 3 3 bg
   refine ch hy ?_
   refine nv ⟨[bl,r,pos,Y,q,(A7.length:Int),(Ax.length:Int),j,Z,v,1,2,3,(Ax.length:Int),aD,ae,bZ,bg,dv,cD,cZ,dk,bP,bo],[[110],[116],[99],c1],[B,A7,Ax,Ax,cb],[]⟩ ?_
   obtain ⟨_,⟨ed,dR,eg,dF,dH,ci,eJ,e6,et,dj,bN,rfl,e8,lF,jv,lb,i3⟩,f5⟩:=Ov 0 0 3 bl bo 3 0 12 0 1 B Ax (MS.mv (MS.wide (M':=20000) a3 ⟨by omega,by omega⟩))
   refine ch f5 ?_
   have ⟨_,_,ld,jt,iM,je,jn,kV,_,_,_⟩:=e8
   refine nv ⟨[bl,r,pos,Y,q,(A7.length:Int),(Ax.length:Int),j,Z,v,1,2,3,(Ax.length:Int),aD,ae,bZ,bg,dv,cD,cZ,dk,bP,bo,ed,dR,eg,dF,dH,ci,0,0,eJ],[[110],[116],[99],c1,e6,et],[B,A7,Ax,Ax,cb,dj,bN,[],[]],[]⟩ ?_
   refine dL [AT 9 0 0 0 [] 0 0 0 [] 0 [] 0 0 0 [] 0 [] [] []] (fun fq gE=>?_)
   have gU:=cL gE;try simp only [lA,lC,lN,lT']at gU
   refine ll 1 fq ?_
   refine fr ?_
   refine de [] ?_
   refine ll 0 [] ?_
   refine ll bP cb ?_
   refine ll ed dj ?_
   refine ll ci bN ?_
   refine ll 0 [] ?_
   refine ll 0 [] ?_
   refine dL [AT 5 0 0 0 [] dv cD cZ c1 dk cb 0 0 0 [] 0 [] fq [],AT 3 0 0 0 e6 5 17 0 [] 0 dj dR eg dF et dH bN [] []] (fun fD fJ=>?_)
   have gX:=cL fJ;try simp only [lA,lC,lN,lT']at gX
   refine ll 2 fD ?_
   refine fr ?_
   exact Ag ⟨[(g:Int),j,5,3,0,2],[],[A7,Ax,[],fD],[]⟩ (⟨_,_,_,_,_,_,_,_,_,_,rfl,(by subst_vars;first|exact Bz.a hg asm bodyok om|exact Bz.b hg asm rfl asm bodyok om),kn,kn,kn,kn⟩)
  refine de [] ?_
  refine ll 0 [] ?_
  exact Ag ⟨[(g:Int),j,5,3,0,0],[],[A7,Ax,[],[]],[]⟩ (⟨_,_,_,_,_,_,_,_,_,_,rfl,(by subst_vars;first|exact Bz.a hg asm bodyok om|exact Bz.b hg asm rfl asm bodyok om),kn,kn,kn,kn⟩)
 ·refine cm bC ?_
  refine ch bC ?_
  have ⟨_,_,hz,g7,hK,gT,f6,h1,_,_,_⟩:=br
  refine nv ⟨[bl,r,pos,Y,q,(A7.length:Int),(Ax.length:Int),j,Z,v,1,2,3,(Ax.length:Int),aD,ae,aV,ax,aH],[[110],[116],[99]],[B,A7,Ax,Ax,aL],[]⟩ ?_
  obtain ⟨_,⟨Xq,a7,rfl,kl,k4,ii⟩,hQ⟩:=Ln hB hl aV 3 0 ax 0 1 Ax
  refine ch hQ ?_
  refine nv ⟨[bl,r,pos,Y,q,(A7.length:Int),(Ax.length:Int),j,Z,v,1,2,3,(Ax.length:Int),aD,ae,aV,ax,aH,Xq,a7],[[110],[116],[99]],[B,A7,Ax,Ax,aL],[]⟩ ?_
  refine eq (Xq%4) 0 (fun f2=>?_) fun f2=>?_
  ·obtain ⟨_,⟨cB,cu,cW,cw,bQ,bx,cr,b4,rfl,kO,jz,kb,kB⟩,fR⟩:=IS (br.Fc 0 ax) 3 3 a7
   refine ch fR ?_
   refine nv ⟨[bl,r,pos,Y,q,(A7.length:Int),(Ax.length:Int),j,Z,v,1,2,3,(Ax.length:Int),aD,ae,aV,ax,aH,Xq,a7,cB,cu,cW,cw,bQ,bx],[[110],[116],[99],cr],[B,A7,Ax,Ax,aL,b4],[]⟩ ?_
   obtain ⟨_,⟨d9,dY,eB,ez,ey,cq,eN,eY,er,dd,b5,rfl,fd,iT,i9,lz,h9⟩,hu⟩:=Ov 0 0 3 bl bx 3 0 ax 0 1 B Ax (MS.mv (MS.wide (M':=20000) br ⟨by omega,by omega⟩))
   refine ch hu ?_
   have ⟨_,_,jM,j6,jJ,lu,iq,jc,_,_,_⟩:=fd
   refine nv ⟨[bl,r,pos,Y,q,(A7.length:Int),(Ax.length:Int),j,Z,v,1,2,3,(Ax.length:Int),aD,ae,aV,ax,aH,Xq,a7,cB,cu,cW,cw,bQ,bx,d9,dY,eB,ez,ey,cq,0,0,eN],[[110],[116],[99],cr,eY,er],[B,A7,Ax,Ax,aL,b4,dd,b5,[],[]],[]⟩ ?_
   refine dL [AT 9 0 0 0 [] 0 0 0 [] 0 [] 0 0 0 [] 0 [] [] []] (fun fz h0=>?_)
   have fI:=cL h0;try simp only [lA,lC,lN,lT']at fI
   refine ll 1 fz ?_
   refine fr ?_
   refine ll bQ b4 ?_
   refine ll d9 dd ?_
   refine ll cq b5 ?_
   refine ll 0 [] ?_
   refine ll 0 [] ?_
   refine dL (aL++[AT 5 0 0 0 [] cB cu cW cr cw b4 0 0 0 [] 0 [] fz [],AT 3 0 0 0 eY 5 17 0 [] 0 dd dY eB ez er ey b5 [] []]) (fun e0 fW=>?_) (Bq (pw aH aL) pe)
   have g4:=cL fW;try simp only [lA,lC,lN,lT']at g4
   refine Er (e0.length:Int) 1048576 ?_
   refine de [] ?_
   refine ll 0 [] ?_
   refine fr ?_
   exact Ag ⟨[(g:Int),j,5,3,0,(e0.length:Int)],[],[A7,Ax,[],e0],[]⟩ (⟨_,_,_,_,_,_,_,_,_,_,rfl,(by subst_vars;first|exact Bz.a hg asm bodyok om|exact Bz.b hg asm rfl asm bodyok om),kn,kn,kn,kn⟩)
  refine de [] ?_
  refine ll 0 [] ?_
  refine ll aH aL ?_
  refine fr ?_
  exact Ag ⟨[(g:Int),j,5,3,0,aH],[],[A7,Ax,[],aL],[]⟩ (⟨_,_,_,_,_,_,_,_,_,_,rfl,(by subst_vars;first|exact Bz.a hg asm bodyok om|exact Bz.b hg asm rfl asm bodyok om),kn,kn,kn,kn⟩)
 refine cm bC ?_
 refine cm bC ?_
 refine ch bC ?_
 have ⟨_,_,f8,f7,gl,gG,gI,fT,_,_,_⟩:=bq
 refine nv ⟨[bl,r,pos,Y,q,(A7.length:Int),(Ax.length:Int),j,Z,v,1,2,3,(Ax.length:Int),aD,ae,aU,aR,au,az,aI],[[110],[116],[99]],[B,A7,Ax,Ax,a4,aM],[]⟩ ?_
 obtain ⟨_,⟨bK,a9,rfl,iY,jQ,ij⟩,gP⟩:=Ln hB hl aU aR au az 0 1 a4
 refine ch gP ?_
 refine nv ⟨[bl,r,pos,Y,q,(A7.length:Int),(Ax.length:Int),j,Z,v,1,2,3,(Ax.length:Int),aD,ae,aU,aR,au,az,aI,bK,a9],[[110],[116],[99]],[B,A7,Ax,Ax,a4,aM],[]⟩ ?_
 refine eq (bK%4) 0 (fun gO=>?_) fun gO=>?_
 ·obtain ⟨_,⟨cx,cU,dc,cV,b8,bv,cG,bS,rfl,ic,ji,jS,ip⟩,gK⟩:=IS (bq.Fc au az) 3 3 a9
  refine ch gK ?_
  refine nv ⟨[bl,r,pos,Y,q,(A7.length:Int),(Ax.length:Int),j,Z,v,1,2,3,(Ax.length:Int),aD,ae,aU,aR,au,az,aI,bK,a9,cx,cU,dc,cV,b8,bv],[[110],[116],[99],cG],[B,A7,Ax,Ax,a4,aM,bS],[]⟩ ?_
  obtain ⟨_,⟨dU,ei,d4,en,dJ,cg,eV,e4,ea,cv,b3,rfl,fe,jx,il,ib,ik⟩,gF⟩:=Ov 0 0 3 bl bv aR au az 0 1 B a4 (MS.mv (MS.wide (M':=20000) bq ⟨by omega,by omega⟩))
  refine ch gF ?_
  have ⟨_,_,jK,kK,jF,lc,iA,ki,_,_,_⟩:=fe
  refine nv ⟨[bl,r,pos,Y,q,(A7.length:Int),(Ax.length:Int),j,Z,v,1,2,3,(Ax.length:Int),aD,ae,aU,aR,au,az,aI,bK,a9,cx,cU,dc,cV,b8,bv,dU,ei,d4,en,dJ,cg,0,0,eV],[[110],[116],[99],cG,e4,ea],[B,A7,Ax,Ax,a4,aM,bS,cv,b3,[],[]],[]⟩ ?_
  refine dL [AT 9 0 0 0 [] 0 0 0 [] 0 [] 0 0 0 [] 0 [] [] []] (fun fv gY=>?_)
  have h4:=cL gY;try simp only [lA,lC,lN,lT']at h4
  refine ll 1 fv ?_
  refine fr ?_
  refine ll b8 bS ?_
  refine ll dU cv ?_
  refine ll cg b3 ?_
  refine ll 0 [] ?_
  refine ll 0 [] ?_
  refine dL (aM++[AT 5 0 0 0 [] cx cU dc cG cV bS 0 0 0 [] 0 [] fv [],AT 3 0 0 0 e4 5 17 0 [] 0 cv ei d4 en ea dJ b3 [] []]) (fun eH fS=>?_) (Bq (pw aI aM) pe)
  have gy:=cL fS;try simp only [lA,lC,lN,lT']at gy
  refine Er (eH.length:Int) 1048576 ?_
  refine de [] ?_
  refine ll 0 [] ?_
  refine fr ?_
  exact Ag ⟨[(g:Int),j,5,3,0,(eH.length:Int)],[],[A7,Ax,[],eH],[]⟩ (⟨_,_,_,_,_,_,_,_,_,_,rfl,(by subst_vars;first|exact Bz.a hg asm bodyok om|exact Bz.b hg asm rfl asm bodyok om),kn,kn,kn,kn⟩)
 refine de [] ?_
 refine ll 0 [] ?_
 refine ll aI aM ?_
 refine fr ?_
 exact Ag ⟨[(g:Int),j,5,3,0,aI],[],[A7,Ax,[],aM],[]⟩ (⟨_,_,_,_,_,_,_,_,_,_,rfl,(by subst_vars;first|exact Bz.a hg asm bodyok om|exact Bz.b hg asm rfl asm bodyok om),kn,kn,kn,kn⟩)
theorem c_4:K_4 4:=by
 intro A B hB hl h
 refine .of (t:=Xf) rfl ?_
 unfold Xf
 obtain ⟨_,⟨j,q,rfl,v,J,I⟩,H⟩:=c_5 hB hl 0 0 0 0 0
 refine ch H ?_
 refine nv ⟨[A,j,q],[],[B],[]⟩ ?_
 refine eq (j%5) 0 (fun C=>?_) fun C=>?_
 ·exact w_4 hB hl 4 (by decide) j q om h
 refine eq (j%5) 1 (fun x=>?_) fun x=>?_
 ·exact w_4 hB hl 1 (by decide) j q om h
 refine eq (j%5) 2 (fun z=>?_) fun z=>?_
 ·exact w_4 hB hl 2 (by decide) j q om h
 refine eq (j%5) 3 (fun L=>?_) fun L=>?_
 ·exact w_4 hB hl 8 (by decide) j q om h
 refine AH (j%5) 4 ?_
 exact w_4 hB hl 6 (by decide) j q om h
end
end Go.Proofs.YtbmofjdmgjpfoaaGreatDoor.Am
