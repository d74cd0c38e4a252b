/- Part 29 of MeaningCalls. -/
import Derived.Test.YtaolbokoijfhnaaGreatDoorJ16
import Derived.Test.YtaolbokoijfhnaaGreatDoorJ28
set_option linter.all false
namespace Go.Proofs.YtaolbokoijfhnaaGreatDoor.Am
section
set_option maxHeartbeats 40000000
set_option maxRecDepth 100000
open Go.AM Go.AM.K
def K_4 (N:Nat):Prop:=∀{I:Int} {B:Rs} (hB:BV B) (hl:I=B.length) (h:I<=140737488355328:=by exact kn),Ok trees N ⟨[I],[],[B],[]⟩ fun L=>(∃(J q x pl' z A:Int),∃(j H v C:Rs),L=(0,(⟨[J,q,x,pl',z,A],[],[j,H,v,C],[]⟩:Aj))/\(Bz J q j H v C)/\(x=j.length)/\(pl'=H.length)/\(z=v.length)/\(A=C.length))
theorem bodyok {Γ:Ctx} {R:Rs} (h:Cp Γ R:=by first|exact Cp.of asm asm|exact Cp.nil|exact Cp.plus asm asm asm asm|exact Cp.Aji asm asm):Cp Γ R:=h
theorem w_4 {bl:Int} {B:Rs} (hB:BV B) (hl:bl=B.length) (g:Nat) (hg:(g:Int)=4∨(g:Int)=1∨(g:Int)=2∨(g:Int)=8∨(g:Int)=6) (r pos:Int) (hp:0<=pos/\pos<=1) (l3:bl<=140737488355328):W trees (fun zz=>(∃(g' e0 fz pl' fo fj:Int),∃(eT P' e5 R':Rs),zz=(0,(⟨[g',e0,fz,pl',fo,fj],[],[eT,P',e5,R'],[]⟩:Aj))/\(Bz g' e0 eT P' e5 R')/\(fz=eT.length)/\(pl'=P'.length)/\(fo=e5.length)/\(fj=R'.length))) (X_4 g) ⟨[bl,r,pos],[],[B],[]⟩:=by
 have l5:G 3=40:=rfl;have l4:G 2=12:=rfl
 conv=>arg 3;delta X_4;conv=>arg 3;reduce
 conv=>arg 3;reduce
 obtain ⟨_,⟨Y,q,rfl,lM,lX,lL⟩,G1⟩:=c_5 hB hl pos 0 0 0 0
 refine ch G1 ?_
 refine nv ⟨[bl,r,pos,Y,q],[],[B],[]⟩ ?_
 refine de AF ?_
 refine ll 5 AF ?_
 refine fr ?_
 refine de A8 ?_
 refine ll 3 A8 ?_
 refine fr ?_
 obtain ⟨_,⟨j,rfl,lP⟩,G2⟩:=c_6 (Y%3) 0 0 bl q 0 0 (g:Int) 1 5 3 B AF A8 (by exact ⟨.inl rfl,by omega⟩)
 refine ch G2 ?_
 refine nv ⟨[bl,r,pos,Y,q,(AF.length:Int),(A8.length:Int),j],[],[B,AF,A8],[]⟩ ?_
 obtain ⟨_,⟨Z,v,rfl,lY,l1,lS⟩,G3⟩:=c_5 hB hl q 0 0 0 0
 refine ch G3 ?_
 refine nv ⟨[bl,r,pos,Y,q,(AF.length:Int),(A8.length:Int),j,Z,v],[],[B,AF,A8],[]⟩ ?_
 refine eq (Z%3) 0 (fun t4=>?_) fun t4=>?_
 ·obtain ⟨_,(⟨ak,ai,O,N,X,M,aj,ag,ap,ab,L,I,z,A,aF,rfl,jd,i8,lx,lu,jm,iy,kS⟩|⟨ao,an,V,Q,R,P,al,af,aq,U,ac,J,H,C,x,aC,rfl,lp,j0,kN,jL,ju,iH,jB,kg,kj⟩),G5⟩:=c_7 hB hl v 0 0 0 0
  ·refine ch G5 ?_
   refine nv ⟨[bl,r,pos,Y,q,(AF.length:Int),(A8.length:Int),j,Z,v,ak,ai,O,N,X,M,aj,ag,ap,ab],[L],[B,AF,A8,I,z,A,aF],[]⟩ ?_
   obtain ⟨_,⟨RQ,ah,rfl,lR,lQ,lH⟩,G6⟩:=Lr hB hl ag 3 0 12 1 1 A8
   refine ch G6 ?_
   refine nv ⟨[bl,r,pos,Y,q,(AF.length:Int),(A8.length:Int),j,Z,v,ak,ai,O,N,X,M,aj,ag,ap,ab,RQ,ah],[L],[B,AF,A8,I,z,A,aF],[]⟩ ?_
   refine ll ak I ?_
   refine ll ai z ?_
   refine ll aj A ?_
   refine de [hrow I z O N X L M A] ?_
   refine ll 1 [hrow I z O N X L M A] ?_
   refine fr ?_
   have a4:=MS.Acu (call:=1) (pos:=ah) (count:=0) hB hl om om om
   obtain ⟨_,(⟨rfl,kX⟩|⟨a2,aH,aZ,a3,rfl,bD,k3,i3,jg,kc,k1,iA⟩|⟨lV,a1,a6,aB,aG,aY,bh,a0,rfl,b6,iv,kx,il,jR,jH,iW,j6,h5,jN⟩),G7⟩:=Alj (1+(RQ%8)) 0 0 bl ah 3 0 12 (g:Int) j 5 3 1 B AF A8 [hrow I z O N X L M A] A8 (MS.mv a4)
   ·refine ch G7 ?_
    refine nv ⟨[bl,r,pos,Y,q,(AF.length:Int),(A8.length:Int),j,Z,v,ak,ai,O,N,X,M,aj,ag,ap,ab,RQ,ah,([hrow I z O N X L M A].length:Int)],[L],[B,AF,A8,I,z,A,aF,[hrow I z O N X L M A]],[]⟩ ?_
    obtain ⟨_,⟨d3,bi,rfl,lW,lU,lG⟩,G8⟩:=Lr hB hl ah 3 0 12 1 1 A8
    refine ch G8 ?_
    refine nv ⟨[bl,r,pos,Y,q,(AF.length:Int),(A8.length:Int),j,Z,v,ak,ai,O,N,X,M,aj,ag,ap,ab,RQ,ah,([hrow I z O N X L M A].length:Int),d3,bi],[L],[B,AF,A8,I,z,A,aF,[hrow I z O N X L M A]],[]⟩ ?_
    refine eq (d3%4) 0 (fun t9=>?_) fun t9=>?_
    ·obtain ⟨_,⟨cW,cA,cr,cx,bK,bm,cQ,b5,rfl,ik,kM,kr,lE⟩,hi⟩:=IZ (a4.Fh 0 12) 3 3 bi
     refine ch hi ?_
     refine nv ⟨[bl,r,pos,Y,q,(AF.length:Int),(A8.length:Int),j,Z,v,ak,ai,O,N,X,M,aj,ag,ap,ab,RQ,ah,([hrow I z O N X L M A].length:Int),d3,bi,cW,cA,cr,cx,bK,bm],[L,cQ],[B,AF,A8,I,z,A,aF,[hrow I z O N X L M A],b5],[]⟩ ?_
     obtain ⟨_,⟨eE,eg,d1,eh,ek,cp,eV,eS,eo,db,b7,rfl,fh,kC,jG,lk,jV⟩,gk⟩:=Oo 0 0 3 bl bm 3 0 12 1 1 B A8 (MS.mv (MS.wide (M':=20000) a4 ⟨by omega,by omega⟩))
     refine ch gk ?_
     have ⟨_,_,jM,iz,iY,lf,kL,jK,_,_,_⟩:=fh
     refine nv ⟨[bl,r,pos,Y,q,(AF.length:Int),(A8.length:Int),j,Z,v,ak,ai,O,N,X,M,aj,ag,ap,ab,RQ,ah,([hrow I z O N X L M A].length:Int),d3,bi,cW,cA,cr,cx,bK,bm,eE,eg,d1,eh,ek,cp,0,0,eV],[L,cQ,eS,eo],[B,AF,A8,I,z,A,aF,[hrow I z O N X L M A],b5,db,b7,[],[]],[]⟩ ?_
     refine dL [AQ 9 0 0 0 [] 0 0 0 [] 0 [] 0 0 0 [] 0 [] [] []] (fun fu hh=>?_)
     have gg:=cL hh;try simp only [lA,lC,lN,lT']at gg
     refine ll 1 fu ?_
     refine fr ?_
     refine ll bK b5 ?_
     refine ll eE db ?_
     refine ll cp b7 ?_
     refine ll 0 [] ?_
     refine ll 0 [] ?_
     refine dL [AQ 5 0 0 0 [] cW cA cr cQ cx b5 0 0 0 [] 0 [] fu [],AQ 3 0 0 0 eS 5 17 0 [] 0 db eg d1 eh eo ek b7 [] []] (fun fB ht=>?_)
     have f9:=cL ht;try simp only [lA,lC,lN,lT']at f9
     refine ll 2 fB ?_
     refine fr ?_
     exact Ah ⟨[(g:Int),j,5,3,1,2],[],[AF,A8,[hrow I z O N X L M A],fB],[]⟩ (⟨_,_,_,_,_,_,_,_,_,_,rfl,(by subst_vars;first|exact Bz.a hg asm bodyok om|exact Bz.b hg asm rfl asm bodyok om),kn,kn,kn,kn⟩)
    refine de [] ?_
    refine ll 0 [] ?_
    exact Ah ⟨[(g:Int),j,5,3,1,0],[],[AF,A8,[hrow I z O N X L M A],[]],[]⟩ (⟨_,_,_,_,_,_,_,_,_,_,rfl,(by subst_vars;first|exact Bz.a hg asm bodyok om|exact Bz.b hg asm rfl asm bodyok om),kn,kn,kn,kn⟩)
   ·refine cm G7 ?_
    refine ch G7 ?_
    have ⟨_,_,jj,jl,kJ,kd,iZ,ig,_,_,_⟩:=bD
    refine nv ⟨[bl,r,pos,Y,q,(AF.length:Int),(A8.length:Int),j,Z,v,ak,ai,O,N,X,M,aj,ag,ap,ab,RQ,ah,([hrow I z O N X L M A].length:Int),a2,aH,aZ],[L],[B,AF,A8,I,z,A,aF,[hrow I z O N X L M A],a3],[]⟩ ?_
    obtain ⟨_,⟨bV,bf,rfl,iu,ky,lb⟩,gH⟩:=Lr hB hl a2 3 0 aH 1 1 A8
    refine ch gH ?_
    refine nv ⟨[bl,r,pos,Y,q,(AF.length:Int),(A8.length:Int),j,Z,v,ak,ai,O,N,X,M,aj,ag,ap,ab,RQ,ah,([hrow I z O N X L M A].length:Int),a2,aH,aZ,bV,bf],[L],[B,AF,A8,I,z,A,aF,[hrow I z O N X L M A],a3],[]⟩ ?_
    refine eq (bV%4) 0 (fun gu=>?_) fun gu=>?_
    ·obtain ⟨_,⟨Kz,du,cw,c4,bT,bo,c2,bI,rfl,kW,kl,j9,ii⟩,gT⟩:=IZ (bD.Fh 0 aH) 3 3 bf
     refine ch gT ?_
     refine nv ⟨[bl,r,pos,Y,q,(AF.length:Int),(A8.length:Int),j,Z,v,ak,ai,O,N,X,M,aj,ag,ap,ab,RQ,ah,([hrow I z O N X L M A].length:Int),a2,aH,aZ,bV,bf,Kz,du,cw,c4,bT,bo],[L,c2],[B,AF,A8,I,z,A,aF,[hrow I z O N X L M A],a3,bI],[]⟩ ?_
     obtain ⟨_,⟨dC,dM,eC,d4,em,cf,eR,e2,ec,cO,bH,rfl,fa,ix,h4,k6,k2⟩,hw⟩:=Oo 0 0 3 bl bo 3 0 aH 1 1 B A8 (MS.mv (MS.wide (M':=20000) bD ⟨by omega,by omega⟩))
     refine ch hw ?_
     have ⟨_,_,ir,kR,jW,kH,lc,iI,_,_,_⟩:=fa
     refine nv ⟨[bl,r,pos,Y,q,(AF.length:Int),(A8.length:Int),j,Z,v,ak,ai,O,N,X,M,aj,ag,ap,ab,RQ,ah,([hrow I z O N X L M A].length:Int),a2,aH,aZ,bV,bf,Kz,du,cw,c4,bT,bo,dC,dM,eC,d4,em,cf,0,0,eR],[L,c2,e2,ec],[B,AF,A8,I,z,A,aF,[hrow I z O N X L M A],a3,bI,cO,bH,[],[]],[]⟩ ?_
     refine dL [AQ 9 0 0 0 [] 0 0 0 [] 0 [] 0 0 0 [] 0 [] [] []] (fun fC gJ=>?_)
     have gx:=cL gJ;try simp only [lA,lC,lN,lT']at gx
     refine ll 1 fC ?_
     refine fr ?_
     refine ll bT bI ?_
     refine ll dC cO ?_
     refine ll cf bH ?_
     refine ll 0 [] ?_
     refine ll 0 [] ?_
     refine dL (a3++[AQ 5 0 0 0 [] Kz du cw c2 c4 bI 0 0 0 [] 0 [] fC [],AQ 3 0 0 0 e2 5 17 0 [] 0 cO dM eC d4 ec em bH [] []]) (fun eY hP=>?_) (Bq (pw aZ a3) pe)
     have f2:=cL hP;try simp only [lA,lC,lN,lT']at f2
     refine E6 (eY.length:Int) 1048576 ?_
     refine fr ?_
     exact Ah ⟨[(g:Int),j,5,3,1,(eY.length:Int)],[],[AF,A8,[hrow I z O N X L M A],eY],[]⟩ (⟨_,_,_,_,_,_,_,_,_,_,rfl,(by subst_vars;first|exact Bz.a hg asm bodyok om|exact Bz.b hg asm rfl asm bodyok om),kn,kn,kn,kn⟩)
    refine ll aZ a3 ?_
    refine fr ?_
    exact Ah ⟨[(g:Int),j,5,3,1,aZ],[],[AF,A8,[hrow I z O N X L M A],a3],[]⟩ (⟨_,_,_,_,_,_,_,_,_,_,rfl,(by subst_vars;first|exact Bz.a hg asm bodyok om|exact Bz.b hg asm rfl asm bodyok om),kn,kn,kn,kn⟩)
   refine cm G7 ?_
   refine cm G7 ?_
   refine ch G7 ?_
   have ⟨_,_,i4,iX,iE,kb,ij,i6,_,_,_⟩:=b6
   refine nv ⟨[bl,r,pos,Y,q,(AF.length:Int),(A8.length:Int),j,Z,v,ak,ai,O,N,X,M,aj,ag,ap,ab,RQ,ah,([hrow I z O N X L M A].length:Int),a1,a6,aB,aG,aY],[L],[B,AF,A8,I,z,A,aF,[hrow I z O N X L M A],bh,a0],[]⟩ ?_
   obtain ⟨_,⟨bG,bb,rfl,iQ,jq,ka⟩,fJ⟩:=Lr hB hl a1 a6 aB aG 1 1 bh
   refine ch fJ ?_
   refine nv ⟨[bl,r,pos,Y,q,(AF.length:Int),(A8.length:Int),j,Z,v,ak,ai,O,N,X,M,aj,ag,ap,ab,RQ,ah,([hrow I z O N X L M A].length:Int),a1,a6,aB,aG,aY,bG,bb],[L],[B,AF,A8,I,z,A,aF,[hrow I z O N X L M A],bh,a0],[]⟩ ?_
   refine eq (bG%4) 0 (fun hY=>?_) fun hY=>?_
   ·obtain ⟨_,⟨cE,cN,di,c5,b9,bj,dh,bQ,rfl,ia,jA,iV,ki⟩,f5⟩:=IZ (b6.Fh aB aG) 3 3 bb
    refine ch f5 ?_
    refine nv ⟨[bl,r,pos,Y,q,(AF.length:Int),(A8.length:Int),j,Z,v,ak,ai,O,N,X,M,aj,ag,ap,ab,RQ,ah,([hrow I z O N X L M A].length:Int),a1,a6,aB,aG,aY,bG,bb,cE,cN,di,c5,b9,bj],[L,dh],[B,AF,A8,I,z,A,aF,[hrow I z O N X L M A],bh,a0,bQ],[]⟩ ?_
    obtain ⟨_,⟨eD,dH,dW,eA,eB,cq,eX,eZ,es,cB,b8,rfl,fe,la,j8,jw,iG⟩,gI⟩:=Oo 0 0 3 bl bj a6 aB aG 1 1 B bh (MS.mv (MS.wide (M':=20000) b6 ⟨by omega,by omega⟩))
    refine ch gI ?_
    have ⟨_,_,iM,k7,jt,lj,jn,j3,_,_,_⟩:=fe
    refine nv ⟨[bl,r,pos,Y,q,(AF.length:Int),(A8.length:Int),j,Z,v,ak,ai,O,N,X,M,aj,ag,ap,ab,RQ,ah,([hrow I z O N X L M A].length:Int),a1,a6,aB,aG,aY,bG,bb,cE,cN,di,c5,b9,bj,eD,dH,dW,eA,eB,cq,0,0,eX],[L,dh,eZ,es],[B,AF,A8,I,z,A,aF,[hrow I z O N X L M A],bh,a0,bQ,cB,b8,[],[]],[]⟩ ?_
    refine dL [AQ 9 0 0 0 [] 0 0 0 [] 0 [] 0 0 0 [] 0 [] [] []] (fun fi gp=>?_)
    have gj:=cL gp;try simp only [lA,lC,lN,lT']at gj
    refine ll 1 fi ?_
    refine fr ?_
    refine ll b9 bQ ?_
    refine ll eD cB ?_
    refine ll cq b8 ?_
    refine ll 0 [] ?_
    refine ll 0 [] ?_
    refine dL (a0++[AQ 5 0 0 0 [] cE cN di dh c5 bQ 0 0 0 [] 0 [] fi [],AQ 3 0 0 0 eZ 5 17 0 [] 0 cB dH dW eA es eB b8 [] []]) (fun e3 h3=>?_) (Bq (pw aY a0) pe)
    have hM:=cL h3;try simp only [lA,lC,lN,lT']at hM
    refine E6 (e3.length:Int) 1048576 ?_
    refine fr ?_
    exact Ah ⟨[(g:Int),j,5,3,1,(e3.length:Int)],[],[AF,A8,[hrow I z O N X L M A],e3],[]⟩ (⟨_,_,_,_,_,_,_,_,_,_,rfl,(by subst_vars;first|exact Bz.a hg asm bodyok om|exact Bz.b hg asm rfl asm bodyok om),kn,kn,kn,kn⟩)
   refine ll aY a0 ?_
   refine fr ?_
   exact Ah ⟨[(g:Int),j,5,3,1,aY],[],[AF,A8,[hrow I z O N X L M A],a0],[]⟩ (⟨_,_,_,_,_,_,_,_,_,_,rfl,(by subst_vars;first|exact Bz.a hg asm bodyok om|exact Bz.b hg asm rfl asm bodyok om),kn,kn,kn,kn⟩)
  refine cm G5 ?_
  refine ch G5 ?_
  refine nv ⟨[bl,r,pos,Y,q,(AF.length:Int),(A8.length:Int),j,Z,v,ao,an,V,Q,R,P,al,af,aq,U,ac],[J],[B,AF,A8,H,C,x,aC],[]⟩ ?_
  obtain ⟨_,⟨aE,ae,rfl,k8,jh,kK⟩,gX⟩:=Lr hB hl af 3 U 12 1 1 A8
  refine ch gX ?_
  refine nv ⟨[bl,r,pos,Y,q,(AF.length:Int),(A8.length:Int),j,Z,v,ao,an,V,Q,R,P,al,af,aq,U,ac,aE,ae],[J],[B,AF,A8,H,C,x,aC],[]⟩ ?_
  refine ll ao H ?_
  refine ll an C ?_
  refine ll al x ?_
  refine de [hrow H C V Q R J P x] ?_
  refine ll 1 [hrow H C V Q R J P x] ?_
  refine fr ?_
  have a4:=MS.Acu (call:=1) (pos:=ae) (count:=U) hB hl om om om
  obtain ⟨_,(⟨rfl,hm⟩|⟨aV,az,aI,aO,rfl,bt,he,hA,hW,h1,hu,fW⟩|⟨jo,aW,aX,aw,ax,aJ,a5,aN,rfl,bz,hE,hC,gW,gO,fP,gz,hR,fK,hJ⟩),bB⟩:=Alj (1+(aE%8)) 0 0 bl ae 3 U 12 (g:Int) j 5 3 1 B AF A8 [hrow H C V Q R J P x] A8 (MS.mv a4)
  ·refine ch bB ?_
   refine nv ⟨[bl,r,pos,Y,q,(AF.length:Int),(A8.length:Int),j,Z,v,ao,an,V,Q,R,P,al,af,aq,U,ac,aE,ae,([hrow H C V Q R J P x].length:Int)],[J],[B,AF,A8,H,C,x,aC,[hrow H C V Q R J P x]],[]⟩ ?_
   obtain ⟨_,⟨bZ,ba,rfl,iK,j4,im⟩,fT⟩:=Lr hB hl ae 3 U 12 1 1 A8
   refine ch fT ?_
   refine nv ⟨[bl,r,pos,Y,q,(AF.length:Int),(A8.length:Int),j,Z,v,ao,an,V,Q,R,P,al,af,aq,U,ac,aE,ae,([hrow H C V Q R J P x].length:Int),bZ,ba],[J],[B,AF,A8,H,C,x,aC,[hrow H C V Q R J P x]],[]⟩ ?_
   refine eq (bZ%4) 0 (fun fV=>?_) fun fV=>?_
   ·obtain ⟨_,⟨cI,c9,cX,cu,bF,bw,cF,cc,rfl,kI,kw,iL,jf⟩,gQ⟩:=IZ (a4.Fh U 12) 3 3 ba
    refine ch gQ ?_
    refine nv ⟨[bl,r,pos,Y,q,(AF.length:Int),(A8.length:Int),j,Z,v,ao,an,V,Q,R,P,al,af,aq,U,ac,aE,ae,([hrow H C V Q R J P x].length:Int),bZ,ba,cI,c9,cX,cu,bF,bw],[J,cF],[B,AF,A8,H,C,x,aC,[hrow H C V Q R J P x],cc],[]⟩ ?_
    obtain ⟨_,⟨eu,ej,dw,dU,dF,cj,eL,eJ,dx,dt,bE,rfl,e8,kT,j2,jZ,jY⟩,fR⟩:=Oo 0 0 3 bl bw 3 U 12 1 1 B A8 (MS.mv (MS.wide (M':=20000) a4 ⟨by omega,by omega⟩))
    refine ch fR ?_
    have ⟨_,_,iq,jF,lz,lr,jx,lv,_,_,_⟩:=e8
    refine nv ⟨[bl,r,pos,Y,q,(AF.length:Int),(A8.length:Int),j,Z,v,ao,an,V,Q,R,P,al,af,aq,U,ac,aE,ae,([hrow H C V Q R J P x].length:Int),bZ,ba,cI,c9,cX,cu,bF,bw,eu,ej,dw,dU,dF,cj,0,0,eL],[J,cF,eJ,dx],[B,AF,A8,H,C,x,aC,[hrow H C V Q R J P x],cc,dt,bE,[],[]],[]⟩ ?_
    refine dL [AQ 9 0 0 0 [] 0 0 0 [] 0 [] 0 0 0 [] 0 [] [] []] (fun ft hQ=>?_)
    have f3:=cL hQ;try simp only [lA,lC,lN,lT']at f3
    refine ll 1 ft ?_
    refine fr ?_
    refine ll bF cc ?_
    refine ll eu dt ?_
    refine ll cj bE ?_
    refine ll 0 [] ?_
    refine ll 0 [] ?_
    refine dL [AQ 5 0 0 0 [] cI c9 cX cF cu cc 0 0 0 [] 0 [] ft [],AQ 3 0 0 0 eJ 5 17 0 [] 0 dt ej dw dU dx dF bE [] []] (fun fy fN=>?_)
    have hn:=cL fN;try simp only [lA,lC,lN,lT']at hn
    refine ll 2 fy ?_
    refine fr ?_
    exact Ah ⟨[(g:Int),j,5,3,1,2],[],[AF,A8,[hrow H C V Q R J P x],fy],[]⟩ (⟨_,_,_,_,_,_,_,_,_,_,rfl,(by subst_vars;first|exact Bz.a hg asm bodyok om|exact Bz.b hg asm rfl asm bodyok om),kn,kn,kn,kn⟩)
   refine de [] ?_
   refine ll 0 [] ?_
   exact Ah ⟨[(g:Int),j,5,3,1,0],[],[AF,A8,[hrow H C V Q R J P x],[]],[]⟩ (⟨_,_,_,_,_,_,_,_,_,_,rfl,(by subst_vars;first|exact Bz.a hg asm bodyok om|exact Bz.b hg asm rfl asm bodyok om),kn,kn,kn,kn⟩)
  ·refine cm bB ?_
   refine ch bB ?_
   have ⟨_,_,gK,hH,fQ,gS,fX,gD,_,_,_⟩:=bt
   refine nv ⟨[bl,r,pos,Y,q,(AF.length:Int),(A8.length:Int),j,Z,v,ao,an,V,Q,R,P,al,af,aq,U,ac,aE,ae,([hrow H C V Q R J P x].length:Int),aV,az,aI],[J],[B,AF,A8,H,C,x,aC,[hrow H C V Q R J P x],aO],[]⟩ ?_
   obtain ⟨_,⟨bO,bc,rfl,jO,i0,je⟩,gZ⟩:=Lr hB hl aV 3 U az 1 1 A8
   refine ch gZ ?_
   refine nv ⟨[bl,r,pos,Y,q,(AF.length:Int),(A8.length:Int),j,Z,v,ao,an,V,Q,R,P,al,af,aq,U,ac,aE,ae,([hrow H C V Q R J P x].length:Int),aV,az,aI,bO,bc],[J],[B,AF,A8,H,C,x,aC,[hrow H C V Q R J P x],aO],[]⟩ ?_
   refine eq (bO%4) 0 (fun g4=>?_) fun g4=>?_
   ·obtain ⟨_,⟨c6,cJ,ct,dd,bP,br,cR,cb,rfl,jy,kz,jX,jP⟩,gl⟩:=IZ (bt.Fh U az) 3 3 bc
    refine ch gl ?_
    refine nv ⟨[bl,r,pos,Y,q,(AF.length:Int),(A8.length:Int),j,Z,v,ao,an,V,Q,R,P,al,af,aq,U,ac,aE,ae,([hrow H C V Q R J P x].length:Int),aV,az,aI,bO,bc,c6,cJ,ct,dd,bP,br],[J,cR],[B,AF,A8,H,C,x,aC,[hrow H C V Q R J P x],aO,cb],[]⟩ ?_
    obtain ⟨_,⟨eb,et,dN,ee,ef,co,e4,e6,dZ,cV,b4,rfl,ff,ie,i9,kv,iJ⟩,hX⟩:=Oo 0 0 3 bl br 3 U az 1 1 B A8 (MS.mv (MS.wide (M':=20000) bt ⟨by omega,by omega⟩))
    refine ch hX ?_
    have ⟨_,_,kO,iT,kP,jU,kt,ib,_,_,_⟩:=ff
    refine nv ⟨[bl,r,pos,Y,q,(AF.length:Int),(A8.length:Int),j,Z,v,ao,an,V,Q,R,P,al,af,aq,U,ac,aE,ae,([hrow H C V Q R J P x].length:Int),aV,az,aI,bO,bc,c6,cJ,ct,dd,bP,br,eb,et,dN,ee,ef,co,0,0,e4],[J,cR,e6,dZ],[B,AF,A8,H,C,x,aC,[hrow H C V Q R J P x],aO,cb,cV,b4,[],[]],[]⟩ ?_
    refine dL [AQ 9 0 0 0 [] 0 0 0 [] 0 [] 0 0 0 [] 0 [] [] []] (fun fv fO=>?_)
    have g7:=cL fO;try simp only [lA,lC,lN,lT']at g7
    refine ll 1 fv ?_
    refine fr ?_
    refine ll bP cb ?_
    refine ll eb cV ?_
    refine ll co b4 ?_
    refine ll 0 [] ?_
    refine ll 0 [] ?_
    refine dL (aO++[AQ 5 0 0 0 [] c6 cJ ct cR dd cb 0 0 0 [] 0 [] fv [],AQ 3 0 0 0 e6 5 17 0 [] 0 cV et dN ee dZ ef b4 [] []]) (fun eH hk=>?_) (Bq (pw aI aO) pe)
    have fL:=cL hk;try simp only [lA,lC,lN,lT']at fL
    refine E6 (eH.length:Int) 1048576 ?_
    refine fr ?_
    exact Ah ⟨[(g:Int),j,5,3,1,(eH.length:Int)],[],[AF,A8,[hrow H C V Q R J P x],eH],[]⟩ (⟨_,_,_,_,_,_,_,_,_,_,rfl,(by subst_vars;first|exact Bz.a hg asm bodyok om|exact Bz.b hg asm rfl asm bodyok om),kn,kn,kn,kn⟩)
   refine ll aI aO ?_
   refine fr ?_
   exact Ah ⟨[(g:Int),j,5,3,1,aI],[],[AF,A8,[hrow H C V Q R J P x],aO],[]⟩ (⟨_,_,_,_,_,_,_,_,_,_,rfl,(by subst_vars;first|exact Bz.a hg asm bodyok om|exact Bz.b hg asm rfl asm bodyok om),kn,kn,kn,kn⟩)
  refine cm bB ?_
  refine cm bB ?_
  refine ch bB ?_
  have ⟨_,_,gV,gG,fH,gB,hT,gN,_,_,_⟩:=bz
  refine nv ⟨[bl,r,pos,Y,q,(AF.length:Int),(A8.length:Int),j,Z,v,ao,an,V,Q,R,P,al,af,aq,U,ac,aE,ae,([hrow H C V Q R J P x].length:Int),aW,aX,aw,ax,aJ],[J],[B,AF,A8,H,C,x,aC,[hrow H C V Q R J P x],a5,aN],[]⟩ ?_
  obtain ⟨_,⟨X7,a8,rfl,iU,i2,ld⟩,gv⟩:=Lr hB hl aW aX aw ax 1 1 a5
  refine ch gv ?_
  refine nv ⟨[bl,r,pos,Y,q,(AF.length:Int),(A8.length:Int),j,Z,v,ao,an,V,Q,R,P,al,af,aq,U,ac,aE,ae,([hrow H C V Q R J P x].length:Int),aW,aX,aw,ax,aJ,X7,a8],[J],[B,AF,A8,H,C,x,aC,[hrow H C V Q R J P x],a5,aN],[]⟩ ?_
  refine eq (X7%4) 0 (fun gi=>?_) fun gi=>?_
  ·obtain ⟨_,⟨dj,dk,cz,cM,b3,bv,cU,bL,rfl,jv,js,jI,jp⟩,hN⟩:=IZ (bz.Fh aw ax) 3 3 a8
   refine ch hN ?_
   refine nv ⟨[bl,r,pos,Y,q,(AF.length:Int),(A8.length:Int),j,Z,v,ao,an,V,Q,R,P,al,af,aq,U,ac,aE,ae,([hrow H C V Q R J P x].length:Int),aW,aX,aw,ax,aJ,X7,a8,dj,dk,cz,cM,b3,bv],[J,cU],[B,AF,A8,H,C,x,aC,[hrow H C V Q R J P x],a5,aN,bL],[]⟩ ?_
   obtain ⟨_,⟨ew,dy,ez,d5,ey,cd,eK,eM,ei,c7,bU,rfl,fd,jT,kA,k0,ke⟩,gm⟩:=Oo 0 0 3 bl bv aX aw ax 1 1 B a5 (MS.mv (MS.wide (M':=20000) bz ⟨by omega,by omega⟩))
   refine ch gm ?_
   have ⟨_,_,ip,i5,lB,jD,kp,iR,_,_,_⟩:=fd
   refine nv ⟨[bl,r,pos,Y,q,(AF.length:Int),(A8.length:Int),j,Z,v,ao,an,V,Q,R,P,al,af,aq,U,ac,aE,ae,([hrow H C V Q R J P x].length:Int),aW,aX,aw,ax,aJ,X7,a8,dj,dk,cz,cM,b3,bv,ew,dy,ez,d5,ey,cd,0,0,eK],[J,cU,eM,ei],[B,AF,A8,H,C,x,aC,[hrow H C V Q R J P x],a5,aN,bL,c7,bU,[],[]],[]⟩ ?_
   refine dL [AQ 9 0 0 0 [] 0 0 0 [] 0 [] 0 0 0 [] 0 [] [] []] (fun fq gq=>?_)
   have g8:=cL gq;try simp only [lA,lC,lN,lT']at g8
   refine ll 1 fq ?_
   refine fr ?_
   refine ll b3 bL ?_
   refine ll ew c7 ?_
   refine ll cd bU ?_
   refine ll 0 [] ?_
   refine ll 0 [] ?_
   refine dL (aN++[AQ 5 0 0 0 [] dj dk cz cU cM bL 0 0 0 [] 0 [] fq [],AQ 3 0 0 0 eM 5 17 0 [] 0 c7 dy ez d5 ei ey bU [] []]) (fun eQ gb=>?_) (Bq (pw aJ aN) pe)
   have gF:=cL gb;try simp only [lA,lC,lN,lT']at gF
   refine E6 (eQ.length:Int) 1048576 ?_
   refine fr ?_
   exact Ah ⟨[(g:Int),j,5,3,1,(eQ.length:Int)],[],[AF,A8,[hrow H C V Q R J P x],eQ],[]⟩ (⟨_,_,_,_,_,_,_,_,_,_,rfl,(by subst_vars;first|exact Bz.a hg asm bodyok om|exact Bz.b hg asm rfl asm bodyok om),kn,kn,kn,kn⟩)
  refine ll aJ aN ?_
  refine fr ?_
  exact Ah ⟨[(g:Int),j,5,3,1,aJ],[],[AF,A8,[hrow H C V Q R J P x],aN],[]⟩ (⟨_,_,_,_,_,_,_,_,_,_,rfl,(by subst_vars;first|exact Bz.a hg asm bodyok om|exact Bz.b hg asm rfl asm bodyok om),kn,kn,kn,kn⟩)
 obtain ⟨_,⟨aD,ad,rfl,iP,kq,jC⟩,hG⟩:=Lr hB hl v 3 0 12 0 1 A8
 refine ch hG ?_
 refine nv ⟨[bl,r,pos,Y,q,(AF.length:Int),(A8.length:Int),j,Z,v,aD,ad],[],[B,AF,A8],[]⟩ ?_
 have a4:=MS.Acu (call:=0) (pos:=ad) (count:=0) hB hl om om om
 obtain ⟨_,(⟨rfl,f4⟩|⟨aQ,ay,aL,aM,rfl,bk,gE,gR,g9,gL,hr,gy⟩|⟨k4,aR,aU,av,aA,aK,a7,aP,rfl,bp,hK,g0,gd,g5,gY,hS,gC,gr,f1⟩),bC⟩:=Apx (1+(aD%8)) 0 0 bl ad 3 0 12 (g:Int) j 5 3 B AF A8 A8 (MS.mv a4)
 ·refine ch bC ?_
  refine nv ⟨[bl,r,pos,Y,q,(AF.length:Int),(A8.length:Int),j,Z,v,aD,ad],[],[B,AF,A8],[]⟩ ?_
  obtain ⟨_,⟨bR,bg,rfl,kV,ja,kE⟩,fM⟩:=Lr hB hl ad 3 0 12 0 1 A8
  refine ch fM ?_
  refine nv ⟨[bl,r,pos,Y,q,(AF.length:Int),(A8.length:Int),j,Z,v,aD,ad,bR,bg],[],[B,AF,A8],[]⟩ ?_
  refine eq (bR%4) 0 (fun gf=>?_) fun gf=>?_
  ·obtain ⟨_,⟨cC,c8,cY,cG,b1,bA,c1,bJ,rfl,jQ,j1,kF,jz⟩,hF⟩:=IZ (a4.Fh 0 12) 3 3 bg
   refine ch hF ?_
   refine nv ⟨[bl,r,pos,Y,q,(AF.length:Int),(A8.length:Int),j,Z,v,aD,ad,bR,bg,cC,c8,cY,cG,b1,bA],[c1],[B,AF,A8,bJ],[]⟩ ?_
   obtain ⟨_,⟨d6,dG,dD,ea,d7,cg,e1,eN,en,dv,bX,rfl,e7,jc,lD,j5,i7⟩,ga⟩:=Oo 0 0 3 bl bA 3 0 12 0 1 B A8 (MS.mv (MS.wide (M':=20000) a4 ⟨by omega,by omega⟩))
   refine ch ga ?_
   have ⟨_,_,k5,kQ,kh,jk,jE,kY,_,_,_⟩:=e7
   refine nv ⟨[bl,r,pos,Y,q,(AF.length:Int),(A8.length:Int),j,Z,v,aD,ad,bR,bg,cC,c8,cY,cG,b1,bA,d6,dG,dD,ea,d7,cg,0,0,e1],[c1,eN,en],[B,AF,A8,bJ,dv,bX,[],[]],[]⟩ ?_
   refine dL [AQ 9 0 0 0 [] 0 0 0 [] 0 [] 0 0 0 [] 0 [] [] []] (fun fD fZ=>?_)
   have gP:=cL fZ;try simp only [lA,lC,lN,lT']at gP
   refine ll 1 fD ?_
   refine fr ?_
   refine de [] ?_
   refine ll 0 [] ?_
   refine ll b1 bJ ?_
   refine ll d6 dv ?_
   refine ll cg bX ?_
   refine ll 0 [] ?_
   refine ll 0 [] ?_
   refine dL [AQ 5 0 0 0 [] cC c8 cY c1 cG bJ 0 0 0 [] 0 [] fD [],AQ 3 0 0 0 eN 5 17 0 [] 0 dv dG dD ea en d7 bX [] []] (fun fk hv=>?_)
   have gA:=cL hv;try simp only [lA,lC,lN,lT']at gA
   refine ll 2 fk ?_
   refine fr ?_
   exact Ah ⟨[(g:Int),j,5,3,0,2],[],[AF,A8,[],fk],[]⟩ (⟨_,_,_,_,_,_,_,_,_,_,rfl,(by subst_vars;first|exact Bz.a hg asm bodyok om|exact Bz.b hg asm rfl asm bodyok om),kn,kn,kn,kn⟩)
  refine de [] ?_
  refine ll 0 [] ?_
  exact Ah ⟨[(g:Int),j,5,3,0,0],[],[AF,A8,[],[]],[]⟩ (⟨_,_,_,_,_,_,_,_,_,_,rfl,(by subst_vars;first|exact Bz.a hg asm bodyok om|exact Bz.b hg asm rfl asm bodyok om),kn,kn,kn,kn⟩)
 ·refine cm bC ?_
  refine ch bC ?_
  have ⟨_,_,ho,h0,gU,gn,f7,hq,_,_,_⟩:=bk
  refine nv ⟨[bl,r,pos,Y,q,(AF.length:Int),(A8.length:Int),j,Z,v,aD,ad,aQ,ay,aL],[],[B,AF,A8,aM],[]⟩ ?_
  obtain ⟨_,⟨X6,a9,rfl,ly,iO,h7⟩,h2⟩:=Lr hB hl aQ 3 0 ay 0 1 A8
  refine ch h2 ?_
  refine nv ⟨[bl,r,pos,Y,q,(AF.length:Int),(A8.length:Int),j,Z,v,aD,ad,aQ,ay,aL,X6,a9],[],[B,AF,A8,aM],[]⟩ ?_
  refine eq (X6%4) 0 (fun hD=>?_) fun hD=>?_
  ·obtain ⟨_,⟨dc,cP,dl,c3,b2,bn,cT,bW,rfl,iB,h6,kD,jS⟩,gh⟩:=IZ (bk.Fh 0 ay) 3 3 a9
   refine ch gh ?_
   refine nv ⟨[bl,r,pos,Y,q,(AF.length:Int),(A8.length:Int),j,Z,v,aD,ad,aQ,ay,aL,X6,a9,dc,cP,dl,c3,b2,bn],[cT],[B,AF,A8,aM,bW],[]⟩ ?_
   obtain ⟨_,⟨ep,dE,dR,dJ,dX,ce,eU,eI,dY,cD,bM,rfl,fg,kf,jb,km,io⟩,hz⟩:=Oo 0 0 3 bl bn 3 0 ay 0 1 B A8 (MS.mv (MS.wide (M':=20000) bk ⟨by omega,by omega⟩))
   refine ch hz ?_
   have ⟨_,_,j7,ku,jJ,iF,iw,kB,_,_,_⟩:=fg
   refine nv ⟨[bl,r,pos,Y,q,(AF.length:Int),(A8.length:Int),j,Z,v,aD,ad,aQ,ay,aL,X6,a9,dc,cP,dl,c3,b2,bn,ep,dE,dR,dJ,dX,ce,0,0,eU],[cT,eI,dY],[B,AF,A8,aM,bW,cD,bM,[],[]],[]⟩ ?_
   refine dL [AQ 9 0 0 0 [] 0 0 0 [] 0 [] 0 0 0 [] 0 [] [] []] (fun fw hU=>?_)
   have hL:=cL hU;try simp only [lA,lC,lN,lT']at hL
   refine ll 1 fw ?_
   refine fr ?_
   refine ll b2 bW ?_
   refine ll ep cD ?_
   refine ll ce bM ?_
   refine ll 0 [] ?_
   refine ll 0 [] ?_
   refine dL (aM++[AQ 5 0 0 0 [] dc cP dl cT c3 bW 0 0 0 [] 0 [] fw [],AQ 3 0 0 0 eI 5 17 0 [] 0 cD dE dR dJ dY dX bM [] []]) (fun eG hj=>?_) (Bq (pw aL aM) pe)
   have fS:=cL hj;try simp only [lA,lC,lN,lT']at fS
   refine E6 (eG.length:Int) 1048576 ?_
   refine de [] ?_
   refine ll 0 [] ?_
   refine fr ?_
   exact Ah ⟨[(g:Int),j,5,3,0,(eG.length:Int)],[],[AF,A8,[],eG],[]⟩ (⟨_,_,_,_,_,_,_,_,_,_,rfl,(by subst_vars;first|exact Bz.a hg asm bodyok om|exact Bz.b hg asm rfl asm bodyok om),kn,kn,kn,kn⟩)
  refine de [] ?_
  refine ll 0 [] ?_
  refine ll aL aM ?_
  refine fr ?_
  exact Ah ⟨[(g:Int),j,5,3,0,aL],[],[AF,A8,[],aM],[]⟩ (⟨_,_,_,_,_,_,_,_,_,_,rfl,(by subst_vars;first|exact Bz.a hg asm bodyok om|exact Bz.b hg asm rfl asm bodyok om),kn,kn,kn,kn⟩)
 refine cm bC ?_
 refine cm bC ?_
 refine ch bC ?_
 have ⟨_,_,fY,gs,fU,hO,hs,hZ,_,_,_⟩:=bp
 refine nv ⟨[bl,r,pos,Y,q,(AF.length:Int),(A8.length:Int),j,Z,v,aD,ad,aR,aU,av,aA,aK],[],[B,AF,A8,a7,aP],[]⟩ ?_
 obtain ⟨_,⟨b0,be,rfl,kZ,lq,iC⟩,f6⟩:=Lr hB hl aR aU av aA 0 1 a7
 refine ch f6 ?_
 refine nv ⟨[bl,r,pos,Y,q,(AF.length:Int),(A8.length:Int),j,Z,v,aD,ad,aR,aU,av,aA,aK,b0,be],[],[B,AF,A8,a7,aP],[]⟩ ?_
 refine eq (b0%4) 0 (fun g6=>?_) fun g6=>?_
 ·obtain ⟨_,⟨cv,cK,cZ,cH,bS,bx,cS,bN,rfl,h9,h8,kU,ji⟩,hx⟩:=IZ (bp.Fh av aA) 3 3 be
  refine ch hx ?_
  refine nv ⟨[bl,r,pos,Y,q,(AF.length:Int),(A8.length:Int),j,Z,v,aD,ad,aR,aU,av,aA,aK,b0,be,cv,cK,cZ,cH,bS,bx],[cS],[B,AF,A8,a7,aP,bN],[]⟩ ?_
  obtain ⟨_,⟨d9,er,ed,d0,dz,ci,eW,eP,d2,cy,bY,rfl,e9,i1,iD,ic,k9⟩,gM⟩:=Oo 0 0 3 bl bx aU av aA 0 1 B a7 (MS.mv (MS.wide (M':=20000) bp ⟨by omega,by omega⟩))
  refine ch gM ?_
  have ⟨_,_,lw,ko,lg,kG,ih,jr,_,_,_⟩:=e9
  refine nv ⟨[bl,r,pos,Y,q,(AF.length:Int),(A8.length:Int),j,Z,v,aD,ad,aR,aU,av,aA,aK,b0,be,cv,cK,cZ,cH,bS,bx,d9,er,ed,d0,dz,ci,0,0,eW],[cS,eP,d2],[B,AF,A8,a7,aP,bN,cy,bY,[],[]],[]⟩ ?_
  refine dL [AQ 9 0 0 0 [] 0 0 0 [] 0 [] 0 0 0 [] 0 [] [] []] (fun fA hI=>?_)
  have hy:=cL hI;try simp only [lA,lC,lN,lT']at hy
  refine ll 1 fA ?_
  refine fr ?_
  refine ll bS bN ?_
  refine ll d9 cy ?_
  refine ll ci bY ?_
  refine ll 0 [] ?_
  refine ll 0 [] ?_
  refine dL (aP++[AQ 5 0 0 0 [] cv cK cZ cS cH bN 0 0 0 [] 0 [] fA [],AQ 3 0 0 0 eP 5 17 0 [] 0 cy er ed d0 d2 dz bY [] []]) (fun eO f8=>?_) (Bq (pw aK aP) pe)
  have gw:=cL f8;try simp only [lA,lC,lN,lT']at gw
  refine E6 (eO.length:Int) 1048576 ?_
  refine de [] ?_
  refine ll 0 [] ?_
  refine fr ?_
  exact Ah ⟨[(g:Int),j,5,3,0,(eO.length:Int)],[],[AF,A8,[],eO],[]⟩ (⟨_,_,_,_,_,_,_,_,_,_,rfl,(by subst_vars;first|exact Bz.a hg asm bodyok om|exact Bz.b hg asm rfl asm bodyok om),kn,kn,kn,kn⟩)
 refine de [] ?_
 refine ll 0 [] ?_
 refine ll aK aP ?_
 refine fr ?_
 exact Ah ⟨[(g:Int),j,5,3,0,aK],[],[AF,A8,[],aP],[]⟩ (⟨_,_,_,_,_,_,_,_,_,_,rfl,(by subst_vars;first|exact Bz.a hg asm bodyok om|exact Bz.b hg asm rfl asm bodyok om),kn,kn,kn,kn⟩)
theorem c_4:K_4 4:=by
 intro L B hB hl h
 refine .of (t:=Xs) rfl ?_
 unfold Xs
 obtain ⟨_,⟨j,q,rfl,C,I,A⟩,z⟩:=c_5 hB hl 0 0 0 0 0
 refine ch z ?_
 refine nv ⟨[L,j,q],[],[B],[]⟩ ?_
 refine eq (j%5) 0 (fun v=>?_) fun v=>?_
 ·exact w_4 hB hl 4 (by decide) j q om h
 refine eq (j%5) 1 (fun x=>?_) fun x=>?_
 ·exact w_4 hB hl 1 (by decide) j q om h
 refine eq (j%5) 2 (fun H=>?_) fun H=>?_
 ·exact w_4 hB hl 2 (by decide) j q om h
 refine eq (j%5) 3 (fun J=>?_) fun J=>?_
 ·exact w_4 hB hl 8 (by decide) j q om h
 refine Bw (j%5) 4 ?_
 exact w_4 hB hl 6 (by decide) j q om h
end
end Go.Proofs.YtaolbokoijfhnaaGreatDoor.Am
