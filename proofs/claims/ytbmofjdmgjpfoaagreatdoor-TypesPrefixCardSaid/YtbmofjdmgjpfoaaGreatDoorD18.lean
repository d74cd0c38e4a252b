/- Part 18 of the proof of TypesPrefix. -/
import Derived.Test.YtbmofjdmgjpfoaaGreatDoorD11
import Derived.Test.YtbmofjdmgjpfoaaGreatDoorD17
set_option linter.all false
section
set_option maxHeartbeats 40000000
set_option maxRecDepth 100000
namespace Go.Proofs.YtbmofjdmgjpfoaaGreatDoor.Am
open Go.AM Go.AM.K
def K_4 (N:Nat):Prop:=∀{q:Int} {B:Rs} (hB:Dw B) (hl:q=B.length) (h:q≤140737488355328:=by exact kn),Ok trees N ⟨[q],[],[B],[]⟩ fun y=>(∃(x c j pl' o k:Int),∃(g u d v:Rs),y=(0,(⟨[x,c,j,pl',o,k],[],[g,u,d,v],[]⟩:Ah))∧(B9 x c g u d v)∧(j=g.length)∧(pl'=u.length)∧(o=d.length)∧(k=v.length))
theorem w_4 {U:Int} {B:Rs} (hB:Dw B) (hl:U=B.length) (g:Nat) (hg:(g:Int)=4∨(g:Int)=1∨(g:Int)=2∨(g:Int)=8∨(g:Int)=6) (r pos:Int) (hp:0≤pos∧pos≤1) (lx:U≤140737488355328):W trees (fun zz=>(∃(g' eF eZ pl' e4 e2:Int),∃(ei P' eu R':Rs),zz=(0,(⟨[g',eF,eZ,pl',e4,e2],[],[ei,P',eu,R'],[]⟩:Ah))∧(B9 g' eF ei P' eu R')∧(eZ=ei.length)∧(pl'=P'.length)∧(e4=eu.length)∧(e2=R'.length))) (X_4 g) ⟨[U,r,pos],[],[B],[]⟩:=by
 have ly:G 3=40:=rfl;have lw:G 2=12:=rfl
 unfold X_4
 obtain ⟨_,⟨Q,d,rfl,li,k6,ln⟩,G1⟩:=c_5 hB hl pos 0 0 0 0
 refine ch G1 ?_
 refine nv ⟨[U,r,pos,Q,d],[],[B],[]⟩ ?_
 refine de A4 ?_
 refine ll 5 A4 ?_
 refine fr ?_
 refine de Au ?_
 refine ll 3 Au ?_
 refine fr ?_
 obtain ⟨_,⟨c,rfl,lk⟩,G2⟩:=c_6 (Q%3) 0 0 U d 0 0 (g:Int) 1 5 3 B A4 Au (by exact ⟨.inl rfl,by omega⟩)
 refine ch G2 ?_
 refine nv ⟨[U,r,pos,Q,d,(A4.length:Int),(Au.length:Int),c],[],[B,A4,Au],[]⟩ ?_
 obtain ⟨_,⟨R,j,rfl,lc,k7,la⟩,G3⟩:=c_5 hB hl d 0 0 0 0
 refine ch G3 ?_
 refine nv ⟨[U,r,pos,Q,d,(A4.length:Int),(Au.length:Int),c,R,j],[],[B,A4,Au],[]⟩ ?_
 refine eq (R%3) 0 (fun t4=>?_) fun t4=>?_
 ·obtain ⟨_,(⟨aj,ai,J,A,y,N,ak,ac,am,Z,M,q,u,v,ax,rfl,kz,kB,ka,jw,kV,hX,ju⟩|⟨ah,af,C,H,D,P,ag,ad,al,O,X,z,k,x,o,ay,rfl,hL,kS,iT,kw,jC,h6,j9,kT,h2⟩),G5⟩:=c_7 hB hl j 0 0 0 0
  ·refine ch G5 ?_
   refine nv ⟨[U,r,pos,Q,d,(A4.length:Int),(Au.length:Int),c,R,j,aj,ai,J,A,y,N,ak,ac,am,Z],[M],[B,A4,Au,q,u,v,ax],[]⟩ ?_
   refine el (j':=0) rfl ?_
   refine el (j':=1) rfl ?_
   refine el (j':=2) rfl ?_
   refine de Au ?_
   refine ll 3 Au ?_
   obtain ⟨_,⟨T3,ae,rfl,lr,lf,k4⟩,G6⟩:=LB hB hl ac 3 0 12 1 1 Au
   refine ch G6 ?_
   refine nv ⟨[U,r,pos,Q,d,(A4.length:Int),(Au.length:Int),c,R,j,aj,ai,J,A,y,N,ak,ac,am,Z,1,2,3,(Au.length:Int),T3,ae],[M,[110],[116],[99]],[B,A4,Au,q,u,v,ax,Au],[]⟩ ?_
   refine ll aj q ?_
   refine ll ai u ?_
   refine ll ak v ?_
   refine de [hrow q u J A y M N v] ?_
   refine ll 1 [hrow q u J A y M N v] ?_
   refine fr ?_
   have aW:=MS.To (call:=1) (pos:=ae) (count:=0) hB hl om om om
   obtain ⟨_,(⟨rfl,kH⟩|⟨aZ,aC,aU,aX,rfl,bO,iB,i9,jk,ja,ko,kX⟩|⟨lb,aY,a2,aq,aB,aR,bb,aV,rfl,bx,jF,jP,jQ,kE,ip,kI,jx,iw,iU⟩),G7⟩:=AiP (1+(T3%8)) 0 0 U ae 3 0 12 (g:Int) c 5 3 1 B A4 Au [hrow q u J A y M N v] Au (MS.mv aW)
   ·refine ch G7 ?_
    refine nv ⟨[U,r,pos,Q,d,(A4.length:Int),(Au.length:Int),c,R,j,aj,ai,J,A,y,N,ak,ac,am,Z,1,2,3,(Au.length:Int),T3,ae,([hrow q u J A y M N v].length:Int)],[M,[110],[116],[99]],[B,A4,Au,q,u,v,ax,Au,[hrow q u J A y M N v]],[]⟩ ?_
    obtain ⟨_,⟨ed,bc,rfl,lp,lo,lv⟩,G8⟩:=LB hB hl ae 3 0 12 1 1 Au
    refine ch G8 ?_
    refine nv ⟨[U,r,pos,Q,d,(A4.length:Int),(Au.length:Int),c,R,j,aj,ai,J,A,y,N,ak,ac,am,Z,1,2,3,(Au.length:Int),T3,ae,([hrow q u J A y M N v].length:Int),ed,bc],[M,[110],[116],[99]],[B,A4,Au,q,u,v,ax,Au,[hrow q u J A y M N v]],[]⟩ ?_
    refine eq (ed%4) 0 (fun t9=>?_) fun t9=>?_
    ·obtain ⟨_,⟨cE,cU,cG,ci,bF,bn,cq,b1,rfl,jA,iu,h4,jn⟩,gz⟩:=Jm (aW.Fy 0 12) 3 3 bc
     refine ch gz ?_
     refine nv ⟨[U,r,pos,Q,d,(A4.length:Int),(Au.length:Int),c,R,j,aj,ai,J,A,y,N,ak,ac,am,Z,1,2,3,(Au.length:Int),T3,ae,([hrow q u J A y M N v].length:Int),ed,bc,cE,cU,cG,ci,bF,bn],[M,[110],[116],[99],cq],[B,A4,Au,q,u,v,ax,Au,[hrow q u J A y M N v],b1],[]⟩ ?_
     obtain ⟨_,⟨ee,dN,di,d0,dG,cd,ep,eI,d7,cC,bA,rfl,eS,jl,js,i8,iP⟩,fE⟩:=O5 0 0 3 U bn 3 0 12 1 1 B Au (MS.mv (MS.wide (M':=20000) aW ⟨by omega,by omega⟩))
     refine ch fE ?_
     have ⟨_,_,jv,kJ,j6,iM,kF,kO,_,_,_⟩:=eS
     refine nv ⟨[U,r,pos,Q,d,(A4.length:Int),(Au.length:Int),c,R,j,aj,ai,J,A,y,N,ak,ac,am,Z,1,2,3,(Au.length:Int),T3,ae,([hrow q u J A y M N v].length:Int),ed,bc,cE,cU,cG,ci,bF,bn,ee,dN,di,d0,dG,cd,0,0,ep],[M,[110],[116],[99],cq,eI,d7],[B,A4,Au,q,u,v,ax,Au,[hrow q u J A y M N v],b1,cC,bA,[],[]],[]⟩ ?_
     refine dL [Be 9 0 0 0 [] 0 0 0 [] 0 [] 0 0 0 [] 0 [] [] []] (fun eY gu=>?_)
     have f2:=cL gu;try simp only [lA,lC,lN,lT']at f2
     refine ll 1 eY ?_
     refine fr ?_
     refine ll bF b1 ?_
     refine ll ee cC ?_
     refine ll cd bA ?_
     refine ll 0 [] ?_
     refine ll 0 [] ?_
     refine dL [Be 5 0 0 0 [] cE cU cG cq ci b1 0 0 0 [] 0 [] eY [],Be 3 0 0 0 eI 5 17 0 [] 0 cC dN di d0 d7 dG bA [] []] (fun eX gQ=>?_)
     have g5:=cL gQ;try simp only [lA,lC,lN,lT']at g5
     refine ll 2 eX ?_
     refine fr ?_
     exact Aj ⟨[(g:Int),c,5,3,1,2],[],[A4,Au,[hrow q u J A y M N v],eX],[]⟩ (⟨_,_,_,_,_,_,_,_,_,_,rfl,(by subst_vars;first|exact B9.a hg ‹_› (by first|exact Ak.of ‹_› ‹_›|exact Ak.nil|exact Ak.plus ‹_› ‹_› ‹_› ‹_›|exact Ak.BW ‹_› ‹_›) om|exact B9.b hg ‹_› rfl ‹_› (by first|exact Ak.of ‹_› ‹_›|exact Ak.nil|exact Ak.plus ‹_› ‹_› ‹_› ‹_›|exact Ak.BW ‹_› ‹_›) om),kn,kn,kn,kn⟩)
    refine de [] ?_
    refine ll 0 [] ?_
    exact Aj ⟨[(g:Int),c,5,3,1,0],[],[A4,Au,[hrow q u J A y M N v],[]],[]⟩ (⟨_,_,_,_,_,_,_,_,_,_,rfl,(by subst_vars;first|exact B9.a hg ‹_› (by first|exact Ak.of ‹_› ‹_›|exact Ak.nil|exact Ak.plus ‹_› ‹_› ‹_› ‹_›|exact Ak.BW ‹_› ‹_›) om|exact B9.b hg ‹_› rfl ‹_› (by first|exact Ak.of ‹_› ‹_›|exact Ak.nil|exact Ak.plus ‹_› ‹_› ‹_› ‹_›|exact Ak.BW ‹_› ‹_›) om),kn,kn,kn,kn⟩)
   ·refine cm G7 ?_
    refine ch G7 ?_
    have ⟨_,_,jh,jW,i7,kG,kY,im,_,_,_⟩:=bO
    refine nv ⟨[U,r,pos,Q,d,(A4.length:Int),(Au.length:Int),c,R,j,aj,ai,J,A,y,N,ak,ac,am,Z,1,2,3,(Au.length:Int),T3,ae,([hrow q u J A y M N v].length:Int),aZ,aC,aU],[M,[110],[116],[99]],[B,A4,Au,q,u,v,ax,Au,[hrow q u J A y M N v],aX],[]⟩ ?_
    obtain ⟨_,⟨bB,a6,rfl,j8,hU,h7⟩,gF⟩:=LB hB hl aZ 3 0 aC 1 1 Au
    refine ch gF ?_
    refine nv ⟨[U,r,pos,Q,d,(A4.length:Int),(Au.length:Int),c,R,j,aj,ai,J,A,y,N,ak,ac,am,Z,1,2,3,(Au.length:Int),T3,ae,([hrow q u J A y M N v].length:Int),aZ,aC,aU,bB,a6],[M,[110],[116],[99]],[B,A4,Au,q,u,v,ax,Au,[hrow q u J A y M N v],aX],[]⟩ ?_
    refine eq (bB%4) 0 (fun f7=>?_) fun f7=>?_
    ·obtain ⟨_,⟨K6,cV,cx,cW,bI,bh,cR,bE,rfl,jR,jH,hP,hK⟩,hA⟩:=Jm (bO.Fy 0 aC) 3 3 a6
     refine ch hA ?_
     refine nv ⟨[U,r,pos,Q,d,(A4.length:Int),(Au.length:Int),c,R,j,aj,ai,J,A,y,N,ak,ac,am,Z,1,2,3,(Au.length:Int),T3,ae,([hrow q u J A y M N v].length:Int),aZ,aC,aU,bB,a6,K6,cV,cx,cW,bI,bh],[M,[110],[116],[99],cR],[B,A4,Au,q,u,v,ax,Au,[hrow q u J A y M N v],aX,bE],[]⟩ ?_
     obtain ⟨_,⟨dx,dz,dV,dF,dp,cb,eL,eC,d6,cY,b4,rfl,eQ,kj,jO,hY,je⟩,fP⟩:=O5 0 0 3 U bh 3 0 aC 1 1 B Au (MS.mv (MS.wide (M':=20000) bO ⟨by omega,by omega⟩))
     refine ch fP ?_
     have ⟨_,_,jI,i3,kc,jt,iI,il,_,_,_⟩:=eQ
     refine nv ⟨[U,r,pos,Q,d,(A4.length:Int),(Au.length:Int),c,R,j,aj,ai,J,A,y,N,ak,ac,am,Z,1,2,3,(Au.length:Int),T3,ae,([hrow q u J A y M N v].length:Int),aZ,aC,aU,bB,a6,K6,cV,cx,cW,bI,bh,dx,dz,dV,dF,dp,cb,0,0,eL],[M,[110],[116],[99],cR,eC,d6],[B,A4,Au,q,u,v,ax,Au,[hrow q u J A y M N v],aX,bE,cY,b4,[],[]],[]⟩ ?_
     refine dL [Be 9 0 0 0 [] 0 0 0 [] 0 [] 0 0 0 [] 0 [] [] []] (fun fa fq=>?_)
     have g8:=cL fq;try simp only [lA,lC,lN,lT']at g8
     refine ll 1 fa ?_
     refine fr ?_
     refine ll bI bE ?_
     refine ll dx cY ?_
     refine ll cb b4 ?_
     refine ll 0 [] ?_
     refine ll 0 [] ?_
     refine dL (aX++[Be 5 0 0 0 [] K6 cV cx cR cW bE 0 0 0 [] 0 [] fa [],Be 3 0 0 0 eC 5 17 0 [] 0 cY dz dV dF d6 dp b4 [] []]) (fun eD hx=>?_) (BG (pw aU aX) pe)
     have fk:=cL hx;try simp only [lA,lC,lN,lT']at fk
     refine FA (eD.length:Int) 1048576 ?_
     refine fr ?_
     exact Aj ⟨[(g:Int),c,5,3,1,(eD.length:Int)],[],[A4,Au,[hrow q u J A y M N v],eD],[]⟩ (⟨_,_,_,_,_,_,_,_,_,_,rfl,(by subst_vars;first|exact B9.a hg ‹_› (by first|exact Ak.of ‹_› ‹_›|exact Ak.nil|exact Ak.plus ‹_› ‹_› ‹_› ‹_›|exact Ak.BW ‹_› ‹_›) om|exact B9.b hg ‹_› rfl ‹_› (by first|exact Ak.of ‹_› ‹_›|exact Ak.nil|exact Ak.plus ‹_› ‹_› ‹_› ‹_›|exact Ak.BW ‹_› ‹_›) om),kn,kn,kn,kn⟩)
    refine ll aU aX ?_
    refine fr ?_
    exact Aj ⟨[(g:Int),c,5,3,1,aU],[],[A4,Au,[hrow q u J A y M N v],aX],[]⟩ (⟨_,_,_,_,_,_,_,_,_,_,rfl,(by subst_vars;first|exact B9.a hg ‹_› (by first|exact Ak.of ‹_› ‹_›|exact Ak.nil|exact Ak.plus ‹_› ‹_› ‹_› ‹_›|exact Ak.BW ‹_› ‹_›) om|exact B9.b hg ‹_› rfl ‹_› (by first|exact Ak.of ‹_› ‹_›|exact Ak.nil|exact Ak.plus ‹_› ‹_› ‹_› ‹_›|exact Ak.BW ‹_› ‹_›) om),kn,kn,kn,kn⟩)
   refine cm G7 ?_
   refine cm G7 ?_
   refine ch G7 ?_
   have ⟨_,_,k0,jZ,kZ,iV,hM,jK,_,_,_⟩:=bx
   refine nv ⟨[U,r,pos,Q,d,(A4.length:Int),(Au.length:Int),c,R,j,aj,ai,J,A,y,N,ak,ac,am,Z,1,2,3,(Au.length:Int),T3,ae,([hrow q u J A y M N v].length:Int),aY,a2,aq,aB,aR],[M,[110],[116],[99]],[B,A4,Au,q,u,v,ax,Au,[hrow q u J A y M N v],bb,aV],[]⟩ ?_
   obtain ⟨_,⟨bX,ba,rfl,jd,kl,iL⟩,gk⟩:=LB hB hl aY a2 aq aB 1 1 bb
   refine ch gk ?_
   refine nv ⟨[U,r,pos,Q,d,(A4.length:Int),(Au.length:Int),c,R,j,aj,ai,J,A,y,N,ak,ac,am,Z,1,2,3,(Au.length:Int),T3,ae,([hrow q u J A y M N v].length:Int),aY,a2,aq,aB,aR,bX,ba],[M,[110],[116],[99]],[B,A4,Au,q,u,v,ax,Au,[hrow q u J A y M N v],bb,aV],[]⟩ ?_
   refine eq (bX%4) 0 (fun g4=>?_) fun g4=>?_
   ·obtain ⟨_,⟨cu,cD,cT,db,bP,bm,c2,bV,rfl,h3,iR,jq,ic⟩,gL⟩:=Jm (bx.Fy aq aB) 3 3 ba
    refine ch gL ?_
    refine nv ⟨[U,r,pos,Q,d,(A4.length:Int),(Au.length:Int),c,R,j,aj,ai,J,A,y,N,ak,ac,am,Z,1,2,3,(Au.length:Int),T3,ae,([hrow q u J A y M N v].length:Int),aY,a2,aq,aB,aR,bX,ba,cu,cD,cT,db,bP,bm],[M,[110],[116],[99],c2],[B,A4,Au,q,u,v,ax,Au,[hrow q u J A y M N v],bb,aV,bV],[]⟩ ?_
    obtain ⟨_,⟨dw,dg,dA,dJ,d3,ce,eJ,eH,dh,cM,bK,rfl,eU,jm,i6,hJ,hG⟩,f4⟩:=O5 0 0 3 U bm a2 aq aB 1 1 B bb (MS.mv (MS.wide (M':=20000) bx ⟨by omega,by omega⟩))
    refine ch f4 ?_
    have ⟨_,_,kq,jf,j2,io,h5,ik,_,_,_⟩:=eU
    refine nv ⟨[U,r,pos,Q,d,(A4.length:Int),(Au.length:Int),c,R,j,aj,ai,J,A,y,N,ak,ac,am,Z,1,2,3,(Au.length:Int),T3,ae,([hrow q u J A y M N v].length:Int),aY,a2,aq,aB,aR,bX,ba,cu,cD,cT,db,bP,bm,dw,dg,dA,dJ,d3,ce,0,0,eJ],[M,[110],[116],[99],c2,eH,dh],[B,A4,Au,q,u,v,ax,Au,[hrow q u J A y M N v],bb,aV,bV,cM,bK,[],[]],[]⟩ ?_
    refine dL [Be 9 0 0 0 [] 0 0 0 [] 0 [] 0 0 0 [] 0 [] [] []] (fun e6 gg=>?_)
    have hC:=cL gg;try simp only [lA,lC,lN,lT']at hC
    refine ll 1 e6 ?_
    refine fr ?_
    refine ll bP bV ?_
    refine ll dw cM ?_
    refine ll ce bK ?_
    refine ll 0 [] ?_
    refine ll 0 [] ?_
    refine dL (aV++[Be 5 0 0 0 [] cu cD cT c2 db bV 0 0 0 [] 0 [] e6 [],Be 3 0 0 0 eH 5 17 0 [] 0 cM dg dA dJ dh d3 bK [] []]) (fun eB fN=>?_) (BG (pw aR aV) pe)
    have gV:=cL fN;try simp only [lA,lC,lN,lT']at gV
    refine FA (eB.length:Int) 1048576 ?_
    refine fr ?_
    exact Aj ⟨[(g:Int),c,5,3,1,(eB.length:Int)],[],[A4,Au,[hrow q u J A y M N v],eB],[]⟩ (⟨_,_,_,_,_,_,_,_,_,_,rfl,(by subst_vars;first|exact B9.a hg ‹_› (by first|exact Ak.of ‹_› ‹_›|exact Ak.nil|exact Ak.plus ‹_› ‹_› ‹_› ‹_›|exact Ak.BW ‹_› ‹_›) om|exact B9.b hg ‹_› rfl ‹_› (by first|exact Ak.of ‹_› ‹_›|exact Ak.nil|exact Ak.plus ‹_› ‹_› ‹_› ‹_›|exact Ak.BW ‹_› ‹_›) om),kn,kn,kn,kn⟩)
   refine ll aR aV ?_
   refine fr ?_
   exact Aj ⟨[(g:Int),c,5,3,1,aR],[],[A4,Au,[hrow q u J A y M N v],aV],[]⟩ (⟨_,_,_,_,_,_,_,_,_,_,rfl,(by subst_vars;first|exact B9.a hg ‹_› (by first|exact Ak.of ‹_› ‹_›|exact Ak.nil|exact Ak.plus ‹_› ‹_› ‹_› ‹_›|exact Ak.BW ‹_› ‹_›) om|exact B9.b hg ‹_› rfl ‹_› (by first|exact Ak.of ‹_› ‹_›|exact Ak.nil|exact Ak.plus ‹_› ‹_› ‹_› ‹_›|exact Ak.BW ‹_› ‹_›) om),kn,kn,kn,kn⟩)
  refine cm G5 ?_
  refine ch G5 ?_
  refine nv ⟨[U,r,pos,Q,d,(A4.length:Int),(Au.length:Int),c,R,j,ah,af,C,H,D,P,ag,ad,al,O,X],[z],[B,A4,Au,k,x,o,ay],[]⟩ ?_
  refine el (j':=0) rfl ?_
  refine el (j':=1) rfl ?_
  refine el (j':=2) rfl ?_
  refine de Au ?_
  refine ll 3 Au ?_
  obtain ⟨_,⟨az,ab,rfl,hR,iy,kx⟩,gG⟩:=LB hB hl ad 3 O 12 1 1 Au
  refine ch gG ?_
  refine nv ⟨[U,r,pos,Q,d,(A4.length:Int),(Au.length:Int),c,R,j,ah,af,C,H,D,P,ag,ad,al,O,X,1,2,3,(Au.length:Int),az,ab],[z,[110],[116],[99]],[B,A4,Au,k,x,o,ay,Au],[]⟩ ?_
  refine ll ah k ?_
  refine ll af x ?_
  refine ll ag o ?_
  refine de [hrow k x C H D z P o] ?_
  refine ll 1 [hrow k x C H D z P o] ?_
  refine fr ?_
  have aW:=MS.To (call:=1) (pos:=ab) (count:=O) hB hl om om om
  obtain ⟨_,(⟨rfl,fY⟩|⟨aQ,aw,aD,aI,rfl,bf,gM,hh,gC,gU,gY,ho⟩|⟨kd,aN,aO,an,ap,aF,a1,aK,rfl,be,fG,fu,fg,gS,fw,gi,gn,fT,he⟩),br⟩:=AiP (1+(az%8)) 0 0 U ab 3 O 12 (g:Int) c 5 3 1 B A4 Au [hrow k x C H D z P o] Au (MS.mv aW)
  ·refine ch br ?_
   refine nv ⟨[U,r,pos,Q,d,(A4.length:Int),(Au.length:Int),c,R,j,ah,af,C,H,D,P,ag,ad,al,O,X,1,2,3,(Au.length:Int),az,ab,([hrow k x C H D z P o].length:Int)],[z,[110],[116],[99]],[B,A4,Au,k,x,o,ay,Au,[hrow k x C H D z P o]],[]⟩ ?_
   obtain ⟨_,⟨bU,a8,rfl,iJ,i1,j1⟩,gd⟩:=LB hB hl ab 3 O 12 1 1 Au
   refine ch gd ?_
   refine nv ⟨[U,r,pos,Q,d,(A4.length:Int),(Au.length:Int),c,R,j,ah,af,C,H,D,P,ag,ad,al,O,X,1,2,3,(Au.length:Int),az,ab,([hrow k x C H D z P o].length:Int),bU,a8],[z,[110],[116],[99]],[B,A4,Au,k,x,o,ay,Au,[hrow k x C H D z P o]],[]⟩ ?_
   refine eq (bU%4) 0 (fun hu=>?_) fun hu=>?_
   ·obtain ⟨_,⟨cI,cw,cr,c8,bR,bd,cN,bQ,rfl,hO,hW,k1,jo⟩,gX⟩:=Jm (aW.Fy O 12) 3 3 a8
    refine ch gX ?_
    refine nv ⟨[U,r,pos,Q,d,(A4.length:Int),(Au.length:Int),c,R,j,ah,af,C,H,D,P,ag,ad,al,O,X,1,2,3,(Au.length:Int),az,ab,([hrow k x C H D z P o].length:Int),bU,a8,cI,cw,cr,c8,bR,bd],[z,[110],[116],[99],cN],[B,A4,Au,k,x,o,ay,Au,[hrow k x C H D z P o],bQ],[]⟩ ?_
    obtain ⟨_,⟨dt,dC,du,dT,dE,b9,eA,eE,eb,c9,bD,rfl,eO,hZ,kL,k2,kN⟩,hw⟩:=O5 0 0 3 U bd 3 O 12 1 1 B Au (MS.mv (MS.wide (M':=20000) aW ⟨by omega,by omega⟩))
    refine ch hw ?_
    have ⟨_,_,ku,jj,jM,i0,iE,jY,_,_,_⟩:=eO
    refine nv ⟨[U,r,pos,Q,d,(A4.length:Int),(Au.length:Int),c,R,j,ah,af,C,H,D,P,ag,ad,al,O,X,1,2,3,(Au.length:Int),az,ab,([hrow k x C H D z P o].length:Int),bU,a8,cI,cw,cr,c8,bR,bd,dt,dC,du,dT,dE,b9,0,0,eA],[z,[110],[116],[99],cN,eE,eb],[B,A4,Au,k,x,o,ay,Au,[hrow k x C H D z P o],bQ,c9,bD,[],[]],[]⟩ ?_
    refine dL [Be 9 0 0 0 [] 0 0 0 [] 0 [] 0 0 0 [] 0 [] [] []] (fun e7 fF=>?_)
    have fZ:=cL fF;try simp only [lA,lC,lN,lT']at fZ
    refine ll 1 e7 ?_
    refine fr ?_
    refine ll bR bQ ?_
    refine ll dt c9 ?_
    refine ll b9 bD ?_
    refine ll 0 [] ?_
    refine ll 0 [] ?_
    refine dL [Be 5 0 0 0 [] cI cw cr cN c8 bQ 0 0 0 [] 0 [] e7 [],Be 3 0 0 0 eE 5 17 0 [] 0 c9 dC du dT eb dE bD [] []] (fun eW gI=>?_)
    have ft:=cL gI;try simp only [lA,lC,lN,lT']at ft
    refine ll 2 eW ?_
    refine fr ?_
    exact Aj ⟨[(g:Int),c,5,3,1,2],[],[A4,Au,[hrow k x C H D z P o],eW],[]⟩ (⟨_,_,_,_,_,_,_,_,_,_,rfl,(by subst_vars;first|exact B9.a hg ‹_› (by first|exact Ak.of ‹_› ‹_›|exact Ak.nil|exact Ak.plus ‹_› ‹_› ‹_› ‹_›|exact Ak.BW ‹_› ‹_›) om|exact B9.b hg ‹_› rfl ‹_› (by first|exact Ak.of ‹_› ‹_›|exact Ak.nil|exact Ak.plus ‹_› ‹_› ‹_› ‹_›|exact Ak.BW ‹_› ‹_›) om),kn,kn,kn,kn⟩)
   refine de [] ?_
   refine ll 0 [] ?_
   exact Aj ⟨[(g:Int),c,5,3,1,0],[],[A4,Au,[hrow k x C H D z P o],[]],[]⟩ (⟨_,_,_,_,_,_,_,_,_,_,rfl,(by subst_vars;first|exact B9.a hg ‹_› (by first|exact Ak.of ‹_› ‹_›|exact Ak.nil|exact Ak.plus ‹_› ‹_› ‹_› ‹_›|exact Ak.BW ‹_› ‹_›) om|exact B9.b hg ‹_› rfl ‹_› (by first|exact Ak.of ‹_› ‹_›|exact Ak.nil|exact Ak.plus ‹_› ‹_› ‹_› ‹_›|exact Ak.BW ‹_› ‹_›) om),kn,kn,kn,kn⟩)
  ·refine cm br ?_
   refine ch br ?_
   have ⟨_,_,gj,hy,gB,fC,gy,fj,_,_,_⟩:=bf
   refine nv ⟨[U,r,pos,Q,d,(A4.length:Int),(Au.length:Int),c,R,j,ah,af,C,H,D,P,ag,ad,al,O,X,1,2,3,(Au.length:Int),az,ab,([hrow k x C H D z P o].length:Int),aQ,aw,aD],[z,[110],[116],[99]],[B,A4,Au,k,x,o,ay,Au,[hrow k x C H D z P o],aI],[]⟩ ?_
   obtain ⟨_,⟨b3,a3,rfl,k3,iN,jr⟩,fz⟩:=LB hB hl aQ 3 O aw 1 1 Au
   refine ch fz ?_
   refine nv ⟨[U,r,pos,Q,d,(A4.length:Int),(Au.length:Int),c,R,j,ah,af,C,H,D,P,ag,ad,al,O,X,1,2,3,(Au.length:Int),az,ab,([hrow k x C H D z P o].length:Int),aQ,aw,aD,b3,a3],[z,[110],[116],[99]],[B,A4,Au,k,x,o,ay,Au,[hrow k x C H D z P o],aI],[]⟩ ?_
   refine eq (b3%4) 0 (fun g7=>?_) fun g7=>?_
   ·obtain ⟨_,⟨ct,dc,cP,cK,bv,bi,cH,bS,rfl,kP,kt,kr,kW⟩,gN⟩:=Jm (bf.Fy O aw) 3 3 a3
    refine ch gN ?_
    refine nv ⟨[U,r,pos,Q,d,(A4.length:Int),(Au.length:Int),c,R,j,ah,af,C,H,D,P,ag,ad,al,O,X,1,2,3,(Au.length:Int),az,ab,([hrow k x C H D z P o].length:Int),aQ,aw,aD,b3,a3,ct,dc,cP,cK,bv,bi],[z,[110],[116],[99],cH],[B,A4,Au,k,x,o,ay,Au,[hrow k x C H D z P o],aI,bS],[]⟩ ?_
    obtain ⟨_,⟨dI,dB,d4,dH,d1,b5,eo,et,dU,c7,bL,rfl,eT,jX,h9,ie,jS⟩,hz⟩:=O5 0 0 3 U bi 3 O aw 1 1 B Au (MS.mv (MS.wide (M':=20000) bf ⟨by omega,by omega⟩))
    refine ch hz ?_
    have ⟨_,_,iX,ia,ji,jV,kg,iH,_,_,_⟩:=eT
    refine nv ⟨[U,r,pos,Q,d,(A4.length:Int),(Au.length:Int),c,R,j,ah,af,C,H,D,P,ag,ad,al,O,X,1,2,3,(Au.length:Int),az,ab,([hrow k x C H D z P o].length:Int),aQ,aw,aD,b3,a3,ct,dc,cP,cK,bv,bi,dI,dB,d4,dH,d1,b5,0,0,eo],[z,[110],[116],[99],cH,et,dU],[B,A4,Au,k,x,o,ay,Au,[hrow k x C H D z P o],aI,bS,c7,bL,[],[]],[]⟩ ?_
    refine dL [Be 9 0 0 0 [] 0 0 0 [] 0 [] 0 0 0 [] 0 [] [] []] (fun e1 gJ=>?_)
    have gA:=cL gJ;try simp only [lA,lC,lN,lT']at gA
    refine ll 1 e1 ?_
    refine fr ?_
    refine ll bv bS ?_
    refine ll dI c7 ?_
    refine ll b5 bL ?_
    refine ll 0 [] ?_
    refine ll 0 [] ?_
    refine dL (aI++[Be 5 0 0 0 [] ct dc cP cH cK bS 0 0 0 [] 0 [] e1 [],Be 3 0 0 0 et 5 17 0 [] 0 c7 dB d4 dH dU d1 bL [] []]) (fun er fK=>?_) (BG (pw aD aI) pe)
    have fB:=cL fK;try simp only [lA,lC,lN,lT']at fB
    refine FA (er.length:Int) 1048576 ?_
    refine fr ?_
    exact Aj ⟨[(g:Int),c,5,3,1,(er.length:Int)],[],[A4,Au,[hrow k x C H D z P o],er],[]⟩ (⟨_,_,_,_,_,_,_,_,_,_,rfl,(by subst_vars;first|exact B9.a hg ‹_› (by first|exact Ak.of ‹_› ‹_›|exact Ak.nil|exact Ak.plus ‹_› ‹_› ‹_› ‹_›|exact Ak.BW ‹_› ‹_›) om|exact B9.b hg ‹_› rfl ‹_› (by first|exact Ak.of ‹_› ‹_›|exact Ak.nil|exact Ak.plus ‹_› ‹_› ‹_› ‹_›|exact Ak.BW ‹_› ‹_›) om),kn,kn,kn,kn⟩)
   refine ll aD aI ?_
   refine fr ?_
   exact Aj ⟨[(g:Int),c,5,3,1,aD],[],[A4,Au,[hrow k x C H D z P o],aI],[]⟩ (⟨_,_,_,_,_,_,_,_,_,_,rfl,(by subst_vars;first|exact B9.a hg ‹_› (by first|exact Ak.of ‹_› ‹_›|exact Ak.nil|exact Ak.plus ‹_› ‹_› ‹_› ‹_›|exact Ak.BW ‹_› ‹_›) om|exact B9.b hg ‹_› rfl ‹_› (by first|exact Ak.of ‹_› ‹_›|exact Ak.nil|exact Ak.plus ‹_› ‹_› ‹_› ‹_›|exact Ak.BW ‹_› ‹_›) om),kn,kn,kn,kn⟩)
  refine cm br ?_
  refine cm br ?_
  refine ch br ?_
  have ⟨_,_,gs,fL,f1,fv,gl,fQ,_,_,_⟩:=be
  refine nv ⟨[U,r,pos,Q,d,(A4.length:Int),(Au.length:Int),c,R,j,ah,af,C,H,D,P,ag,ad,al,O,X,1,2,3,(Au.length:Int),az,ab,([hrow k x C H D z P o].length:Int),aN,aO,an,ap,aF],[z,[110],[116],[99]],[B,A4,Au,k,x,o,ay,Au,[hrow k x C H D z P o],a1,aK],[]⟩ ?_
  obtain ⟨_,⟨XL,a5,rfl,kh,iY,ib⟩,gT⟩:=LB hB hl aN aO an ap 1 1 a1
  refine ch gT ?_
  refine nv ⟨[U,r,pos,Q,d,(A4.length:Int),(Au.length:Int),c,R,j,ah,af,C,H,D,P,ag,ad,al,O,X,1,2,3,(Au.length:Int),az,ab,([hrow k x C H D z P o].length:Int),aN,aO,an,ap,aF,XL,a5],[z,[110],[116],[99]],[B,A4,Au,k,x,o,ay,Au,[hrow k x C H D z P o],a1,aK],[]⟩ ?_
  refine eq (XL%4) 0 (fun f9=>?_) fun f9=>?_
  ·obtain ⟨_,⟨cz,c4,cQ,cp,bG,bq,cS,bJ,rfl,j3,jG,j5,hH⟩,gf⟩:=Jm (be.Fy an ap) 3 3 a5
   refine ch gf ?_
   refine nv ⟨[U,r,pos,Q,d,(A4.length:Int),(Au.length:Int),c,R,j,ah,af,C,H,D,P,ag,ad,al,O,X,1,2,3,(Au.length:Int),az,ab,([hrow k x C H D z P o].length:Int),aN,aO,an,ap,aF,XL,a5,cz,c4,cQ,cp,bG,bq],[z,[110],[116],[99],cS],[B,A4,Au,k,x,o,ay,Au,[hrow k x C H D z P o],a1,aK,bJ],[]⟩ ?_
   obtain ⟨_,⟨dR,eg,ea,ef,d2,b6,ek,ez,d9,cf,bT,rfl,eR,kU,jL,h8,jz⟩,gW⟩:=O5 0 0 3 U bq aO an ap 1 1 B a1 (MS.mv (MS.wide (M':=20000) be ⟨by omega,by omega⟩))
   refine ch gW ?_
   have ⟨_,_,jp,kD,ix,kM,hF,hS,_,_,_⟩:=eR
   refine nv ⟨[U,r,pos,Q,d,(A4.length:Int),(Au.length:Int),c,R,j,ah,af,C,H,D,P,ag,ad,al,O,X,1,2,3,(Au.length:Int),az,ab,([hrow k x C H D z P o].length:Int),aN,aO,an,ap,aF,XL,a5,cz,c4,cQ,cp,bG,bq,dR,eg,ea,ef,d2,b6,0,0,ek],[z,[110],[116],[99],cS,ez,d9],[B,A4,Au,k,x,o,ay,Au,[hrow k x C H D z P o],a1,aK,bJ,cf,bT,[],[]],[]⟩ ?_
   refine dL [Be 9 0 0 0 [] 0 0 0 [] 0 [] 0 0 0 [] 0 [] [] []] (fun e9 hq=>?_)
   have fS:=cL hq;try simp only [lA,lC,lN,lT']at fS
   refine ll 1 e9 ?_
   refine fr ?_
   refine ll bG bJ ?_
   refine ll dR cf ?_
   refine ll b6 bT ?_
   refine ll 0 [] ?_
   refine ll 0 [] ?_
   refine dL (aK++[Be 5 0 0 0 [] cz c4 cQ cS cp bJ 0 0 0 [] 0 [] e9 [],Be 3 0 0 0 ez 5 17 0 [] 0 cf eg ea ef d9 d2 bT [] []]) (fun em g9=>?_) (BG (pw aF aK) pe)
   have fV:=cL g9;try simp only [lA,lC,lN,lT']at fV
   refine FA (em.length:Int) 1048576 ?_
   refine fr ?_
   exact Aj ⟨[(g:Int),c,5,3,1,(em.length:Int)],[],[A4,Au,[hrow k x C H D z P o],em],[]⟩ (⟨_,_,_,_,_,_,_,_,_,_,rfl,(by subst_vars;first|exact B9.a hg ‹_› (by first|exact Ak.of ‹_› ‹_›|exact Ak.nil|exact Ak.plus ‹_› ‹_› ‹_› ‹_›|exact Ak.BW ‹_› ‹_›) om|exact B9.b hg ‹_› rfl ‹_› (by first|exact Ak.of ‹_› ‹_›|exact Ak.nil|exact Ak.plus ‹_› ‹_› ‹_› ‹_›|exact Ak.BW ‹_› ‹_›) om),kn,kn,kn,kn⟩)
  refine ll aF aK ?_
  refine fr ?_
  exact Aj ⟨[(g:Int),c,5,3,1,aF],[],[A4,Au,[hrow k x C H D z P o],aK],[]⟩ (⟨_,_,_,_,_,_,_,_,_,_,rfl,(by subst_vars;first|exact B9.a hg ‹_› (by first|exact Ak.of ‹_› ‹_›|exact Ak.nil|exact Ak.plus ‹_› ‹_› ‹_› ‹_›|exact Ak.BW ‹_› ‹_›) om|exact B9.b hg ‹_› rfl ‹_› (by first|exact Ak.of ‹_› ‹_›|exact Ak.nil|exact Ak.plus ‹_› ‹_› ‹_› ‹_›|exact Ak.BW ‹_› ‹_›) om),kn,kn,kn,kn⟩)
 refine el (j':=0) rfl ?_
 refine el (j':=1) rfl ?_
 refine el (j':=2) rfl ?_
 refine de Au ?_
 refine ll 3 Au ?_
 obtain ⟨_,⟨aA,aa,rfl,hT,jN,iF⟩,fR⟩:=LB hB hl j 3 0 12 0 1 Au
 refine ch fR ?_
 refine nv ⟨[U,r,pos,Q,d,(A4.length:Int),(Au.length:Int),c,R,j,1,2,3,(Au.length:Int),aA,aa],[[110],[116],[99]],[B,A4,Au,Au],[]⟩ ?_
 have aW:=MS.To (call:=0) (pos:=aa) (count:=0) hB hl om om om
 obtain ⟨_,(⟨rfl,fm⟩|⟨aP,au,aE,aJ,rfl,bp,gb,gr,gR,gP,hr,fI⟩|⟨iQ,aL,aM,ao,av,aG,a0,aH,rfl,bj,gv,ga,fp,fO,fW,gZ,fi,hk,fh⟩),bt⟩:=Amh (1+(aA%8)) 0 0 U aa 3 0 12 (g:Int) c 5 3 B A4 Au Au (MS.mv aW)
 ·refine ch bt ?_
  refine nv ⟨[U,r,pos,Q,d,(A4.length:Int),(Au.length:Int),c,R,j,1,2,3,(Au.length:Int),aA,aa],[[110],[116],[99]],[B,A4,Au,Au],[]⟩ ?_
  obtain ⟨_,⟨bw,a9,rfl,jT,jg,h0⟩,gx⟩:=LB hB hl aa 3 0 12 0 1 Au
  refine ch gx ?_
  refine nv ⟨[U,r,pos,Q,d,(A4.length:Int),(Au.length:Int),c,R,j,1,2,3,(Au.length:Int),aA,aa,bw,a9],[[110],[116],[99]],[B,A4,Au,Au],[]⟩ ?_
  refine eq (bw%4) 0 (fun hi=>?_) fun hi=>?_
  ·obtain ⟨_,⟨cX,cy,cj,dd,bH,bk,co,bZ,rfl,jb,ii,ig,j7⟩,g0⟩:=Jm (aW.Fy 0 12) 3 3 a9
   refine ch g0 ?_
   refine nv ⟨[U,r,pos,Q,d,(A4.length:Int),(Au.length:Int),c,R,j,1,2,3,(Au.length:Int),aA,aa,bw,a9,cX,cy,cj,dd,bH,bk],[[110],[116],[99],co],[B,A4,Au,Au,bZ],[]⟩ ?_
   obtain ⟨_,⟨dM,dv,dS,ec,dK,b7,eM,es,dY,c5,bM,rfl,eV,kQ,iW,iO,kA⟩,ff⟩:=O5 0 0 3 U bk 3 0 12 0 1 B Au (MS.mv (MS.wide (M':=20000) aW ⟨by omega,by omega⟩))
   refine ch ff ?_
   have ⟨_,_,ke,jE,jB,i4,j0,hI,_,_,_⟩:=eV
   refine nv ⟨[U,r,pos,Q,d,(A4.length:Int),(Au.length:Int),c,R,j,1,2,3,(Au.length:Int),aA,aa,bw,a9,cX,cy,cj,dd,bH,bk,dM,dv,dS,ec,dK,b7,0,0,eM],[[110],[116],[99],co,es,dY],[B,A4,Au,Au,bZ,c5,bM,[],[]],[]⟩ ?_
   refine dL [Be 9 0 0 0 [] 0 0 0 [] 0 [] 0 0 0 [] 0 [] [] []] (fun e0 f3=>?_)
   have f6:=cL f3;try simp only [lA,lC,lN,lT']at f6
   refine ll 1 e0 ?_
   refine fr ?_
   refine de [] ?_
   refine ll 0 [] ?_
   refine ll bH bZ ?_
   refine ll dM c5 ?_
   refine ll b7 bM ?_
   refine ll 0 [] ?_
   refine ll 0 [] ?_
   refine dL [Be 5 0 0 0 [] cX cy cj co dd bZ 0 0 0 [] 0 [] e0 [],Be 3 0 0 0 es 5 17 0 [] 0 c5 dv dS ec dY dK bM [] []] (fun e8 fM=>?_)
   have gw:=cL fM;try simp only [lA,lC,lN,lT']at gw
   refine ll 2 e8 ?_
   refine fr ?_
   exact Aj ⟨[(g:Int),c,5,3,0,2],[],[A4,Au,[],e8],[]⟩ (⟨_,_,_,_,_,_,_,_,_,_,rfl,(by subst_vars;first|exact B9.a hg ‹_› (by first|exact Ak.of ‹_› ‹_›|exact Ak.nil|exact Ak.plus ‹_› ‹_› ‹_› ‹_›|exact Ak.BW ‹_› ‹_›) om|exact B9.b hg ‹_› rfl ‹_› (by first|exact Ak.of ‹_› ‹_›|exact Ak.nil|exact Ak.plus ‹_› ‹_› ‹_› ‹_›|exact Ak.BW ‹_› ‹_›) om),kn,kn,kn,kn⟩)
  refine de [] ?_
  refine ll 0 [] ?_
  exact Aj ⟨[(g:Int),c,5,3,0,0],[],[A4,Au,[],[]],[]⟩ (⟨_,_,_,_,_,_,_,_,_,_,rfl,(by subst_vars;first|exact B9.a hg ‹_› (by first|exact Ak.of ‹_› ‹_›|exact Ak.nil|exact Ak.plus ‹_› ‹_› ‹_› ‹_›|exact Ak.BW ‹_› ‹_›) om|exact B9.b hg ‹_› rfl ‹_› (by first|exact Ak.of ‹_› ‹_›|exact Ak.nil|exact Ak.plus ‹_› ‹_› ‹_› ‹_›|exact Ak.BW ‹_› ‹_›) om),kn,kn,kn,kn⟩)
 ·refine cm bt ?_
  refine ch bt ?_
  have ⟨_,_,ht,f8,fy,gp,gO,fD,_,_,_⟩:=bp
  refine nv ⟨[U,r,pos,Q,d,(A4.length:Int),(Au.length:Int),c,R,j,1,2,3,(Au.length:Int),aA,aa,aP,au,aE],[[110],[116],[99]],[B,A4,Au,Au,aJ],[]⟩ ?_
  obtain ⟨_,⟨XK,a4,rfl,jU,kp,i2⟩,hn⟩:=LB hB hl aP 3 0 au 0 1 Au
  refine ch hn ?_
  refine nv ⟨[U,r,pos,Q,d,(A4.length:Int),(Au.length:Int),c,R,j,1,2,3,(Au.length:Int),aA,aa,aP,au,aE,XK,a4],[[110],[116],[99]],[B,A4,Au,Au,aJ],[]⟩ ?_
  refine eq (XK%4) 0 (fun fX=>?_) fun fX=>?_
  ·obtain ⟨_,⟨cZ,cn,cA,c3,bY,bo,cJ,bC,rfl,i5,iK,iv,iD⟩,hj⟩:=Jm (bp.Fy 0 au) 3 3 a4
   refine ch hj ?_
   refine nv ⟨[U,r,pos,Q,d,(A4.length:Int),(Au.length:Int),c,R,j,1,2,3,(Au.length:Int),aA,aa,aP,au,aE,XK,a4,cZ,cn,cA,c3,bY,bo],[[110],[116],[99],cJ],[B,A4,Au,Au,aJ,bC],[]⟩ ?_
   obtain ⟨_,⟨dl,dP,dZ,dX,dy,cc,eG,en,dj,cF,bz,rfl,eP,jJ,jD,hQ,kK⟩,gE⟩:=O5 0 0 3 U bo 3 0 au 0 1 B Au (MS.mv (MS.wide (M':=20000) bp ⟨by omega,by omega⟩))
   refine ch gE ?_
   have ⟨_,_,ki,hN,h1,km,kR,iZ,_,_,_⟩:=eP
   refine nv ⟨[U,r,pos,Q,d,(A4.length:Int),(Au.length:Int),c,R,j,1,2,3,(Au.length:Int),aA,aa,aP,au,aE,XK,a4,cZ,cn,cA,c3,bY,bo,dl,dP,dZ,dX,dy,cc,0,0,eG],[[110],[116],[99],cJ,en,dj],[B,A4,Au,Au,aJ,bC,cF,bz,[],[]],[]⟩ ?_
   refine dL [Be 9 0 0 0 [] 0 0 0 [] 0 [] 0 0 0 [] 0 [] [] []] (fun e3 fA=>?_)
   have hm:=cL fA;try simp only [lA,lC,lN,lT']at hm
   refine ll 1 e3 ?_
   refine fr ?_
   refine ll bY bC ?_
   refine ll dl cF ?_
   refine ll cc bz ?_
   refine ll 0 [] ?_
   refine ll 0 [] ?_
   refine dL (aJ++[Be 5 0 0 0 [] cZ cn cA cJ c3 bC 0 0 0 [] 0 [] e3 [],Be 3 0 0 0 en 5 17 0 [] 0 cF dP dZ dX dj dy bz [] []]) (fun eK fH=>?_) (BG (pw aE aJ) pe)
   have hE:=cL fH;try simp only [lA,lC,lN,lT']at hE
   refine FA (eK.length:Int) 1048576 ?_
   refine de [] ?_
   refine ll 0 [] ?_
   refine fr ?_
   exact Aj ⟨[(g:Int),c,5,3,0,(eK.length:Int)],[],[A4,Au,[],eK],[]⟩ (⟨_,_,_,_,_,_,_,_,_,_,rfl,(by subst_vars;first|exact B9.a hg ‹_› (by first|exact Ak.of ‹_› ‹_›|exact Ak.nil|exact Ak.plus ‹_› ‹_› ‹_› ‹_›|exact Ak.BW ‹_› ‹_›) om|exact B9.b hg ‹_› rfl ‹_› (by first|exact Ak.of ‹_› ‹_›|exact Ak.nil|exact Ak.plus ‹_› ‹_› ‹_› ‹_›|exact Ak.BW ‹_› ‹_›) om),kn,kn,kn,kn⟩)
  refine de [] ?_
  refine ll 0 [] ?_
  refine ll aE aJ ?_
  refine fr ?_
  exact Aj ⟨[(g:Int),c,5,3,0,aE],[],[A4,Au,[],aJ],[]⟩ (⟨_,_,_,_,_,_,_,_,_,_,rfl,(by subst_vars;first|exact B9.a hg ‹_› (by first|exact Ak.of ‹_› ‹_›|exact Ak.nil|exact Ak.plus ‹_› ‹_› ‹_› ‹_›|exact Ak.BW ‹_› ‹_›) om|exact B9.b hg ‹_› rfl ‹_› (by first|exact Ak.of ‹_› ‹_›|exact Ak.nil|exact Ak.plus ‹_› ‹_› ‹_› ‹_›|exact Ak.BW ‹_› ‹_›) om),kn,kn,kn,kn⟩)
 refine cm bt ?_
 refine cm bt ?_
 refine ch bt ?_
 have ⟨_,_,gm,fo,gH,fU,gh,gq,_,_,_⟩:=bj
 refine nv ⟨[U,r,pos,Q,d,(A4.length:Int),(Au.length:Int),c,R,j,1,2,3,(Au.length:Int),aA,aa,aL,aM,ao,av,aG],[[110],[116],[99]],[B,A4,Au,Au,a0,aH],[]⟩ ?_
 obtain ⟨_,⟨bW,a7,rfl,j4,jc,ij⟩,f5⟩:=LB hB hl aL aM ao av 0 1 a0
 refine ch f5 ?_
 refine nv ⟨[U,r,pos,Q,d,(A4.length:Int),(Au.length:Int),c,R,j,1,2,3,(Au.length:Int),aA,aa,aL,aM,ao,av,aG,bW,a7],[[110],[116],[99]],[B,A4,Au,Au,a0,aH],[]⟩ ?_
 refine eq (bW%4) 0 (fun gD=>?_) fun gD=>?_
 ·obtain ⟨_,⟨cO,cg,c6,c1,b2,bg,cv,bN,rfl,kf,iS,ir,iz⟩,fJ⟩:=Jm (bj.Fy ao av) 3 3 a7
  refine ch fJ ?_
  refine nv ⟨[U,r,pos,Q,d,(A4.length:Int),(Au.length:Int),c,R,j,1,2,3,(Au.length:Int),aA,aa,aL,aM,ao,av,aG,bW,a7,cO,cg,c6,c1,b2,bg],[[110],[116],[99],cv],[B,A4,Au,Au,a0,aH,bN],[]⟩ ?_
  obtain ⟨_,⟨dW,dO,dD,dQ,d5,b8,ej,ew,dk,cB,b0,rfl,eN,iC,ih,iA,kv⟩,gK⟩:=O5 0 0 3 U bg aM ao av 0 1 B a0 (MS.mv (MS.wide (M':=20000) bj ⟨by omega,by omega⟩))
  refine ch gK ?_
  have ⟨_,_,kb,iq,iG,jy,ky,kC,_,_,_⟩:=eN
  refine nv ⟨[U,r,pos,Q,d,(A4.length:Int),(Au.length:Int),c,R,j,1,2,3,(Au.length:Int),aA,aa,aL,aM,ao,av,aG,bW,a7,cO,cg,c6,c1,b2,bg,dW,dO,dD,dQ,d5,b8,0,0,ej],[[110],[116],[99],cv,ew,dk],[B,A4,Au,Au,a0,aH,bN,cB,b0,[],[]],[]⟩ ?_
  refine dL [Be 9 0 0 0 [] 0 0 0 [] 0 [] 0 0 0 [] 0 [] [] []] (fun e5 hv=>?_)
  have fe:=cL hv;try simp only [lA,lC,lN,lT']at fe
  refine ll 1 e5 ?_
  refine fr ?_
  refine ll b2 bN ?_
  refine ll dW cB ?_
  refine ll b8 b0 ?_
  refine ll 0 [] ?_
  refine ll 0 [] ?_
  refine dL (aH++[Be 5 0 0 0 [] cO cg c6 cv c1 bN 0 0 0 [] 0 [] e5 [],Be 3 0 0 0 ew 5 17 0 [] 0 cB dO dD dQ dk d5 b0 [] []]) (fun ey hD=>?_) (BG (pw aG aH) pe)
  have gc:=cL hD;try simp only [lA,lC,lN,lT']at gc
  refine FA (ey.length:Int) 1048576 ?_
  refine de [] ?_
  refine ll 0 [] ?_
  refine fr ?_
  exact Aj ⟨[(g:Int),c,5,3,0,(ey.length:Int)],[],[A4,Au,[],ey],[]⟩ (⟨_,_,_,_,_,_,_,_,_,_,rfl,(by subst_vars;first|exact B9.a hg ‹_› (by first|exact Ak.of ‹_› ‹_›|exact Ak.nil|exact Ak.plus ‹_› ‹_› ‹_› ‹_›|exact Ak.BW ‹_› ‹_›) om|exact B9.b hg ‹_› rfl ‹_› (by first|exact Ak.of ‹_› ‹_›|exact Ak.nil|exact Ak.plus ‹_› ‹_› ‹_› ‹_›|exact Ak.BW ‹_› ‹_›) om),kn,kn,kn,kn⟩)
 refine de [] ?_
 refine ll 0 [] ?_
 refine ll aG aH ?_
 refine fr ?_
 exact Aj ⟨[(g:Int),c,5,3,0,aG],[],[A4,Au,[],aH],[]⟩ (⟨_,_,_,_,_,_,_,_,_,_,rfl,(by subst_vars;first|exact B9.a hg ‹_› (by first|exact Ak.of ‹_› ‹_›|exact Ak.nil|exact Ak.plus ‹_› ‹_› ‹_› ‹_›|exact Ak.BW ‹_› ‹_›) om|exact B9.b hg ‹_› rfl ‹_› (by first|exact Ak.of ‹_› ‹_›|exact Ak.nil|exact Ak.plus ‹_› ‹_› ‹_› ‹_›|exact Ak.BW ‹_› ‹_›) om),kn,kn,kn,kn⟩)
theorem c_4:K_4 4:=by
 intro u B hB hl h
 refine .of (t:=X8) rfl ?_
 unfold X8
 obtain ⟨_,⟨c,d,rfl,k,g,j⟩,y⟩:=c_5 hB hl 0 0 0 0 0
 refine ch y ?_
 refine nv ⟨[u,c,d],[],[B],[]⟩ ?_
 refine eq (c%5) 0 (fun v=>?_) fun v=>?_
 ·exact w_4 hB hl 4 (by decide) c d om h
 refine eq (c%5) 1 (fun o=>?_) fun o=>?_
 ·exact w_4 hB hl 1 (by decide) c d om h
 refine eq (c%5) 2 (fun q=>?_) fun q=>?_
 ·exact w_4 hB hl 2 (by decide) c d om h
 refine eq (c%5) 3 (fun x=>?_) fun x=>?_
 ·exact w_4 hB hl 8 (by decide) c d om h
 refine BI (c%5) 4 ?_
 exact w_4 hB hl 6 (by decide) c d om h
end Go.Proofs.YtbmofjdmgjpfoaaGreatDoor.Am
end
