/- Part 18 of the proof of TypesAccepts. -/
import Derived.Test.YtbmofjdmgjpfoaaGreatDoorC11
import Derived.Test.YtbmofjdmgjpfoaaGreatDoorC17
set_option linter.all false
section
set_option maxHeartbeats 40000000
set_option maxRecDepth 100000
namespace Go.Proofs.YtbmofjdmgjpfoaaGreatDoor.Am
open Go.AM Go.AM.K
def K_4 (N:Nat):Prop:=∀{v:Int} {B:Rs} (hB:Dz B) (hl:v=B.length) (h:v≤140737488355328:=by exact kn),Ok trees N ⟨[v],[],[B],[]⟩ fun z=>(∃(y g q k j o:Int),∃(d u c x:Rs),z=(0,(⟨[y,g,q,k,j,o],[],[d,u,c,x],[]⟩:Ah))∧(B3 y g d u c x)∧(q=d.length)∧(k=u.length)∧(j=c.length)∧(o=x.length))
theorem w_4 {U:Int} {B:Rs} (hB:Dz B) (hl:U=B.length) (g:Nat) (hg:(g:Int)=4∨(g:Int)=1∨(g:Int)=2∨(g:Int)=8∨(g:Int)=6) (r pos:Int) (hp:0≤pos∧pos≤1) (lw:U≤140737488355328):W trees (fun zz=>(∃(g' eD e8 e3 e5 e9:Int),∃(eC P' es R':Rs),zz=(0,(⟨[g',eD,e8,e3,e5,e9],[],[eC,P',es,R'],[]⟩:Ah))∧(B3 g' eD eC P' es R')∧(e8=eC.length)∧(e3=P'.length)∧(e5=es.length)∧(e9=R'.length))) (X_4 g) ⟨[U,r,pos],[],[B],[]⟩:=by
 have lv:G 3=40:=rfl;have lx:G 2=12:=rfl
 unfold X_4
 obtain ⟨_,⟨Q,d,rfl,lj,li,lr⟩,G1⟩:=c_5 hB hl pos 0 0 0 0
 refine ch G1 ?_
 refine nv ⟨[U,r,pos,Q,d],[],[B],[]⟩ ?_
 refine de A0 ?_
 refine ll 5 A0 ?_
 refine fr ?_
 refine de As ?_
 refine ll 3 As ?_
 refine fr ?_
 obtain ⟨_,⟨c,rfl,ld⟩,G2⟩:=c_6 (Q%3) 0 0 U d 0 0 (g:Int) 1 5 3 B A0 As (by exact ⟨.inl rfl,by omega⟩)
 refine ch G2 ?_
 refine nv ⟨[U,r,pos,Q,d,(A0.length:Int),(As.length:Int),c],[],[B,A0,As],[]⟩ ?_
 obtain ⟨_,⟨R,j,rfl,k8,k4,lu⟩,G3⟩:=c_5 hB hl d 0 0 0 0
 refine ch G3 ?_
 refine nv ⟨[U,r,pos,Q,d,(A0.length:Int),(As.length:Int),c,R,j],[],[B,A0,As],[]⟩ ?_
 refine eq (R%3) 0 (fun t4=>?_) fun t4=>?_
 ·obtain ⟨_,(⟨ag,al,O,H,z,A,aj,ad,am,Z,N,x,v,o,az,rfl,j2,jT,jf,ik,h4,hZ,ih⟩|⟨ak,ah,P,y,C,D,ai,ae,an,J,aa,M,k,u,q,aB,rfl,h1,kC,kW,iH,hX,kK,iW,kz,iK⟩),G5⟩:=c_7 hB hl j 0 0 0 0
  ·refine ch G5 ?_
   refine nv ⟨[U,r,pos,Q,d,(A0.length:Int),(As.length:Int),c,R,j,ag,al,O,H,z,A,aj,ad,am,Z],[N],[B,A0,As,x,v,o,az],[]⟩ ?_
   refine el (j':=0) rfl ?_
   refine el (j':=1) rfl ?_
   refine el (j':=2) rfl ?_
   refine de As ?_
   refine ll 3 As ?_
   obtain ⟨_,⟨Tk,af,rfl,k9,lb,lf⟩,G6⟩:=Lr hB hl ad 3 0 12 1 1 As
   refine ch G6 ?_
   refine nv ⟨[U,r,pos,Q,d,(A0.length:Int),(As.length:Int),c,R,j,ag,al,O,H,z,A,aj,ad,am,Z,1,2,3,(As.length:Int),Tk,af],[N,[110],[116],[99]],[B,A0,As,x,v,o,az,As],[]⟩ ?_
   refine ll ag x ?_
   refine ll al v ?_
   refine ll aj o ?_
   refine de [hrow x v O H z N A o] ?_
   refine ll 1 [hrow x v O H z N A o] ?_
   refine fr ?_
   have aY:=MS.Pu (call:=1) (pos:=af) (count:=0) hB hl (by omega) (by omega) (by omega)
   obtain ⟨_,(⟨rfl,im⟩|⟨a1,aD,aW,aX,rfl,b5,ke,kL,iG,j8,iY,iO⟩|⟨k6,a0,a2,av,aE,aV,bd,aZ,rfl,bW,iP,ij,kU,jY,hE,jB,i8,i2,iD⟩),G7⟩:=Ai5 (1+(Tk%8)) 0 0 U af 3 0 12 (g:Int) c 5 3 1 B A0 As [hrow x v O H z N A o] As (MS.mv aY)
   ·refine ch G7 ?_
    refine nv ⟨[U,r,pos,Q,d,(A0.length:Int),(As.length:Int),c,R,j,ag,al,O,H,z,A,aj,ad,am,Z,1,2,3,(As.length:Int),Tk,af,([hrow x v O H z N A o].length:Int)],[N,[110],[116],[99]],[B,A0,As,x,v,o,az,As,[hrow x v O H z N A o]],[]⟩ ?_
    obtain ⟨_,⟨dP,be,rfl,k5,k3,k7⟩,G8⟩:=Lr hB hl af 3 0 12 1 1 As
    refine ch G8 ?_
    refine nv ⟨[U,r,pos,Q,d,(A0.length:Int),(As.length:Int),c,R,j,ag,al,O,H,z,A,aj,ad,am,Z,1,2,3,(As.length:Int),Tk,af,([hrow x v O H z N A o].length:Int),dP,be],[N,[110],[116],[99]],[B,A0,As,x,v,o,az,As,[hrow x v O H z N A o]],[]⟩ ?_
    refine eq (dP%4) 0 (fun t9=>?_) fun t9=>?_
    ·obtain ⟨_,⟨cq,cC,cj,cS,bO,bk,cp,bU,rfl,hG,iV,kI,ii⟩,hi⟩:=Jj (aY.Fv 0 12) 3 3 be
     refine ch hi ?_
     refine nv ⟨[U,r,pos,Q,d,(A0.length:Int),(As.length:Int),c,R,j,ag,al,O,H,z,A,aj,ad,am,Z,1,2,3,(As.length:Int),Tk,af,([hrow x v O H z N A o].length:Int),dP,be,cq,cC,cj,cS,bO,bk],[N,[110],[116],[99],cp],[B,A0,As,x,v,o,az,As,[hrow x v O H z N A o],bU],[]⟩ ?_
     obtain ⟨_,⟨dE,dH,dv,dX,eg,b9,et,ep,dh,cM,bR,rfl,eU,km,j9,i5,h5⟩,gD⟩:=Ou 0 0 3 U bk 3 0 12 1 1 B As (MS.mv (MS.wide (M':=20000) aY ⟨by omega,by omega⟩))
     refine ch gD ?_
     have ⟨_,_,iy,iZ,ic,js,jZ,jS,_,_,_⟩:=eU
     refine nv ⟨[U,r,pos,Q,d,(A0.length:Int),(As.length:Int),c,R,j,ag,al,O,H,z,A,aj,ad,am,Z,1,2,3,(As.length:Int),Tk,af,([hrow x v O H z N A o].length:Int),dP,be,cq,cC,cj,cS,bO,bk,dE,dH,dv,dX,eg,b9,0,0,et],[N,[110],[116],[99],cp,ep,dh],[B,A0,As,x,v,o,az,As,[hrow x v O H z N A o],bU,cM,bR,[],[]],[]⟩ ?_
     refine dL [Bh 9 0 0 0 [] 0 0 0 [] 0 [] 0 0 0 [] 0 [] [] []] (fun e0 f5=>?_)
     have gL:=cL f5;try simp only [lA,lC,lN,lT']at gL
     refine ll 1 e0 ?_
     refine fr ?_
     refine ll bO bU ?_
     refine ll dE cM ?_
     refine ll b9 bR ?_
     refine ll 0 [] ?_
     refine ll 0 [] ?_
     refine dL [Bh 5 0 0 0 [] cq cC cj cp cS bU 0 0 0 [] 0 [] e0 [],Bh 3 0 0 0 ep 5 17 0 [] 0 cM dH dv dX dh eg bR [] []] (fun fb fl=>?_)
     have fp:=cL fl;try simp only [lA,lC,lN,lT']at fp
     refine ll 2 fb ?_
     refine fr ?_
     exact Aj ⟨[(g:Int),c,5,3,1,2],[],[A0,As,[hrow x v O H z N A o],fb],[]⟩ (⟨_,_,_,_,_,_,_,_,_,_,rfl,(by subst_vars;first|exact B3.a hg ‹_› (by first|exact Ak.of ‹_› ‹_›|exact Ak.nil|exact Ak.plus ‹_› ‹_› ‹_› ‹_›|exact Ak.BX ‹_› ‹_›) (by omega) |exact B3.b hg ‹_› rfl ‹_› (by first|exact Ak.of ‹_› ‹_›|exact Ak.nil|exact Ak.plus ‹_› ‹_› ‹_› ‹_›|exact Ak.BX ‹_› ‹_›) (by omega)),kn,kn,kn,kn⟩)
    refine de [] ?_
    refine ll 0 [] ?_
    exact Aj ⟨[(g:Int),c,5,3,1,0],[],[A0,As,[hrow x v O H z N A o],[]],[]⟩ (⟨_,_,_,_,_,_,_,_,_,_,rfl,(by subst_vars;first|exact B3.a hg ‹_› (by first|exact Ak.of ‹_› ‹_›|exact Ak.nil|exact Ak.plus ‹_› ‹_› ‹_› ‹_›|exact Ak.BX ‹_› ‹_›) (by omega) |exact B3.b hg ‹_› rfl ‹_› (by first|exact Ak.of ‹_› ‹_›|exact Ak.nil|exact Ak.plus ‹_› ‹_› ‹_› ‹_›|exact Ak.BX ‹_› ‹_›) (by omega)),kn,kn,kn,kn⟩)
   ·refine cm G7 ?_
    refine ch G7 ?_
    have ⟨_,_,kA,iL,kf,kQ,hL,j1,_,_,_⟩:=b5
    refine nv ⟨[U,r,pos,Q,d,(A0.length:Int),(As.length:Int),c,R,j,ag,al,O,H,z,A,aj,ad,am,Z,1,2,3,(As.length:Int),Tk,af,([hrow x v O H z N A o].length:Int),a1,aD,aW],[N,[110],[116],[99]],[B,A0,As,x,v,o,az,As,[hrow x v O H z N A o],aX],[]⟩ ?_
    obtain ⟨_,⟨bE,a6,rfl,kZ,jN,h6⟩,f4⟩:=Lr hB hl a1 3 0 aD 1 1 As
    refine ch f4 ?_
    refine nv ⟨[U,r,pos,Q,d,(A0.length:Int),(As.length:Int),c,R,j,ag,al,O,H,z,A,aj,ad,am,Z,1,2,3,(As.length:Int),Tk,af,([hrow x v O H z N A o].length:Int),a1,aD,aW,bE,a6],[N,[110],[116],[99]],[B,A0,As,x,v,o,az,As,[hrow x v O H z N A o],aX],[]⟩ ?_
    refine eq (bE%4) 0 (fun ga=>?_) fun ga=>?_
    ·obtain ⟨_,⟨K1,cV,c3,cX,bH,bm,cN,bP,rfl,kr,jk,hS,jH⟩,fj⟩:=Jj (b5.Fv 0 aD) 3 3 a6
     refine ch fj ?_
     refine nv ⟨[U,r,pos,Q,d,(A0.length:Int),(As.length:Int),c,R,j,ag,al,O,H,z,A,aj,ad,am,Z,1,2,3,(As.length:Int),Tk,af,([hrow x v O H z N A o].length:Int),a1,aD,aW,bE,a6,K1,cV,c3,cX,bH,bm],[N,[110],[116],[99],cN],[B,A0,As,x,v,o,az,As,[hrow x v O H z N A o],aX,bP],[]⟩ ?_
     obtain ⟨_,⟨eh,dt,dY,dA,dj,cc,em,eL,dB,c1,bL,rfl,eV,ig,kX,hO,iB⟩,fW⟩:=Ou 0 0 3 U bm 3 0 aD 1 1 B As (MS.mv (MS.wide (M':=20000) b5 ⟨by omega,by omega⟩))
     refine ch fW ?_
     have ⟨_,_,i6,jc,hI,kD,iS,kY,_,_,_⟩:=eV
     refine nv ⟨[U,r,pos,Q,d,(A0.length:Int),(As.length:Int),c,R,j,ag,al,O,H,z,A,aj,ad,am,Z,1,2,3,(As.length:Int),Tk,af,([hrow x v O H z N A o].length:Int),a1,aD,aW,bE,a6,K1,cV,c3,cX,bH,bm,eh,dt,dY,dA,dj,cc,0,0,em],[N,[110],[116],[99],cN,eL,dB],[B,A0,As,x,v,o,az,As,[hrow x v O H z N A o],aX,bP,c1,bL,[],[]],[]⟩ ?_
     refine dL [Bh 9 0 0 0 [] 0 0 0 [] 0 [] 0 0 0 [] 0 [] [] []] (fun fc hy=>?_)
     have g6:=cL hy;try simp only [lA,lC,lN,lT']at g6
     refine ll 1 fc ?_
     refine fr ?_
     refine ll bH bP ?_
     refine ll eh c1 ?_
     refine ll cc bL ?_
     refine ll 0 [] ?_
     refine ll 0 [] ?_
     refine dL (aX++[Bh 5 0 0 0 [] K1 cV c3 cN cX bP 0 0 0 [] 0 [] fc [],Bh 3 0 0 0 eL 5 17 0 [] 0 c1 dt dY dA dB dj bL [] []]) (fun eE fm=>?_) (BG (pw aW aX) pe)
     have gs:=cL fm;try simp only [lA,lC,lN,lT']at gs
     refine F8 (eE.length:Int) 1048576 ?_
     refine fr ?_
     exact Aj ⟨[(g:Int),c,5,3,1,(eE.length:Int)],[],[A0,As,[hrow x v O H z N A o],eE],[]⟩ (⟨_,_,_,_,_,_,_,_,_,_,rfl,(by subst_vars;first|exact B3.a hg ‹_› (by first|exact Ak.of ‹_› ‹_›|exact Ak.nil|exact Ak.plus ‹_› ‹_› ‹_› ‹_›|exact Ak.BX ‹_› ‹_›) (by omega) |exact B3.b hg ‹_› rfl ‹_› (by first|exact Ak.of ‹_› ‹_›|exact Ak.nil|exact Ak.plus ‹_› ‹_› ‹_› ‹_›|exact Ak.BX ‹_› ‹_›) (by omega)),kn,kn,kn,kn⟩)
    refine ll aW aX ?_
    refine fr ?_
    exact Aj ⟨[(g:Int),c,5,3,1,aW],[],[A0,As,[hrow x v O H z N A o],aX],[]⟩ (⟨_,_,_,_,_,_,_,_,_,_,rfl,(by subst_vars;first|exact B3.a hg ‹_› (by first|exact Ak.of ‹_› ‹_›|exact Ak.nil|exact Ak.plus ‹_› ‹_› ‹_› ‹_›|exact Ak.BX ‹_› ‹_›) (by omega) |exact B3.b hg ‹_› rfl ‹_› (by first|exact Ak.of ‹_› ‹_›|exact Ak.nil|exact Ak.plus ‹_› ‹_› ‹_› ‹_›|exact Ak.BX ‹_› ‹_›) (by omega)),kn,kn,kn,kn⟩)
   refine cm G7 ?_
   refine cm G7 ?_
   refine ch G7 ?_
   have ⟨_,_,k1,i0,iU,ju,jR,kS,_,_,_⟩:=bW
   refine nv ⟨[U,r,pos,Q,d,(A0.length:Int),(As.length:Int),c,R,j,ag,al,O,H,z,A,aj,ad,am,Z,1,2,3,(As.length:Int),Tk,af,([hrow x v O H z N A o].length:Int),a0,a2,av,aE,aV],[N,[110],[116],[99]],[B,A0,As,x,v,o,az,As,[hrow x v O H z N A o],bd,aZ],[]⟩ ?_
   obtain ⟨_,⟨b3,a7,rfl,h7,jJ,kq⟩,f8⟩:=Lr hB hl a0 a2 av aE 1 1 bd
   refine ch f8 ?_
   refine nv ⟨[U,r,pos,Q,d,(A0.length:Int),(As.length:Int),c,R,j,ag,al,O,H,z,A,aj,ad,am,Z,1,2,3,(As.length:Int),Tk,af,([hrow x v O H z N A o].length:Int),a0,a2,av,aE,aV,b3,a7],[N,[110],[116],[99]],[B,A0,As,x,v,o,az,As,[hrow x v O H z N A o],bd,aZ],[]⟩ ?_
   refine eq (b3%4) 0 (fun gX=>?_) fun gX=>?_
   ·obtain ⟨_,⟨cJ,cR,cv,cw,bJ,bh,co,bz,rfl,kT,kv,iv,jF⟩,gv⟩:=Jj (bW.Fv av aE) 3 3 a7
    refine ch gv ?_
    refine nv ⟨[U,r,pos,Q,d,(A0.length:Int),(As.length:Int),c,R,j,ag,al,O,H,z,A,aj,ad,am,Z,1,2,3,(As.length:Int),Tk,af,([hrow x v O H z N A o].length:Int),a0,a2,av,aE,aV,b3,a7,cJ,cR,cv,cw,bJ,bh],[N,[110],[116],[99],co],[B,A0,As,x,v,o,az,As,[hrow x v O H z N A o],bd,aZ,bz],[]⟩ ?_
    obtain ⟨_,⟨dM,ec,dz,dG,dN,cd,eB,eH,ef,cI,bN,rfl,eT,jA,hR,ky,jb⟩,fE⟩:=Ou 0 0 3 U bh a2 av aE 1 1 B bd (MS.mv (MS.wide (M':=20000) bW ⟨by omega,by omega⟩))
    refine ch fE ?_
    have ⟨_,_,jh,jt,ib,kE,kp,iz,_,_,_⟩:=eT
    refine nv ⟨[U,r,pos,Q,d,(A0.length:Int),(As.length:Int),c,R,j,ag,al,O,H,z,A,aj,ad,am,Z,1,2,3,(As.length:Int),Tk,af,([hrow x v O H z N A o].length:Int),a0,a2,av,aE,aV,b3,a7,cJ,cR,cv,cw,bJ,bh,dM,ec,dz,dG,dN,cd,0,0,eB],[N,[110],[116],[99],co,eH,ef],[B,A0,As,x,v,o,az,As,[hrow x v O H z N A o],bd,aZ,bz,cI,bN,[],[]],[]⟩ ?_
    refine dL [Bh 9 0 0 0 [] 0 0 0 [] 0 [] 0 0 0 [] 0 [] [] []] (fun fa fV=>?_)
    have fv:=cL fV;try simp only [lA,lC,lN,lT']at fv
    refine ll 1 fa ?_
    refine fr ?_
    refine ll bJ bz ?_
    refine ll dM cI ?_
    refine ll cd bN ?_
    refine ll 0 [] ?_
    refine ll 0 [] ?_
    refine dL (aZ++[Bh 5 0 0 0 [] cJ cR cv co cw bz 0 0 0 [] 0 [] fa [],Bh 3 0 0 0 eH 5 17 0 [] 0 cI ec dz dG ef dN bN [] []]) (fun eJ gK=>?_) (BG (pw aV aZ) pe)
    have hx:=cL gK;try simp only [lA,lC,lN,lT']at hx
    refine F8 (eJ.length:Int) 1048576 ?_
    refine fr ?_
    exact Aj ⟨[(g:Int),c,5,3,1,(eJ.length:Int)],[],[A0,As,[hrow x v O H z N A o],eJ],[]⟩ (⟨_,_,_,_,_,_,_,_,_,_,rfl,(by subst_vars;first|exact B3.a hg ‹_› (by first|exact Ak.of ‹_› ‹_›|exact Ak.nil|exact Ak.plus ‹_› ‹_› ‹_› ‹_›|exact Ak.BX ‹_› ‹_›) (by omega) |exact B3.b hg ‹_› rfl ‹_› (by first|exact Ak.of ‹_› ‹_›|exact Ak.nil|exact Ak.plus ‹_› ‹_› ‹_› ‹_›|exact Ak.BX ‹_› ‹_›) (by omega)),kn,kn,kn,kn⟩)
   refine ll aV aZ ?_
   refine fr ?_
   exact Aj ⟨[(g:Int),c,5,3,1,aV],[],[A0,As,[hrow x v O H z N A o],aZ],[]⟩ (⟨_,_,_,_,_,_,_,_,_,_,rfl,(by subst_vars;first|exact B3.a hg ‹_› (by first|exact Ak.of ‹_› ‹_›|exact Ak.nil|exact Ak.plus ‹_› ‹_› ‹_› ‹_›|exact Ak.BX ‹_› ‹_›) (by omega) |exact B3.b hg ‹_› rfl ‹_› (by first|exact Ak.of ‹_› ‹_›|exact Ak.nil|exact Ak.plus ‹_› ‹_› ‹_› ‹_›|exact Ak.BX ‹_› ‹_›) (by omega)),kn,kn,kn,kn⟩)
  refine cm G5 ?_
  refine ch G5 ?_
  refine nv ⟨[U,r,pos,Q,d,(A0.length:Int),(As.length:Int),c,R,j,ak,ah,P,y,C,D,ai,ae,an,J,aa],[M],[B,A0,As,k,u,q,aB],[]⟩ ?_
  refine el (j':=0) rfl ?_
  refine el (j':=1) rfl ?_
  refine el (j':=2) rfl ?_
  refine de As ?_
  refine ll 3 As ?_
  obtain ⟨_,⟨aC,ac,rfl,i4,k0,ip⟩,fA⟩:=Lr hB hl ae 3 J 12 1 1 As
  refine ch fA ?_
  refine nv ⟨[U,r,pos,Q,d,(A0.length:Int),(As.length:Int),c,R,j,ak,ah,P,y,C,D,ai,ae,an,J,aa,1,2,3,(As.length:Int),aC,ac],[M,[110],[116],[99]],[B,A0,As,k,u,q,aB,As],[]⟩ ?_
  refine ll ak k ?_
  refine ll ah u ?_
  refine ll ai q ?_
  refine de [hrow k u P y C M D q] ?_
  refine ll 1 [hrow k u P y C M D q] ?_
  refine fr ?_
  have aY:=MS.Pu (call:=1) (pos:=ac) (count:=J) hB hl (by omega) (by omega) (by omega)
  obtain ⟨_,(⟨rfl,gY⟩|⟨aN,ax,aG,aJ,rfl,bo,hq,gf,fX,gr,fT,gu⟩|⟨h2,aO,aR,aq,au,aI,a4,aM,rfl,bp,fZ,gA,fU,gV,he,gk,hk,gi,gh⟩),bv⟩:=Ai5 (1+(aC%8)) 0 0 U ac 3 J 12 (g:Int) c 5 3 1 B A0 As [hrow k u P y C M D q] As (MS.mv aY)
  ·refine ch bv ?_
   refine nv ⟨[U,r,pos,Q,d,(A0.length:Int),(As.length:Int),c,R,j,ak,ah,P,y,C,D,ai,ae,an,J,aa,1,2,3,(As.length:Int),aC,ac,([hrow k u P y C M D q].length:Int)],[M,[110],[116],[99]],[B,A0,As,k,u,q,aB,As,[hrow k u P y C M D q]],[]⟩ ?_
   obtain ⟨_,⟨bG,a9,rfl,io,kg,jD⟩,fy⟩:=Lr hB hl ac 3 J 12 1 1 As
   refine ch fy ?_
   refine nv ⟨[U,r,pos,Q,d,(A0.length:Int),(As.length:Int),c,R,j,ak,ah,P,y,C,D,ai,ae,an,J,aa,1,2,3,(As.length:Int),aC,ac,([hrow k u P y C M D q].length:Int),bG,a9],[M,[110],[116],[99]],[B,A0,As,k,u,q,aB,As,[hrow k u P y C M D q]],[]⟩ ?_
   refine eq (bG%4) 0 (fun fH=>?_) fun fH=>?_
   ·obtain ⟨_,⟨cG,cF,cu,cz,bY,bq,cA,bA,rfl,jK,j6,jd,kP⟩,hw⟩:=Jj (aY.Fv J 12) 3 3 a9
    refine ch hw ?_
    refine nv ⟨[U,r,pos,Q,d,(A0.length:Int),(As.length:Int),c,R,j,ak,ah,P,y,C,D,ai,ae,an,J,aa,1,2,3,(As.length:Int),aC,ac,([hrow k u P y C M D q].length:Int),bG,a9,cG,cF,cu,cz,bY,bq],[M,[110],[116],[99],cA],[B,A0,As,k,u,q,aB,As,[hrow k u P y C M D q],bA],[]⟩ ?_
    obtain ⟨_,⟨ee,dK,ea,dI,dw,b8,eN,eK,dZ,cT,b4,rfl,eO,jp,ia,jP,iu⟩,fR⟩:=Ou 0 0 3 U bq 3 J 12 1 1 B As (MS.mv (MS.wide (M':=20000) aY ⟨by omega,by omega⟩))
    refine ch fR ?_
    have ⟨_,_,ku,hW,jO,iC,jI,i7,_,_,_⟩:=eO
    refine nv ⟨[U,r,pos,Q,d,(A0.length:Int),(As.length:Int),c,R,j,ak,ah,P,y,C,D,ai,ae,an,J,aa,1,2,3,(As.length:Int),aC,ac,([hrow k u P y C M D q].length:Int),bG,a9,cG,cF,cu,cz,bY,bq,ee,dK,ea,dI,dw,b8,0,0,eN],[M,[110],[116],[99],cA,eK,dZ],[B,A0,As,k,u,q,aB,As,[hrow k u P y C M D q],bA,cT,b4,[],[]],[]⟩ ?_
    refine dL [Bh 9 0 0 0 [] 0 0 0 [] 0 [] 0 0 0 [] 0 [] [] []] (fun e1 fL=>?_)
    have gg:=cL fL;try simp only [lA,lC,lN,lT']at gg
    refine ll 1 e1 ?_
    refine fr ?_
    refine ll bY bA ?_
    refine ll ee cT ?_
    refine ll b8 b4 ?_
    refine ll 0 [] ?_
    refine ll 0 [] ?_
    refine dL [Bh 5 0 0 0 [] cG cF cu cA cz bA 0 0 0 [] 0 [] e1 [],Bh 3 0 0 0 eK 5 17 0 [] 0 cT dK ea dI dZ dw b4 [] []] (fun e7 hv=>?_)
    have gc:=cL hv;try simp only [lA,lC,lN,lT']at gc
    refine ll 2 e7 ?_
    refine fr ?_
    exact Aj ⟨[(g:Int),c,5,3,1,2],[],[A0,As,[hrow k u P y C M D q],e7],[]⟩ (⟨_,_,_,_,_,_,_,_,_,_,rfl,(by subst_vars;first|exact B3.a hg ‹_› (by first|exact Ak.of ‹_› ‹_›|exact Ak.nil|exact Ak.plus ‹_› ‹_› ‹_› ‹_›|exact Ak.BX ‹_› ‹_›) (by omega) |exact B3.b hg ‹_› rfl ‹_› (by first|exact Ak.of ‹_› ‹_›|exact Ak.nil|exact Ak.plus ‹_› ‹_› ‹_› ‹_›|exact Ak.BX ‹_› ‹_›) (by omega)),kn,kn,kn,kn⟩)
   refine de [] ?_
   refine ll 0 [] ?_
   exact Aj ⟨[(g:Int),c,5,3,1,0],[],[A0,As,[hrow k u P y C M D q],[]],[]⟩ (⟨_,_,_,_,_,_,_,_,_,_,rfl,(by subst_vars;first|exact B3.a hg ‹_› (by first|exact Ak.of ‹_› ‹_›|exact Ak.nil|exact Ak.plus ‹_› ‹_› ‹_› ‹_›|exact Ak.BX ‹_› ‹_›) (by omega) |exact B3.b hg ‹_› rfl ‹_› (by first|exact Ak.of ‹_› ‹_›|exact Ak.nil|exact Ak.plus ‹_› ‹_› ‹_› ‹_›|exact Ak.BX ‹_› ‹_›) (by omega)),kn,kn,kn,kn⟩)
  ·refine cm bv ?_
   refine ch bv ?_
   have ⟨_,_,fY,ho,f6,gW,fN,gq,_,_,_⟩:=bo
   refine nv ⟨[U,r,pos,Q,d,(A0.length:Int),(As.length:Int),c,R,j,ak,ah,P,y,C,D,ai,ae,an,J,aa,1,2,3,(As.length:Int),aC,ac,([hrow k u P y C M D q].length:Int),aN,ax,aG],[M,[110],[116],[99]],[B,A0,As,k,u,q,aB,As,[hrow k u P y C M D q],aJ],[]⟩ ?_
   obtain ⟨_,⟨b0,ba,rfl,i1,jV,jW⟩,fs⟩:=Lr hB hl aN 3 J ax 1 1 As
   refine ch fs ?_
   refine nv ⟨[U,r,pos,Q,d,(A0.length:Int),(As.length:Int),c,R,j,ak,ah,P,y,C,D,ai,ae,an,J,aa,1,2,3,(As.length:Int),aC,ac,([hrow k u P y C M D q].length:Int),aN,ax,aG,b0,ba],[M,[110],[116],[99]],[B,A0,As,k,u,q,aB,As,[hrow k u P y C M D q],aJ],[]⟩ ?_
   refine eq (b0%4) 0 (fun fo=>?_) fun fo=>?_
   ·obtain ⟨_,⟨c7,ci,cK,c9,bT,bt,c8,bX,rfl,iX,jC,iN,jm⟩,ht⟩:=Jj (bo.Fv J ax) 3 3 ba
    refine ch ht ?_
    refine nv ⟨[U,r,pos,Q,d,(A0.length:Int),(As.length:Int),c,R,j,ak,ah,P,y,C,D,ai,ae,an,J,aa,1,2,3,(As.length:Int),aC,ac,([hrow k u P y C M D q].length:Int),aN,ax,aG,b0,ba,c7,ci,cK,c9,bT,bt],[M,[110],[116],[99],c8],[B,A0,As,k,u,q,aB,As,[hrow k u P y C M D q],aJ,bX],[]⟩ ?_
    obtain ⟨_,⟨d5,dF,di,d7,ed,cb,ek,eA,dk,cQ,bB,rfl,eS,jw,iQ,jy,jz⟩,gw⟩:=Ou 0 0 3 U bt 3 J ax 1 1 B As (MS.mv (MS.wide (M':=20000) bo ⟨by omega,by omega⟩))
    refine ch gw ?_
    have ⟨_,_,h8,h0,k2,hH,j3,jv,_,_,_⟩:=eS
    refine nv ⟨[U,r,pos,Q,d,(A0.length:Int),(As.length:Int),c,R,j,ak,ah,P,y,C,D,ai,ae,an,J,aa,1,2,3,(As.length:Int),aC,ac,([hrow k u P y C M D q].length:Int),aN,ax,aG,b0,ba,c7,ci,cK,c9,bT,bt,d5,dF,di,d7,ed,cb,0,0,ek],[M,[110],[116],[99],c8,eA,dk],[B,A0,As,k,u,q,aB,As,[hrow k u P y C M D q],aJ,bX,cQ,bB,[],[]],[]⟩ ?_
    refine dL [Bh 9 0 0 0 [] 0 0 0 [] 0 [] 0 0 0 [] 0 [] [] []] (fun e6 gO=>?_)
    have ft:=cL gO;try simp only [lA,lC,lN,lT']at ft
    refine ll 1 e6 ?_
    refine fr ?_
    refine ll bT bX ?_
    refine ll d5 cQ ?_
    refine ll cb bB ?_
    refine ll 0 [] ?_
    refine ll 0 [] ?_
    refine dL (aJ++[Bh 5 0 0 0 [] c7 ci cK c8 c9 bX 0 0 0 [] 0 [] e6 [],Bh 3 0 0 0 eA 5 17 0 [] 0 cQ dF di d7 dk ed bB [] []]) (fun er f7=>?_) (BG (pw aG aJ) pe)
    have gH:=cL f7;try simp only [lA,lC,lN,lT']at gH
    refine F8 (er.length:Int) 1048576 ?_
    refine fr ?_
    exact Aj ⟨[(g:Int),c,5,3,1,(er.length:Int)],[],[A0,As,[hrow k u P y C M D q],er],[]⟩ (⟨_,_,_,_,_,_,_,_,_,_,rfl,(by subst_vars;first|exact B3.a hg ‹_› (by first|exact Ak.of ‹_› ‹_›|exact Ak.nil|exact Ak.plus ‹_› ‹_› ‹_› ‹_›|exact Ak.BX ‹_› ‹_›) (by omega) |exact B3.b hg ‹_› rfl ‹_› (by first|exact Ak.of ‹_› ‹_›|exact Ak.nil|exact Ak.plus ‹_› ‹_› ‹_› ‹_›|exact Ak.BX ‹_› ‹_›) (by omega)),kn,kn,kn,kn⟩)
   refine ll aG aJ ?_
   refine fr ?_
   exact Aj ⟨[(g:Int),c,5,3,1,aG],[],[A0,As,[hrow k u P y C M D q],aJ],[]⟩ (⟨_,_,_,_,_,_,_,_,_,_,rfl,(by subst_vars;first|exact B3.a hg ‹_› (by first|exact Ak.of ‹_› ‹_›|exact Ak.nil|exact Ak.plus ‹_› ‹_› ‹_› ‹_›|exact Ak.BX ‹_› ‹_›) (by omega) |exact B3.b hg ‹_› rfl ‹_› (by first|exact Ak.of ‹_› ‹_›|exact Ak.nil|exact Ak.plus ‹_› ‹_› ‹_› ‹_›|exact Ak.BX ‹_› ‹_›) (by omega)),kn,kn,kn,kn⟩)
  refine cm bv ?_
  refine cm bv ?_
  refine ch bv ?_
  have ⟨_,_,gy,g4,hm,gM,hj,gb,_,_,_⟩:=bp
  refine nv ⟨[U,r,pos,Q,d,(A0.length:Int),(As.length:Int),c,R,j,ak,ah,P,y,C,D,ai,ae,an,J,aa,1,2,3,(As.length:Int),aC,ac,([hrow k u P y C M D q].length:Int),aO,aR,aq,au,aI],[M,[110],[116],[99]],[B,A0,As,k,u,q,aB,As,[hrow k u P y C M D q],a4,aM],[]⟩ ?_
  obtain ⟨_,⟨X5,bc,rfl,iM,hU,jr⟩,g0⟩:=Lr hB hl aO aR aq au 1 1 a4
  refine ch g0 ?_
  refine nv ⟨[U,r,pos,Q,d,(A0.length:Int),(As.length:Int),c,R,j,ak,ah,P,y,C,D,ai,ae,an,J,aa,1,2,3,(As.length:Int),aC,ac,([hrow k u P y C M D q].length:Int),aO,aR,aq,au,aI,X5,bc],[M,[110],[116],[99]],[B,A0,As,k,u,q,aB,As,[hrow k u P y C M D q],a4,aM],[]⟩ ?_
  refine eq (X5%4) 0 (fun f2=>?_) fun f2=>?_
  ·obtain ⟨_,⟨c4,c5,dd,cE,bV,br,c2,b2,rfl,hF,jE,ja,kh⟩,gP⟩:=Jj (bp.Fv aq au) 3 3 bc
   refine ch gP ?_
   refine nv ⟨[U,r,pos,Q,d,(A0.length:Int),(As.length:Int),c,R,j,ak,ah,P,y,C,D,ai,ae,an,J,aa,1,2,3,(As.length:Int),aC,ac,([hrow k u P y C M D q].length:Int),aO,aR,aq,au,aI,X5,bc,c4,c5,dd,cE,bV,br],[M,[110],[116],[99],c2],[B,A0,As,k,u,q,aB,As,[hrow k u P y C M D q],a4,aM,b2],[]⟩ ?_
   obtain ⟨_,⟨dD,dp,dU,d3,d6,cf,ey,ew,dO,c6,bK,rfl,eQ,hM,i9,jj,hT⟩,fM⟩:=Ou 0 0 3 U br aR aq au 1 1 B a4 (MS.mv (MS.wide (M':=20000) bp ⟨by omega,by omega⟩))
   refine ch fM ?_
   have ⟨_,_,j7,ie,kH,j5,kl,kO,_,_,_⟩:=eQ
   refine nv ⟨[U,r,pos,Q,d,(A0.length:Int),(As.length:Int),c,R,j,ak,ah,P,y,C,D,ai,ae,an,J,aa,1,2,3,(As.length:Int),aC,ac,([hrow k u P y C M D q].length:Int),aO,aR,aq,au,aI,X5,bc,c4,c5,dd,cE,bV,br,dD,dp,dU,d3,d6,cf,0,0,ey],[M,[110],[116],[99],c2,ew,dO],[B,A0,As,k,u,q,aB,As,[hrow k u P y C M D q],a4,aM,b2,c6,bK,[],[]],[]⟩ ?_
   refine dL [Bh 9 0 0 0 [] 0 0 0 [] 0 [] 0 0 0 [] 0 [] [] []] (fun eX gF=>?_)
   have fq:=cL gF;try simp only [lA,lC,lN,lT']at fq
   refine ll 1 eX ?_
   refine fr ?_
   refine ll bV b2 ?_
   refine ll dD c6 ?_
   refine ll cf bK ?_
   refine ll 0 [] ?_
   refine ll 0 [] ?_
   refine dL (aM++[Bh 5 0 0 0 [] c4 c5 dd c2 cE b2 0 0 0 [] 0 [] eX [],Bh 3 0 0 0 ew 5 17 0 [] 0 c6 dp dU d3 dO d6 bK [] []]) (fun eu gn=>?_) (BG (pw aI aM) pe)
   have fO:=cL gn;try simp only [lA,lC,lN,lT']at fO
   refine F8 (eu.length:Int) 1048576 ?_
   refine fr ?_
   exact Aj ⟨[(g:Int),c,5,3,1,(eu.length:Int)],[],[A0,As,[hrow k u P y C M D q],eu],[]⟩ (⟨_,_,_,_,_,_,_,_,_,_,rfl,(by subst_vars;first|exact B3.a hg ‹_› (by first|exact Ak.of ‹_› ‹_›|exact Ak.nil|exact Ak.plus ‹_› ‹_› ‹_› ‹_›|exact Ak.BX ‹_› ‹_›) (by omega) |exact B3.b hg ‹_› rfl ‹_› (by first|exact Ak.of ‹_› ‹_›|exact Ak.nil|exact Ak.plus ‹_› ‹_› ‹_› ‹_›|exact Ak.BX ‹_› ‹_›) (by omega)),kn,kn,kn,kn⟩)
  refine ll aI aM ?_
  refine fr ?_
  exact Aj ⟨[(g:Int),c,5,3,1,aI],[],[A0,As,[hrow k u P y C M D q],aM],[]⟩ (⟨_,_,_,_,_,_,_,_,_,_,rfl,(by subst_vars;first|exact B3.a hg ‹_› (by first|exact Ak.of ‹_› ‹_›|exact Ak.nil|exact Ak.plus ‹_› ‹_› ‹_› ‹_›|exact Ak.BX ‹_› ‹_›) (by omega) |exact B3.b hg ‹_› rfl ‹_› (by first|exact Ak.of ‹_› ‹_›|exact Ak.nil|exact Ak.plus ‹_› ‹_› ‹_› ‹_›|exact Ak.BX ‹_› ‹_›) (by omega)),kn,kn,kn,kn⟩)
 refine el (j':=0) rfl ?_
 refine el (j':=1) rfl ?_
 refine el (j':=2) rfl ?_
 refine de As ?_
 refine ll 3 As ?_
 obtain ⟨_,⟨aA,ab,rfl,hY,kF,jL⟩,hC⟩:=Lr hB hl j 3 0 12 0 1 As
 refine ch hC ?_
 refine nv ⟨[U,r,pos,Q,d,(A0.length:Int),(As.length:Int),c,R,j,1,2,3,(As.length:Int),aA,ab],[[110],[116],[99]],[B,A0,As,As],[]⟩ ?_
 have aY:=MS.Pu (call:=0) (pos:=ab) (count:=0) hB hl (by omega) (by omega) (by omega)
 obtain ⟨_,(⟨rfl,gx⟩|⟨aP,ay,aH,aK,rfl,bj,gG,gQ,hr,hA,fu,hs⟩|⟨ko,aU,aQ,ap,aw,aF,a3,aL,rfl,bf,gB,gZ,fS,fK,fh,g9,f3,hD,gR⟩),bw⟩:=AlM (1+(aA%8)) 0 0 U ab 3 0 12 (g:Int) c 5 3 B A0 As As (MS.mv aY)
 ·refine ch bw ?_
  refine nv ⟨[U,r,pos,Q,d,(A0.length:Int),(As.length:Int),c,R,j,1,2,3,(As.length:Int),aA,ab],[[110],[116],[99]],[B,A0,As,As],[]⟩ ?_
  obtain ⟨_,⟨b1,bb,rfl,iF,ki,jg⟩,fP⟩:=Lr hB hl ab 3 0 12 0 1 As
  refine ch fP ?_
  refine nv ⟨[U,r,pos,Q,d,(A0.length:Int),(As.length:Int),c,R,j,1,2,3,(As.length:Int),aA,ab,b1,bb],[[110],[116],[99]],[B,A0,As,As],[]⟩ ?_
  refine eq (b1%4) 0 (fun gl=>?_) fun gl=>?_
  ·obtain ⟨_,⟨cy,cx,cD,ct,bQ,bi,cH,b6,rfl,hN,iA,h9,j4⟩,g8⟩:=Jj (aY.Fv 0 12) 3 3 bb
   refine ch g8 ?_
   refine nv ⟨[U,r,pos,Q,d,(A0.length:Int),(As.length:Int),c,R,j,1,2,3,(As.length:Int),aA,ab,b1,bb,cy,cx,cD,ct,bQ,bi],[[110],[116],[99],cH],[B,A0,As,As,b6],[]⟩ ?_
   obtain ⟨_,⟨dT,dV,dx,eb,dQ,ce,eI,eF,dy,ck,bx,rfl,eP,jU,hP,hQ,jM⟩,fC⟩:=Ou 0 0 3 U bi 3 0 12 0 1 B As (MS.mv (MS.wide (M':=20000) aY ⟨by omega,by omega⟩))
   refine ch fC ?_
   have ⟨_,_,kc,kt,kG,kR,iT,iR,_,_,_⟩:=eP
   refine nv ⟨[U,r,pos,Q,d,(A0.length:Int),(As.length:Int),c,R,j,1,2,3,(As.length:Int),aA,ab,b1,bb,cy,cx,cD,ct,bQ,bi,dT,dV,dx,eb,dQ,ce,0,0,eI],[[110],[116],[99],cH,eF,dy],[B,A0,As,As,b6,ck,bx,[],[]],[]⟩ ?_
   refine dL [Bh 9 0 0 0 [] 0 0 0 [] 0 [] 0 0 0 [] 0 [] [] []] (fun eZ fB=>?_)
   have f1:=cL fB;try simp only [lA,lC,lN,lT']at f1
   refine ll 1 eZ ?_
   refine fr ?_
   refine de [] ?_
   refine ll 0 [] ?_
   refine ll bQ b6 ?_
   refine ll dT ck ?_
   refine ll ce bx ?_
   refine ll 0 [] ?_
   refine ll 0 [] ?_
   refine dL [Bh 5 0 0 0 [] cy cx cD cH ct b6 0 0 0 [] 0 [] eZ [],Bh 3 0 0 0 eF 5 17 0 [] 0 ck dV dx eb dy dQ bx [] []] (fun eY f9=>?_)
   have gE:=cL f9;try simp only [lA,lC,lN,lT']at gE
   refine ll 2 eY ?_
   refine fr ?_
   exact Aj ⟨[(g:Int),c,5,3,0,2],[],[A0,As,[],eY],[]⟩ (⟨_,_,_,_,_,_,_,_,_,_,rfl,(by subst_vars;first|exact B3.a hg ‹_› (by first|exact Ak.of ‹_› ‹_›|exact Ak.nil|exact Ak.plus ‹_› ‹_› ‹_› ‹_›|exact Ak.BX ‹_› ‹_›) (by omega) |exact B3.b hg ‹_› rfl ‹_› (by first|exact Ak.of ‹_› ‹_›|exact Ak.nil|exact Ak.plus ‹_› ‹_› ‹_› ‹_›|exact Ak.BX ‹_› ‹_›) (by omega)),kn,kn,kn,kn⟩)
  refine de [] ?_
  refine ll 0 [] ?_
  exact Aj ⟨[(g:Int),c,5,3,0,0],[],[A0,As,[],[]],[]⟩ (⟨_,_,_,_,_,_,_,_,_,_,rfl,(by subst_vars;first|exact B3.a hg ‹_› (by first|exact Ak.of ‹_› ‹_›|exact Ak.nil|exact Ak.plus ‹_› ‹_› ‹_› ‹_›|exact Ak.BX ‹_› ‹_›) (by omega) |exact B3.b hg ‹_› rfl ‹_› (by first|exact Ak.of ‹_› ‹_›|exact Ak.nil|exact Ak.plus ‹_› ‹_› ‹_› ‹_›|exact Ak.BX ‹_› ‹_›) (by omega)),kn,kn,kn,kn⟩)
 ·refine cm bw ?_
  refine ch bw ?_
  have ⟨_,_,fg,hz,gN,fw,hn,gI,_,_,_⟩:=bj
  refine nv ⟨[U,r,pos,Q,d,(A0.length:Int),(As.length:Int),c,R,j,1,2,3,(As.length:Int),aA,ab,aP,ay,aH],[[110],[116],[99]],[B,A0,As,As,aK],[]⟩ ?_
  obtain ⟨_,⟨X4,a5,rfl,ir,kw,j0⟩,fQ⟩:=Lr hB hl aP 3 0 ay 0 1 As
  refine ch fQ ?_
  refine nv ⟨[U,r,pos,Q,d,(A0.length:Int),(As.length:Int),c,R,j,1,2,3,(As.length:Int),aA,ab,aP,ay,aH,X4,a5],[[110],[116],[99]],[B,A0,As,As,aK],[]⟩ ?_
  refine eq (X4%4) 0 (fun hh=>?_) fun hh=>?_
  ·obtain ⟨_,⟨cO,dc,cU,cY,bF,bg,cr,bS,rfl,jl,iE,hJ,kb⟩,gd⟩:=Jj (bj.Fv 0 ay) 3 3 a5
   refine ch gd ?_
   refine nv ⟨[U,r,pos,Q,d,(A0.length:Int),(As.length:Int),c,R,j,1,2,3,(As.length:Int),aA,ab,aP,ay,aH,X4,a5,cO,dc,cU,cY,bF,bg],[[110],[116],[99],cr],[B,A0,As,As,aK,bS],[]⟩ ?_
   obtain ⟨_,⟨d1,dW,d9,dl,dJ,cg,eM,ej,dR,cB,bD,rfl,eR,h3,iq,jX,iw⟩,hu⟩:=Ou 0 0 3 U bg 3 0 ay 0 1 B As (MS.mv (MS.wide (M':=20000) bj ⟨by omega,by omega⟩))
   refine ch hu ?_
   have ⟨_,_,ix,jq,jQ,kj,i3,il,_,_,_⟩:=eR
   refine nv ⟨[U,r,pos,Q,d,(A0.length:Int),(As.length:Int),c,R,j,1,2,3,(As.length:Int),aA,ab,aP,ay,aH,X4,a5,cO,dc,cU,cY,bF,bg,d1,dW,d9,dl,dJ,cg,0,0,eM],[[110],[116],[99],cr,ej,dR],[B,A0,As,As,aK,bS,cB,bD,[],[]],[]⟩ ?_
   refine dL [Bh 9 0 0 0 [] 0 0 0 [] 0 [] 0 0 0 [] 0 [] [] []] (fun e2 gS=>?_)
   have gT:=cL gS;try simp only [lA,lC,lN,lT']at gT
   refine ll 1 e2 ?_
   refine fr ?_
   refine ll bF bS ?_
   refine ll d1 cB ?_
   refine ll cg bD ?_
   refine ll 0 [] ?_
   refine ll 0 [] ?_
   refine dL (aK++[Bh 5 0 0 0 [] cO dc cU cr cY bS 0 0 0 [] 0 [] e2 [],Bh 3 0 0 0 ej 5 17 0 [] 0 cB dW d9 dl dR dJ bD [] []]) (fun en fi=>?_) (BG (pw aH aK) pe)
   have fF:=cL fi;try simp only [lA,lC,lN,lT']at fF
   refine F8 (en.length:Int) 1048576 ?_
   refine de [] ?_
   refine ll 0 [] ?_
   refine fr ?_
   exact Aj ⟨[(g:Int),c,5,3,0,(en.length:Int)],[],[A0,As,[],en],[]⟩ (⟨_,_,_,_,_,_,_,_,_,_,rfl,(by subst_vars;first|exact B3.a hg ‹_› (by first|exact Ak.of ‹_› ‹_›|exact Ak.nil|exact Ak.plus ‹_› ‹_› ‹_› ‹_›|exact Ak.BX ‹_› ‹_›) (by omega) |exact B3.b hg ‹_› rfl ‹_› (by first|exact Ak.of ‹_› ‹_›|exact Ak.nil|exact Ak.plus ‹_› ‹_› ‹_› ‹_›|exact Ak.BX ‹_› ‹_›) (by omega)),kn,kn,kn,kn⟩)
  refine de [] ?_
  refine ll 0 [] ?_
  refine ll aH aK ?_
  refine fr ?_
  exact Aj ⟨[(g:Int),c,5,3,0,aH],[],[A0,As,[],aK],[]⟩ (⟨_,_,_,_,_,_,_,_,_,_,rfl,(by subst_vars;first|exact B3.a hg ‹_› (by first|exact Ak.of ‹_› ‹_›|exact Ak.nil|exact Ak.plus ‹_› ‹_› ‹_› ‹_›|exact Ak.BX ‹_› ‹_›) (by omega) |exact B3.b hg ‹_› rfl ‹_› (by first|exact Ak.of ‹_› ‹_›|exact Ak.nil|exact Ak.plus ‹_› ‹_› ‹_› ‹_›|exact Ak.BX ‹_› ‹_›) (by omega)),kn,kn,kn,kn⟩)
 refine cm bw ?_
 refine cm bw ?_
 refine ch bw ?_
 have ⟨_,_,gz,fJ,fz,gJ,g7,gm,_,_,_⟩:=bf
 refine nv ⟨[U,r,pos,Q,d,(A0.length:Int),(As.length:Int),c,R,j,1,2,3,(As.length:Int),aA,ab,aU,aQ,ap,aw,aF],[[110],[116],[99]],[B,A0,As,As,a3,aL],[]⟩ ?_
 obtain ⟨_,⟨bC,a8,rfl,kB,ka,kJ⟩,gU⟩:=Lr hB hl aU aQ ap aw 0 1 a3
 refine ch gU ?_
 refine nv ⟨[U,r,pos,Q,d,(A0.length:Int),(As.length:Int),c,R,j,1,2,3,(As.length:Int),aA,ab,aU,aQ,ap,aw,aF,bC,a8],[[110],[116],[99]],[B,A0,As,As,a3,aL],[]⟩ ?_
 refine eq (bC%4) 0 (fun fI=>?_) fun fI=>?_
 ·obtain ⟨_,⟨dg,cZ,cn,cW,bI,bn,db,bM,rfl,iI,jn,hK,je⟩,fG⟩:=Jj (bf.Fv ap aw) 3 3 a8
  refine ch fG ?_
  refine nv ⟨[U,r,pos,Q,d,(A0.length:Int),(As.length:Int),c,R,j,1,2,3,(As.length:Int),aA,ab,aU,aQ,ap,aw,aF,bC,a8,dg,cZ,cn,cW,bI,bn],[[110],[116],[99],db],[B,A0,As,As,a3,aL,bM],[]⟩ ?_
  obtain ⟨_,⟨d0,du,dC,d4,dS,b7,ez,eG,d2,cP,bZ,rfl,eW,kx,jx,jG,ji⟩,gj⟩:=Ou 0 0 3 U bn aQ ap aw 0 1 B a3 (MS.mv (MS.wide (M':=20000) bf ⟨by omega,by omega⟩))
  refine ch gj ?_
  have ⟨_,_,jo,kN,kM,kd,kV,iJ,_,_,_⟩:=eW
  refine nv ⟨[U,r,pos,Q,d,(A0.length:Int),(As.length:Int),c,R,j,1,2,3,(As.length:Int),aA,ab,aU,aQ,ap,aw,aF,bC,a8,dg,cZ,cn,cW,bI,bn,d0,du,dC,d4,dS,b7,0,0,ez],[[110],[116],[99],db,eG,d2],[B,A0,As,As,a3,aL,bM,cP,bZ,[],[]],[]⟩ ?_
  refine dL [Bh 9 0 0 0 [] 0 0 0 [] 0 [] 0 0 0 [] 0 [] [] []] (fun e4 fD=>?_)
  have gC:=cL fD;try simp only [lA,lC,lN,lT']at gC
  refine ll 1 e4 ?_
  refine fr ?_
  refine ll bI bM ?_
  refine ll d0 cP ?_
  refine ll b7 bZ ?_
  refine ll 0 [] ?_
  refine ll 0 [] ?_
  refine dL (aL++[Bh 5 0 0 0 [] dg cZ cn db cW bM 0 0 0 [] 0 [] e4 [],Bh 3 0 0 0 eG 5 17 0 [] 0 cP du dC d4 d2 dS bZ [] []]) (fun eo fk=>?_) (BG (pw aF aL) pe)
  have g5:=cL fk;try simp only [lA,lC,lN,lT']at g5
  refine F8 (eo.length:Int) 1048576 ?_
  refine de [] ?_
  refine ll 0 [] ?_
  refine fr ?_
  exact Aj ⟨[(g:Int),c,5,3,0,(eo.length:Int)],[],[A0,As,[],eo],[]⟩ (⟨_,_,_,_,_,_,_,_,_,_,rfl,(by subst_vars;first|exact B3.a hg ‹_› (by first|exact Ak.of ‹_› ‹_›|exact Ak.nil|exact Ak.plus ‹_› ‹_› ‹_› ‹_›|exact Ak.BX ‹_› ‹_›) (by omega) |exact B3.b hg ‹_› rfl ‹_› (by first|exact Ak.of ‹_› ‹_›|exact Ak.nil|exact Ak.plus ‹_› ‹_› ‹_› ‹_›|exact Ak.BX ‹_› ‹_›) (by omega)),kn,kn,kn,kn⟩)
 refine de [] ?_
 refine ll 0 [] ?_
 refine ll aF aL ?_
 refine fr ?_
 exact Aj ⟨[(g:Int),c,5,3,0,aF],[],[A0,As,[],aL],[]⟩ (⟨_,_,_,_,_,_,_,_,_,_,rfl,(by subst_vars;first|exact B3.a hg ‹_› (by first|exact Ak.of ‹_› ‹_›|exact Ak.nil|exact Ak.plus ‹_› ‹_› ‹_› ‹_›|exact Ak.BX ‹_› ‹_›) (by omega) |exact B3.b hg ‹_› rfl ‹_› (by first|exact Ak.of ‹_› ‹_›|exact Ak.nil|exact Ak.plus ‹_› ‹_› ‹_› ‹_›|exact Ak.BX ‹_› ‹_›) (by omega)),kn,kn,kn,kn⟩)
theorem c_4:K_4 4:=by
 intro o B hB hl h
 refine .of (t:=Xr) rfl ?_
 unfold Xr
 obtain ⟨_,⟨c,d,rfl,j,v,k⟩,u⟩:=c_5 hB hl 0 0 0 0 0
 refine ch u ?_
 refine nv ⟨[o,c,d],[],[B],[]⟩ ?_
 refine eq (c%5) 0 (fun x=>?_) fun x=>?_
 ·exact w_4 hB hl 4 (by decide) c d (by omega) h
 refine eq (c%5) 1 (fun g=>?_) fun g=>?_
 ·exact w_4 hB hl 1 (by decide) c d (by omega) h
 refine eq (c%5) 2 (fun y=>?_) fun y=>?_
 ·exact w_4 hB hl 2 (by decide) c d (by omega) h
 refine eq (c%5) 3 (fun q=>?_) fun q=>?_
 ·exact w_4 hB hl 8 (by decide) c d (by omega) h
 refine BL (c%5) 4 ?_
 exact w_4 hB hl 6 (by decide) c d (by omega) h
end Go.Proofs.YtbmofjdmgjpfoaaGreatDoor.Am
end
