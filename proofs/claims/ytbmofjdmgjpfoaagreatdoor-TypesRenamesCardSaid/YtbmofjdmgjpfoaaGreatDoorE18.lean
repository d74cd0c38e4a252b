/- Part 18 of the proof of TypesRenames. -/
import Derived.Test.YtbmofjdmgjpfoaaGreatDoorE11
import Derived.Test.YtbmofjdmgjpfoaaGreatDoorE17
set_option linter.all false
section
set_option maxHeartbeats 40000000
set_option maxRecDepth 100000
namespace Go.Proofs.YtbmofjdmgjpfoaaGreatDoor.Am
open Go.AM Go.AM.K
def K_4 (N:Nat):Prop:=∀{u:Int} {B:Rs} (hB:Dy B) (hl:u=B.length) (h:u≤140737488355328:=by exact kn),Ok trees N ⟨[u],[],[B],[]⟩ fun A=>(∃(z g o pl' k j:Int),∃(c y d x:Rs),A=(0,(⟨[z,g,o,pl',k,j],[],[c,y,d,x],[]⟩:Ah))∧(B7 z g c y d x)∧(o=c.length)∧(pl'=y.length)∧(k=d.length)∧(j=x.length))
theorem w_4 {Z:Int} {B:Rs} (hB:Dy B) (hl:Z=B.length) (g:Nat) (hg:(g:Int)=4∨(g:Int)=1∨(g:Int)=2∨(g:Int)=8∨(g:Int)=6) (r pos:Int) (hp:0≤pos∧pos≤1) (lB:Z≤140737488355328):W trees (fun zz=>(∃(g' et e2 pl' e0 e9:Int),∃(eN P' eD R':Rs),zz=(0,(⟨[g',et,e2,pl',e0,e9],[],[eN,P',eD,R'],[]⟩:Ah))∧(B7 g' et eN P' eD R')∧(e2=eN.length)∧(pl'=P'.length)∧(e0=eD.length)∧(e9=R'.length))) (X_4 g) ⟨[Z,r,pos],[],[B],[]⟩:=by
 have ly:G 3=40:=rfl;have lz:G 2=12:=rfl
 unfold X_4
 obtain ⟨_,⟨U,d,rfl,lf,k8,k7⟩,G1⟩:=c_5 hB hl pos 0 0 0 0
 refine ch G1 ?_
 refine nv ⟨[Z,r,pos,U,d],[],[B],[]⟩ ?_
 refine de Ax ?_
 refine ll 5 Ax ?_
 refine fr ?_
 refine de As ?_
 refine ll 3 As ?_
 refine fr ?_
 obtain ⟨_,⟨c,rfl,lj⟩,G2⟩:=c_6 (U%3) 0 0 Z d 0 0 (g:Int) 1 5 3 B Ax As (by exact ⟨.inl rfl,by omega⟩)
 refine ch G2 ?_
 refine nv ⟨[Z,r,pos,U,d,(Ax.length:Int),(As.length:Int),c],[],[B,Ax,As],[]⟩ ?_
 obtain ⟨_,⟨X,j,rfl,ld,lp,lc⟩,G3⟩:=c_5 hB hl d 0 0 0 0
 refine ch G3 ?_
 refine nv ⟨[Z,r,pos,U,d,(Ax.length:Int),(As.length:Int),c,X,j],[],[B,Ax,As],[]⟩ ?_
 refine eq (X%3) 0 (fun t4=>?_) fun t4=>?_
 ·obtain ⟨_,(⟨am,ah,R,N,J,A,aj,ae,an,ab,M,o,x,z,az,rfl,hJ,k2,h9,kg,jM,ku,iJ⟩|⟨ak,ai,C,Q,H,P,al,af,ao,O,aa,D,u,y,k,aB,rfl,kE,ii,k0,il,ie,jK,i7,j8,iV⟩),G5⟩:=c_7 hB hl j 0 0 0 0
  ·refine ch G5 ?_
   refine nv ⟨[Z,r,pos,U,d,(Ax.length:Int),(As.length:Int),c,X,j,am,ah,R,N,J,A,aj,ae,an,ab],[M],[B,Ax,As,o,x,z,az],[]⟩ ?_
   refine el (j':=0) rfl ?_
   refine el (j':=1) rfl ?_
   refine el (j':=2) rfl ?_
   refine de As ?_
   refine ll 3 As ?_
   obtain ⟨_,⟨Us,ag,rfl,li,lr,la⟩,G6⟩:=Ma hB hl ae 3 0 12 1 1 As
   refine ch G6 ?_
   refine nv ⟨[Z,r,pos,U,d,(Ax.length:Int),(As.length:Int),c,X,j,am,ah,R,N,J,A,aj,ae,an,ab,1,2,3,(As.length:Int),Us,ag],[M,[110],[116],[99]],[B,Ax,As,o,x,z,az,As],[]⟩ ?_
   refine ll am o ?_
   refine ll ah x ?_
   refine ll aj z ?_
   refine de [hrow o x R N J M A z] ?_
   refine ll 1 [hrow o x R N J M A z] ?_
   refine fr ?_
   have aZ:=MS.Ud (call:=1) (pos:=ag) (count:=0) hB hl om om om
   obtain ⟨_,(⟨rfl,ij⟩|⟨aX,aE,aW,a1,rfl,bI,hS,j6,kf,kN,ji,hO⟩|⟨lw,a0,a4,ax,aD,aV,bd,aY,rfl,bQ,jh,kW,hR,kF,kJ,i6,ja,j7,iS⟩),G7⟩:=AlZ (1+(Us%8)) 0 0 Z ag 3 0 12 (g:Int) c 5 3 1 B Ax As [hrow o x R N J M A z] As (MS.mv aZ)
   ·refine ch G7 ?_
    refine nv ⟨[Z,r,pos,U,d,(Ax.length:Int),(As.length:Int),c,X,j,am,ah,R,N,J,A,aj,ae,an,ab,1,2,3,(As.length:Int),Us,ag,([hrow o x R N J M A z].length:Int)],[M,[110],[116],[99]],[B,Ax,As,o,x,z,az,As,[hrow o x R N J M A z]],[]⟩ ?_
    obtain ⟨_,⟨dC,be,rfl,k9,lg,lu⟩,G8⟩:=Ma hB hl ag 3 0 12 1 1 As
    refine ch G8 ?_
    refine nv ⟨[Z,r,pos,U,d,(Ax.length:Int),(As.length:Int),c,X,j,am,ah,R,N,J,A,aj,ae,an,ab,1,2,3,(As.length:Int),Us,ag,([hrow o x R N J M A z].length:Int),dC,be],[M,[110],[116],[99]],[B,Ax,As,o,x,z,az,As,[hrow o x R N J M A z]],[]⟩ ?_
    refine eq (dC%4) 0 (fun t9=>?_) fun t9=>?_
    ·obtain ⟨_,⟨cN,cr,cB,dh,bz,bq,cC,b1,rfl,kh,io,kt,jA⟩,gG⟩:=J3 (aZ.FC 0 12) 3 3 be
     refine ch gG ?_
     refine nv ⟨[Z,r,pos,U,d,(Ax.length:Int),(As.length:Int),c,X,j,am,ah,R,N,J,A,aj,ae,an,ab,1,2,3,(As.length:Int),Us,ag,([hrow o x R N J M A z].length:Int),dC,be,cN,cr,cB,dh,bz,bq],[M,[110],[116],[99],cC],[B,Ax,As,o,x,z,az,As,[hrow o x R N J M A z],b1],[]⟩ ?_
     obtain ⟨_,⟨du,dl,dj,dy,d7,b7,ez,eJ,dG,cj,bU,rfl,eX,kz,ic,kG,hY⟩,fU⟩:=OQ 0 0 3 Z bq 3 0 12 1 1 B As (MS.mv (MS.wide (M':=20000) aZ ⟨by omega,by omega⟩))
     refine ch fU ?_
     have ⟨_,_,iT,jV,kK,iQ,hW,kQ,_,_,_⟩:=eX
     refine nv ⟨[Z,r,pos,U,d,(Ax.length:Int),(As.length:Int),c,X,j,am,ah,R,N,J,A,aj,ae,an,ab,1,2,3,(As.length:Int),Us,ag,([hrow o x R N J M A z].length:Int),dC,be,cN,cr,cB,dh,bz,bq,du,dl,dj,dy,d7,b7,0,0,ez],[M,[110],[116],[99],cC,eJ,dG],[B,Ax,As,o,x,z,az,As,[hrow o x R N J M A z],b1,cj,bU,[],[]],[]⟩ ?_
     refine dL [AZ 9 0 0 0 [] 0 0 0 [] 0 [] 0 0 0 [] 0 [] [] []] (fun fb hk=>?_)
     have gy:=cL hk;try simp only [lA,lC,lN,lT']at gy
     refine ll 1 fb ?_
     refine fr ?_
     refine ll bz b1 ?_
     refine ll du cj ?_
     refine ll b7 bU ?_
     refine ll 0 [] ?_
     refine ll 0 [] ?_
     refine dL [AZ 5 0 0 0 [] cN cr cB cC dh b1 0 0 0 [] 0 [] fb [],AZ 3 0 0 0 eJ 5 17 0 [] 0 cj dl dj dy dG d7 bU [] []] (fun e3 fN=>?_)
     have f1:=cL fN;try simp only [lA,lC,lN,lT']at f1
     refine ll 2 e3 ?_
     refine fr ?_
     exact Ai ⟨[(g:Int),c,5,3,1,2],[],[Ax,As,[hrow o x R N J M A z],e3],[]⟩ (⟨_,_,_,_,_,_,_,_,_,_,rfl,(by subst_vars;first|exact B7.a hg ‹_› (by first|exact Aj.of ‹_› ‹_›|exact Aj.nil|exact Aj.plus ‹_› ‹_› ‹_› ‹_›|exact Aj.BU ‹_› ‹_›) om|exact B7.b hg ‹_› rfl ‹_› (by first|exact Aj.of ‹_› ‹_›|exact Aj.nil|exact Aj.plus ‹_› ‹_› ‹_› ‹_›|exact Aj.BU ‹_› ‹_›) om),kn,kn,kn,kn⟩)
    refine de [] ?_
    refine ll 0 [] ?_
    exact Ai ⟨[(g:Int),c,5,3,1,0],[],[Ax,As,[hrow o x R N J M A z],[]],[]⟩ (⟨_,_,_,_,_,_,_,_,_,_,rfl,(by subst_vars;first|exact B7.a hg ‹_› (by first|exact Aj.of ‹_› ‹_›|exact Aj.nil|exact Aj.plus ‹_› ‹_› ‹_› ‹_›|exact Aj.BU ‹_› ‹_›) om|exact B7.b hg ‹_› rfl ‹_› (by first|exact Aj.of ‹_› ‹_›|exact Aj.nil|exact Aj.plus ‹_› ‹_› ‹_› ‹_›|exact Aj.BU ‹_› ‹_›) om),kn,kn,kn,kn⟩)
   ·refine cm G7 ?_
    refine ch G7 ?_
    have ⟨_,_,kB,iM,im,ih,h5,jd,_,_,_⟩:=bI
    refine nv ⟨[Z,r,pos,U,d,(Ax.length:Int),(As.length:Int),c,X,j,am,ah,R,N,J,A,aj,ae,an,ab,1,2,3,(As.length:Int),Us,ag,([hrow o x R N J M A z].length:Int),aX,aE,aW],[M,[110],[116],[99]],[B,Ax,As,o,x,z,az,As,[hrow o x R N J M A z],a1],[]⟩ ?_
    obtain ⟨_,⟨bW,a6,rfl,j9,jD,iE⟩,fR⟩:=Ma hB hl aX 3 0 aE 1 1 As
    refine ch fR ?_
    refine nv ⟨[Z,r,pos,U,d,(Ax.length:Int),(As.length:Int),c,X,j,am,ah,R,N,J,A,aj,ae,an,ab,1,2,3,(As.length:Int),Us,ag,([hrow o x R N J M A z].length:Int),aX,aE,aW,bW,a6],[M,[110],[116],[99]],[B,Ax,As,o,x,z,az,As,[hrow o x R N J M A z],a1],[]⟩ ?_
    refine eq (bW%4) 0 (fun ht=>?_) fun ht=>?_
    ·obtain ⟨_,⟨KX,cz,cS,c4,b6,bo,cV,bJ,rfl,ju,iR,jT,js⟩,fL⟩:=J3 (bI.FC 0 aE) 3 3 a6
     refine ch fL ?_
     refine nv ⟨[Z,r,pos,U,d,(Ax.length:Int),(As.length:Int),c,X,j,am,ah,R,N,J,A,aj,ae,an,ab,1,2,3,(As.length:Int),Us,ag,([hrow o x R N J M A z].length:Int),aX,aE,aW,bW,a6,KX,cz,cS,c4,b6,bo],[M,[110],[116],[99],cV],[B,Ax,As,o,x,z,az,As,[hrow o x R N J M A z],a1,bJ],[]⟩ ?_
     obtain ⟨_,⟨dk,dP,dW,eh,dX,b8,es,ek,d2,cZ,bC,rfl,eV,kC,hX,hP,hM⟩,f8⟩:=OQ 0 0 3 Z bo 3 0 aE 1 1 B As (MS.mv (MS.wide (M':=20000) bI ⟨by omega,by omega⟩))
     refine ch f8 ?_
     have ⟨_,_,kR,iA,ib,kU,i8,jq,_,_,_⟩:=eV
     refine nv ⟨[Z,r,pos,U,d,(Ax.length:Int),(As.length:Int),c,X,j,am,ah,R,N,J,A,aj,ae,an,ab,1,2,3,(As.length:Int),Us,ag,([hrow o x R N J M A z].length:Int),aX,aE,aW,bW,a6,KX,cz,cS,c4,b6,bo,dk,dP,dW,eh,dX,b8,0,0,es],[M,[110],[116],[99],cV,ek,d2],[B,Ax,As,o,x,z,az,As,[hrow o x R N J M A z],a1,bJ,cZ,bC,[],[]],[]⟩ ?_
     refine dL [AZ 9 0 0 0 [] 0 0 0 [] 0 [] 0 0 0 [] 0 [] [] []] (fun e1 gY=>?_)
     have g4:=cL gY;try simp only [lA,lC,lN,lT']at g4
     refine ll 1 e1 ?_
     refine fr ?_
     refine ll b6 bJ ?_
     refine ll dk cZ ?_
     refine ll b8 bC ?_
     refine ll 0 [] ?_
     refine ll 0 [] ?_
     refine dL (a1++[AZ 5 0 0 0 [] KX cz cS cV c4 bJ 0 0 0 [] 0 [] e1 [],AZ 3 0 0 0 ek 5 17 0 [] 0 cZ dP dW eh d2 dX bC [] []]) (fun eI fo=>?_) (BC (pw aW a1) pe)
     have hx:=cL fo;try simp only [lA,lC,lN,lT']at hx
     refine FM (eI.length:Int) 1048576 ?_
     refine fr ?_
     exact Ai ⟨[(g:Int),c,5,3,1,(eI.length:Int)],[],[Ax,As,[hrow o x R N J M A z],eI],[]⟩ (⟨_,_,_,_,_,_,_,_,_,_,rfl,(by subst_vars;first|exact B7.a hg ‹_› (by first|exact Aj.of ‹_› ‹_›|exact Aj.nil|exact Aj.plus ‹_› ‹_› ‹_› ‹_›|exact Aj.BU ‹_› ‹_›) om|exact B7.b hg ‹_› rfl ‹_› (by first|exact Aj.of ‹_› ‹_›|exact Aj.nil|exact Aj.plus ‹_› ‹_› ‹_› ‹_›|exact Aj.BU ‹_› ‹_›) om),kn,kn,kn,kn⟩)
    refine ll aW a1 ?_
    refine fr ?_
    exact Ai ⟨[(g:Int),c,5,3,1,aW],[],[Ax,As,[hrow o x R N J M A z],a1],[]⟩ (⟨_,_,_,_,_,_,_,_,_,_,rfl,(by subst_vars;first|exact B7.a hg ‹_› (by first|exact Aj.of ‹_› ‹_›|exact Aj.nil|exact Aj.plus ‹_› ‹_› ‹_› ‹_›|exact Aj.BU ‹_› ‹_›) om|exact B7.b hg ‹_› rfl ‹_› (by first|exact Aj.of ‹_› ‹_›|exact Aj.nil|exact Aj.plus ‹_› ‹_› ‹_› ‹_›|exact Aj.BU ‹_› ‹_›) om),kn,kn,kn,kn⟩)
   refine cm G7 ?_
   refine cm G7 ?_
   refine ch G7 ?_
   have ⟨_,_,i1,hT,jW,jB,h4,jb,_,_,_⟩:=bQ
   refine nv ⟨[Z,r,pos,U,d,(Ax.length:Int),(As.length:Int),c,X,j,am,ah,R,N,J,A,aj,ae,an,ab,1,2,3,(As.length:Int),Us,ag,([hrow o x R N J M A z].length:Int),a0,a4,ax,aD,aV],[M,[110],[116],[99]],[B,Ax,As,o,x,z,az,As,[hrow o x R N J M A z],bd,aY],[]⟩ ?_
   obtain ⟨_,⟨bG,a7,rfl,jI,kr,kv⟩,g0⟩:=Ma hB hl a0 a4 ax aD 1 1 bd
   refine ch g0 ?_
   refine nv ⟨[Z,r,pos,U,d,(Ax.length:Int),(As.length:Int),c,X,j,am,ah,R,N,J,A,aj,ae,an,ab,1,2,3,(As.length:Int),Us,ag,([hrow o x R N J M A z].length:Int),a0,a4,ax,aD,aV,bG,a7],[M,[110],[116],[99]],[B,Ax,As,o,x,z,az,As,[hrow o x R N J M A z],bd,aY],[]⟩ ?_
   refine eq (bG%4) 0 (fun gE=>?_) fun gE=>?_
   ·obtain ⟨_,⟨ct,cv,cH,c6,bF,bn,dc,bX,rfl,kI,jf,hI,k5⟩,gR⟩:=J3 (bQ.FC ax aD) 3 3 a7
    refine ch gR ?_
    refine nv ⟨[Z,r,pos,U,d,(Ax.length:Int),(As.length:Int),c,X,j,am,ah,R,N,J,A,aj,ae,an,ab,1,2,3,(As.length:Int),Us,ag,([hrow o x R N J M A z].length:Int),a0,a4,ax,aD,aV,bG,a7,ct,cv,cH,c6,bF,bn],[M,[110],[116],[99],dc],[B,Ax,As,o,x,z,az,As,[hrow o x R N J M A z],bd,aY,bX],[]⟩ ?_
    obtain ⟨_,⟨ed,dJ,dK,dI,di,cg,ep,eF,dE,cq,bY,rfl,eT,kL,h7,jv,hN⟩,gI⟩:=OQ 0 0 3 Z bn a4 ax aD 1 1 B bd (MS.mv (MS.wide (M':=20000) bQ ⟨by omega,by omega⟩))
    refine ch gI ?_
    have ⟨_,_,kx,jw,hZ,ia,hH,kT,_,_,_⟩:=eT
    refine nv ⟨[Z,r,pos,U,d,(Ax.length:Int),(As.length:Int),c,X,j,am,ah,R,N,J,A,aj,ae,an,ab,1,2,3,(As.length:Int),Us,ag,([hrow o x R N J M A z].length:Int),a0,a4,ax,aD,aV,bG,a7,ct,cv,cH,c6,bF,bn,ed,dJ,dK,dI,di,cg,0,0,ep],[M,[110],[116],[99],dc,eF,dE],[B,Ax,As,o,x,z,az,As,[hrow o x R N J M A z],bd,aY,bX,cq,bY,[],[]],[]⟩ ?_
    refine dL [AZ 9 0 0 0 [] 0 0 0 [] 0 [] 0 0 0 [] 0 [] [] []] (fun e8 gh=>?_)
    have gV:=cL gh;try simp only [lA,lC,lN,lT']at gV
    refine ll 1 e8 ?_
    refine fr ?_
    refine ll bF bX ?_
    refine ll ed cq ?_
    refine ll cg bY ?_
    refine ll 0 [] ?_
    refine ll 0 [] ?_
    refine dL (aY++[AZ 5 0 0 0 [] ct cv cH dc c6 bX 0 0 0 [] 0 [] e8 [],AZ 3 0 0 0 eF 5 17 0 [] 0 cq dJ dK dI dE di bY [] []]) (fun en fA=>?_) (BC (pw aV aY) pe)
    have g9:=cL fA;try simp only [lA,lC,lN,lT']at g9
    refine FM (en.length:Int) 1048576 ?_
    refine fr ?_
    exact Ai ⟨[(g:Int),c,5,3,1,(en.length:Int)],[],[Ax,As,[hrow o x R N J M A z],en],[]⟩ (⟨_,_,_,_,_,_,_,_,_,_,rfl,(by subst_vars;first|exact B7.a hg ‹_› (by first|exact Aj.of ‹_› ‹_›|exact Aj.nil|exact Aj.plus ‹_› ‹_› ‹_› ‹_›|exact Aj.BU ‹_› ‹_›) om|exact B7.b hg ‹_› rfl ‹_› (by first|exact Aj.of ‹_› ‹_›|exact Aj.nil|exact Aj.plus ‹_› ‹_› ‹_› ‹_›|exact Aj.BU ‹_› ‹_›) om),kn,kn,kn,kn⟩)
   refine ll aV aY ?_
   refine fr ?_
   exact Ai ⟨[(g:Int),c,5,3,1,aV],[],[Ax,As,[hrow o x R N J M A z],aY],[]⟩ (⟨_,_,_,_,_,_,_,_,_,_,rfl,(by subst_vars;first|exact B7.a hg ‹_› (by first|exact Aj.of ‹_› ‹_›|exact Aj.nil|exact Aj.plus ‹_› ‹_› ‹_› ‹_›|exact Aj.BU ‹_› ‹_›) om|exact B7.b hg ‹_› rfl ‹_› (by first|exact Aj.of ‹_› ‹_›|exact Aj.nil|exact Aj.plus ‹_› ‹_› ‹_› ‹_›|exact Aj.BU ‹_› ‹_›) om),kn,kn,kn,kn⟩)
  refine cm G5 ?_
  refine ch G5 ?_
  refine nv ⟨[Z,r,pos,U,d,(Ax.length:Int),(As.length:Int),c,X,j,ak,ai,C,Q,H,P,al,af,ao,O,aa],[D],[B,Ax,As,u,y,k,aB],[]⟩ ?_
  refine el (j':=0) rfl ?_
  refine el (j':=1) rfl ?_
  refine el (j':=2) rfl ?_
  refine de As ?_
  refine ll 3 As ?_
  obtain ⟨_,⟨aA,ad,rfl,h8,iH,h1⟩,gJ⟩:=Ma hB hl af 3 O 12 1 1 As
  refine ch gJ ?_
  refine nv ⟨[Z,r,pos,U,d,(Ax.length:Int),(As.length:Int),c,X,j,ak,ai,C,Q,H,P,al,af,ao,O,aa,1,2,3,(As.length:Int),aA,ad],[D,[110],[116],[99]],[B,Ax,As,u,y,k,aB,As],[]⟩ ?_
  refine ll ak u ?_
  refine ll ai y ?_
  refine ll al k ?_
  refine de [hrow u y C Q H D P k] ?_
  refine ll 1 [hrow u y C Q H D P k] ?_
  refine fr ?_
  have aZ:=MS.Ud (call:=1) (pos:=ad) (count:=O) hB hl om om om
  obtain ⟨_,(⟨rfl,hh⟩|⟨aU,ay,aI,aM,rfl,bm,hE,fB,ga,fq,gN,fY⟩|⟨jN,aQ,aP,ap,au,aH,a2,aL,rfl,bf,gv,gF,gm,hz,g8,fO,fD,hi,ho⟩),bw⟩:=AlZ (1+(aA%8)) 0 0 Z ad 3 O 12 (g:Int) c 5 3 1 B Ax As [hrow u y C Q H D P k] As (MS.mv aZ)
  ·refine ch bw ?_
   refine nv ⟨[Z,r,pos,U,d,(Ax.length:Int),(As.length:Int),c,X,j,ak,ai,C,Q,H,P,al,af,ao,O,aa,1,2,3,(As.length:Int),aA,ad,([hrow u y C Q H D P k].length:Int)],[D,[110],[116],[99]],[B,Ax,As,u,y,k,aB,As,[hrow u y C Q H D P k]],[]⟩ ?_
   obtain ⟨_,⟨bN,bb,rfl,kj,jS,jU⟩,fZ⟩:=Ma hB hl ad 3 O 12 1 1 As
   refine ch fZ ?_
   refine nv ⟨[Z,r,pos,U,d,(Ax.length:Int),(As.length:Int),c,X,j,ak,ai,C,Q,H,P,al,af,ao,O,aa,1,2,3,(As.length:Int),aA,ad,([hrow u y C Q H D P k].length:Int),bN,bb],[D,[110],[116],[99]],[B,Ax,As,u,y,k,aB,As,[hrow u y C Q H D P k]],[]⟩ ?_
   refine eq (bN%4) 0 (fun g7=>?_) fun g7=>?_
   ·obtain ⟨_,⟨dd,co,cM,c3,bR,bp,cR,bx,rfl,jF,kH,jC,iz⟩,hq⟩:=J3 (aZ.FC O 12) 3 3 bb
    refine ch hq ?_
    refine nv ⟨[Z,r,pos,U,d,(Ax.length:Int),(As.length:Int),c,X,j,ak,ai,C,Q,H,P,al,af,ao,O,aa,1,2,3,(As.length:Int),aA,ad,([hrow u y C Q H D P k].length:Int),bN,bb,dd,co,cM,c3,bR,bp],[D,[110],[116],[99],cR],[B,Ax,As,u,y,k,aB,As,[hrow u y C Q H D P k],bx],[]⟩ ?_
    obtain ⟨_,⟨ea,dH,dU,d0,dN,cc,eA,eO,d9,cY,bD,rfl,eU,iD,jE,km,kw⟩,fJ⟩:=OQ 0 0 3 Z bp 3 O 12 1 1 B As (MS.mv (MS.wide (M':=20000) aZ ⟨by omega,by omega⟩))
    refine ch fJ ?_
    have ⟨_,_,jO,j5,ip,k1,h6,hL,_,_,_⟩:=eU
    refine nv ⟨[Z,r,pos,U,d,(Ax.length:Int),(As.length:Int),c,X,j,ak,ai,C,Q,H,P,al,af,ao,O,aa,1,2,3,(As.length:Int),aA,ad,([hrow u y C Q H D P k].length:Int),bN,bb,dd,co,cM,c3,bR,bp,ea,dH,dU,d0,dN,cc,0,0,eA],[D,[110],[116],[99],cR,eO,d9],[B,Ax,As,u,y,k,aB,As,[hrow u y C Q H D P k],bx,cY,bD,[],[]],[]⟩ ?_
    refine dL [AZ 9 0 0 0 [] 0 0 0 [] 0 [] 0 0 0 [] 0 [] [] []] (fun e4 gT=>?_)
    have gS:=cL gT;try simp only [lA,lC,lN,lT']at gS
    refine ll 1 e4 ?_
    refine fr ?_
    refine ll bR bx ?_
    refine ll ea cY ?_
    refine ll cc bD ?_
    refine ll 0 [] ?_
    refine ll 0 [] ?_
    refine dL [AZ 5 0 0 0 [] dd co cM cR c3 bx 0 0 0 [] 0 [] e4 [],AZ 3 0 0 0 eO 5 17 0 [] 0 cY dH dU d0 d9 dN bD [] []] (fun fa gz=>?_)
    have fF:=cL gz;try simp only [lA,lC,lN,lT']at fF
    refine ll 2 fa ?_
    refine fr ?_
    exact Ai ⟨[(g:Int),c,5,3,1,2],[],[Ax,As,[hrow u y C Q H D P k],fa],[]⟩ (⟨_,_,_,_,_,_,_,_,_,_,rfl,(by subst_vars;first|exact B7.a hg ‹_› (by first|exact Aj.of ‹_› ‹_›|exact Aj.nil|exact Aj.plus ‹_› ‹_› ‹_› ‹_›|exact Aj.BU ‹_› ‹_›) om|exact B7.b hg ‹_› rfl ‹_› (by first|exact Aj.of ‹_› ‹_›|exact Aj.nil|exact Aj.plus ‹_› ‹_› ‹_› ‹_›|exact Aj.BU ‹_› ‹_›) om),kn,kn,kn,kn⟩)
   refine de [] ?_
   refine ll 0 [] ?_
   exact Ai ⟨[(g:Int),c,5,3,1,0],[],[Ax,As,[hrow u y C Q H D P k],[]],[]⟩ (⟨_,_,_,_,_,_,_,_,_,_,rfl,(by subst_vars;first|exact B7.a hg ‹_› (by first|exact Aj.of ‹_› ‹_›|exact Aj.nil|exact Aj.plus ‹_› ‹_› ‹_› ‹_›|exact Aj.BU ‹_› ‹_›) om|exact B7.b hg ‹_› rfl ‹_› (by first|exact Aj.of ‹_› ‹_›|exact Aj.nil|exact Aj.plus ‹_› ‹_› ‹_› ‹_›|exact Aj.BU ‹_› ‹_›) om),kn,kn,kn,kn⟩)
  ·refine cm bw ?_
   refine ch bw ?_
   have ⟨_,_,fp,gC,fW,fH,fI,gW,_,_,_⟩:=bm
   refine nv ⟨[Z,r,pos,U,d,(Ax.length:Int),(As.length:Int),c,X,j,ak,ai,C,Q,H,P,al,af,ao,O,aa,1,2,3,(As.length:Int),aA,ad,([hrow u y C Q H D P k].length:Int),aU,ay,aI],[D,[110],[116],[99]],[B,Ax,As,u,y,k,aB,As,[hrow u y C Q H D P k],aM],[]⟩ ?_
   obtain ⟨_,⟨bT,a9,rfl,iF,iZ,iP⟩,gr⟩:=Ma hB hl aU 3 O ay 1 1 As
   refine ch gr ?_
   refine nv ⟨[Z,r,pos,U,d,(Ax.length:Int),(As.length:Int),c,X,j,ak,ai,C,Q,H,P,al,af,ao,O,aa,1,2,3,(As.length:Int),aA,ad,([hrow u y C Q H D P k].length:Int),aU,ay,aI,bT,a9],[D,[110],[116],[99]],[B,Ax,As,u,y,k,aB,As,[hrow u y C Q H D P k],aM],[]⟩ ?_
   refine eq (bT%4) 0 (fun fh=>?_) fun fh=>?_
   ·obtain ⟨_,⟨cO,cD,dg,c7,b5,bi,cT,b0,rfl,jR,j0,jp,iU⟩,fC⟩:=J3 (bm.FC O ay) 3 3 a9
    refine ch fC ?_
    refine nv ⟨[Z,r,pos,U,d,(Ax.length:Int),(As.length:Int),c,X,j,ak,ai,C,Q,H,P,al,af,ao,O,aa,1,2,3,(As.length:Int),aA,ad,([hrow u y C Q H D P k].length:Int),aU,ay,aI,bT,a9,cO,cD,dg,c7,b5,bi],[D,[110],[116],[99],cT],[B,Ax,As,u,y,k,aB,As,[hrow u y C Q H D P k],aM,b0],[]⟩ ?_
    obtain ⟨_,⟨dS,dz,dD,dO,dt,cd,eL,er,d5,c8,bH,rfl,eS,kS,ko,jk,jZ⟩,f5⟩:=OQ 0 0 3 Z bi 3 O ay 1 1 B As (MS.mv (MS.wide (M':=20000) bm ⟨by omega,by omega⟩))
    refine ch f5 ?_
    have ⟨_,_,je,iq,iN,kq,kD,kA,_,_,_⟩:=eS
    refine nv ⟨[Z,r,pos,U,d,(Ax.length:Int),(As.length:Int),c,X,j,ak,ai,C,Q,H,P,al,af,ao,O,aa,1,2,3,(As.length:Int),aA,ad,([hrow u y C Q H D P k].length:Int),aU,ay,aI,bT,a9,cO,cD,dg,c7,b5,bi,dS,dz,dD,dO,dt,cd,0,0,eL],[D,[110],[116],[99],cT,er,d5],[B,Ax,As,u,y,k,aB,As,[hrow u y C Q H D P k],aM,b0,c8,bH,[],[]],[]⟩ ?_
    refine dL [AZ 9 0 0 0 [] 0 0 0 [] 0 [] 0 0 0 [] 0 [] [] []] (fun e5 gx=>?_)
    have gj:=cL gx;try simp only [lA,lC,lN,lT']at gj
    refine ll 1 e5 ?_
    refine fr ?_
    refine ll b5 b0 ?_
    refine ll dS c8 ?_
    refine ll cd bH ?_
    refine ll 0 [] ?_
    refine ll 0 [] ?_
    refine dL (aM++[AZ 5 0 0 0 [] cO cD dg cT c7 b0 0 0 0 [] 0 [] e5 [],AZ 3 0 0 0 er 5 17 0 [] 0 c8 dz dD dO d5 dt bH [] []]) (fun eB gB=>?_) (BC (pw aI aM) pe)
    have fu:=cL gB;try simp only [lA,lC,lN,lT']at fu
    refine FM (eB.length:Int) 1048576 ?_
    refine fr ?_
    exact Ai ⟨[(g:Int),c,5,3,1,(eB.length:Int)],[],[Ax,As,[hrow u y C Q H D P k],eB],[]⟩ (⟨_,_,_,_,_,_,_,_,_,_,rfl,(by subst_vars;first|exact B7.a hg ‹_› (by first|exact Aj.of ‹_› ‹_›|exact Aj.nil|exact Aj.plus ‹_› ‹_› ‹_› ‹_›|exact Aj.BU ‹_› ‹_›) om|exact B7.b hg ‹_› rfl ‹_› (by first|exact Aj.of ‹_› ‹_›|exact Aj.nil|exact Aj.plus ‹_› ‹_› ‹_› ‹_›|exact Aj.BU ‹_› ‹_›) om),kn,kn,kn,kn⟩)
   refine ll aI aM ?_
   refine fr ?_
   exact Ai ⟨[(g:Int),c,5,3,1,aI],[],[Ax,As,[hrow u y C Q H D P k],aM],[]⟩ (⟨_,_,_,_,_,_,_,_,_,_,rfl,(by subst_vars;first|exact B7.a hg ‹_› (by first|exact Aj.of ‹_› ‹_›|exact Aj.nil|exact Aj.plus ‹_› ‹_› ‹_› ‹_›|exact Aj.BU ‹_› ‹_›) om|exact B7.b hg ‹_› rfl ‹_› (by first|exact Aj.of ‹_› ‹_›|exact Aj.nil|exact Aj.plus ‹_› ‹_› ‹_› ‹_›|exact Aj.BU ‹_› ‹_›) om),kn,kn,kn,kn⟩)
  refine cm bw ?_
  refine cm bw ?_
  refine ch bw ?_
  have ⟨_,_,gk,hG,gO,fw,g6,fQ,_,_,_⟩:=bf
  refine nv ⟨[Z,r,pos,U,d,(Ax.length:Int),(As.length:Int),c,X,j,ak,ai,C,Q,H,P,al,af,ao,O,aa,1,2,3,(As.length:Int),aA,ad,([hrow u y C Q H D P k].length:Int),aQ,aP,ap,au,aH],[D,[110],[116],[99]],[B,Ax,As,u,y,k,aB,As,[hrow u y C Q H D P k],a2,aL],[]⟩ ?_
  obtain ⟨_,⟨YO,bc,rfl,iy,k4,ir⟩,hC⟩:=Ma hB hl aQ aP ap au 1 1 a2
  refine ch hC ?_
  refine nv ⟨[Z,r,pos,U,d,(Ax.length:Int),(As.length:Int),c,X,j,ak,ai,C,Q,H,P,al,af,ao,O,aa,1,2,3,(As.length:Int),aA,ad,([hrow u y C Q H D P k].length:Int),aQ,aP,ap,au,aH,YO,bc],[D,[110],[116],[99]],[B,Ax,As,u,y,k,aB,As,[hrow u y C Q H D P k],a2,aL],[]⟩ ?_
  refine eq (YO%4) 0 (fun fT=>?_) fun fT=>?_
  ·obtain ⟨_,⟨cu,c2,cP,cK,bO,bg,cE,bL,rfl,iC,iB,jJ,jQ⟩,fK⟩:=J3 (bf.FC ap au) 3 3 bc
   refine ch fK ?_
   refine nv ⟨[Z,r,pos,U,d,(Ax.length:Int),(As.length:Int),c,X,j,ak,ai,C,Q,H,P,al,af,ao,O,aa,1,2,3,(As.length:Int),aA,ad,([hrow u y C Q H D P k].length:Int),aQ,aP,ap,au,aH,YO,bc,cu,c2,cP,cK,bO,bg],[D,[110],[116],[99],cE],[B,Ax,As,u,y,k,aB,As,[hrow u y C Q H D P k],a2,aL,bL],[]⟩ ?_
   obtain ⟨_,⟨dw,eg,dv,dT,ef,cf,eK,ew,dY,cG,bP,rfl,eQ,hQ,iY,kY,iI⟩,hu⟩:=OQ 0 0 3 Z bg aP ap au 1 1 B a2 (MS.mv (MS.wide (M':=20000) bf ⟨by omega,by omega⟩))
   refine ch hu ?_
   have ⟨_,_,iW,jj,ix,i4,jc,jL,_,_,_⟩:=eQ
   refine nv ⟨[Z,r,pos,U,d,(Ax.length:Int),(As.length:Int),c,X,j,ak,ai,C,Q,H,P,al,af,ao,O,aa,1,2,3,(As.length:Int),aA,ad,([hrow u y C Q H D P k].length:Int),aQ,aP,ap,au,aH,YO,bc,cu,c2,cP,cK,bO,bg,dw,eg,dv,dT,ef,cf,0,0,eK],[D,[110],[116],[99],cE,ew,dY],[B,Ax,As,u,y,k,aB,As,[hrow u y C Q H D P k],a2,aL,bL,cG,bP,[],[]],[]⟩ ?_
   refine dL [AZ 9 0 0 0 [] 0 0 0 [] 0 [] 0 0 0 [] 0 [] [] []] (fun eZ hr=>?_)
   have f9:=cL hr;try simp only [lA,lC,lN,lT']at f9
   refine ll 1 eZ ?_
   refine fr ?_
   refine ll bO bL ?_
   refine ll dw cG ?_
   refine ll cf bP ?_
   refine ll 0 [] ?_
   refine ll 0 [] ?_
   refine dL (aL++[AZ 5 0 0 0 [] cu c2 cP cE cK bL 0 0 0 [] 0 [] eZ [],AZ 3 0 0 0 ew 5 17 0 [] 0 cG eg dv dT dY ef bP [] []]) (fun eE fP=>?_) (BC (pw aH aL) pe)
   have gL:=cL fP;try simp only [lA,lC,lN,lT']at gL
   refine FM (eE.length:Int) 1048576 ?_
   refine fr ?_
   exact Ai ⟨[(g:Int),c,5,3,1,(eE.length:Int)],[],[Ax,As,[hrow u y C Q H D P k],eE],[]⟩ (⟨_,_,_,_,_,_,_,_,_,_,rfl,(by subst_vars;first|exact B7.a hg ‹_› (by first|exact Aj.of ‹_› ‹_›|exact Aj.nil|exact Aj.plus ‹_› ‹_› ‹_› ‹_›|exact Aj.BU ‹_› ‹_›) om|exact B7.b hg ‹_› rfl ‹_› (by first|exact Aj.of ‹_› ‹_›|exact Aj.nil|exact Aj.plus ‹_› ‹_› ‹_› ‹_›|exact Aj.BU ‹_› ‹_›) om),kn,kn,kn,kn⟩)
  refine ll aH aL ?_
  refine fr ?_
  exact Ai ⟨[(g:Int),c,5,3,1,aH],[],[Ax,As,[hrow u y C Q H D P k],aL],[]⟩ (⟨_,_,_,_,_,_,_,_,_,_,rfl,(by subst_vars;first|exact B7.a hg ‹_› (by first|exact Aj.of ‹_› ‹_›|exact Aj.nil|exact Aj.plus ‹_› ‹_› ‹_› ‹_›|exact Aj.BU ‹_› ‹_›) om|exact B7.b hg ‹_› rfl ‹_› (by first|exact Aj.of ‹_› ‹_›|exact Aj.nil|exact Aj.plus ‹_› ‹_› ‹_› ‹_›|exact Aj.BU ‹_› ‹_›) om),kn,kn,kn,kn⟩)
 refine el (j':=0) rfl ?_
 refine el (j':=1) rfl ?_
 refine el (j':=2) rfl ?_
 refine de As ?_
 refine ll 3 As ?_
 obtain ⟨_,⟨aC,ac,rfl,jP,j4,ik⟩,gd⟩:=Ma hB hl j 3 0 12 0 1 As
 refine ch gd ?_
 refine nv ⟨[Z,r,pos,U,d,(Ax.length:Int),(As.length:Int),c,X,j,1,2,3,(As.length:Int),aC,ac],[[110],[116],[99]],[B,Ax,As,As],[]⟩ ?_
 have aZ:=MS.Ud (call:=0) (pos:=ac) (count:=0) hB hl om om om
 obtain ⟨_,(⟨rfl,hD⟩|⟨aO,aw,aF,aK,rfl,bh,fE,gn,gK,hA,fS,hm⟩|⟨jx,aR,aN,aq,av,aG,a3,aJ,rfl,br,gH,gc,gA,gU,f2,f4,gf,hy,ft⟩),bv⟩:=Ap3 (1+(aC%8)) 0 0 Z ac 3 0 12 (g:Int) c 5 3 B Ax As As (MS.mv aZ)
 ·refine ch bv ?_
  refine nv ⟨[Z,r,pos,U,d,(Ax.length:Int),(As.length:Int),c,X,j,1,2,3,(As.length:Int),aC,ac],[[110],[116],[99]],[B,Ax,As,As],[]⟩ ?_
  obtain ⟨_,⟨bK,a5,rfl,jH,i9,kV⟩,f3⟩:=Ma hB hl ac 3 0 12 0 1 As
  refine ch f3 ?_
  refine nv ⟨[Z,r,pos,U,d,(Ax.length:Int),(As.length:Int),c,X,j,1,2,3,(As.length:Int),aC,ac,bK,a5],[[110],[116],[99]],[B,Ax,As,As],[]⟩ ?_
  refine eq (bK%4) 0 (fun gD=>?_) fun gD=>?_
  ·obtain ⟨_,⟨cy,db,cw,cI,bE,bj,c1,bV,rfl,kd,iL,kp,kZ⟩,hv⟩:=J3 (aZ.FC 0 12) 3 3 a5
   refine ch hv ?_
   refine nv ⟨[Z,r,pos,U,d,(Ax.length:Int),(As.length:Int),c,X,j,1,2,3,(As.length:Int),aC,ac,bK,a5,cy,db,cw,cI,bE,bj],[[110],[116],[99],c1],[B,Ax,As,As,bV],[]⟩ ?_
   obtain ⟨_,⟨d6,dZ,dF,dA,ei,cb,eH,ey,dV,cW,bB,rfl,eP,jy,h2,jo,i3⟩,fk⟩:=OQ 0 0 3 Z bj 3 0 12 0 1 B As (MS.mv (MS.wide (M':=20000) aZ ⟨by omega,by omega⟩))
   refine ch fk ?_
   have ⟨_,_,jl,i0,iv,jt,jY,hK,_,_,_⟩:=eP
   refine nv ⟨[Z,r,pos,U,d,(Ax.length:Int),(As.length:Int),c,X,j,1,2,3,(As.length:Int),aC,ac,bK,a5,cy,db,cw,cI,bE,bj,d6,dZ,dF,dA,ei,cb,0,0,eH],[[110],[116],[99],c1,ey,dV],[B,Ax,As,As,bV,cW,bB,[],[]],[]⟩ ?_
   refine dL [AZ 9 0 0 0 [] 0 0 0 [] 0 [] 0 0 0 [] 0 [] [] []] (fun e6 gb=>?_)
   have gu:=cL gb;try simp only [lA,lC,lN,lT']at gu
   refine ll 1 e6 ?_
   refine fr ?_
   refine de [] ?_
   refine ll 0 [] ?_
   refine ll bE bV ?_
   refine ll d6 cW ?_
   refine ll cb bB ?_
   refine ll 0 [] ?_
   refine ll 0 [] ?_
   refine dL [AZ 5 0 0 0 [] cy db cw c1 cI bV 0 0 0 [] 0 [] e6 [],AZ 3 0 0 0 ey 5 17 0 [] 0 cW dZ dF dA dV ei bB [] []] (fun eY fV=>?_)
   have he:=cL fV;try simp only [lA,lC,lN,lT']at he
   refine ll 2 eY ?_
   refine fr ?_
   exact Ai ⟨[(g:Int),c,5,3,0,2],[],[Ax,As,[],eY],[]⟩ (⟨_,_,_,_,_,_,_,_,_,_,rfl,(by subst_vars;first|exact B7.a hg ‹_› (by first|exact Aj.of ‹_› ‹_›|exact Aj.nil|exact Aj.plus ‹_› ‹_› ‹_› ‹_›|exact Aj.BU ‹_› ‹_›) om|exact B7.b hg ‹_› rfl ‹_› (by first|exact Aj.of ‹_› ‹_›|exact Aj.nil|exact Aj.plus ‹_› ‹_› ‹_› ‹_›|exact Aj.BU ‹_› ‹_›) om),kn,kn,kn,kn⟩)
  refine de [] ?_
  refine ll 0 [] ?_
  exact Ai ⟨[(g:Int),c,5,3,0,0],[],[Ax,As,[],[]],[]⟩ (⟨_,_,_,_,_,_,_,_,_,_,rfl,(by subst_vars;first|exact B7.a hg ‹_› (by first|exact Aj.of ‹_› ‹_›|exact Aj.nil|exact Aj.plus ‹_› ‹_› ‹_› ‹_›|exact Aj.BU ‹_› ‹_›) om|exact B7.b hg ‹_› rfl ‹_› (by first|exact Aj.of ‹_› ‹_›|exact Aj.nil|exact Aj.plus ‹_› ‹_› ‹_› ‹_›|exact Aj.BU ‹_› ‹_›) om),kn,kn,kn,kn⟩)
 ·refine cm bv ?_
  refine ch bv ?_
  have ⟨_,_,hw,hF,gi,hj,fm,fg,_,_,_⟩:=bh
  refine nv ⟨[Z,r,pos,U,d,(Ax.length:Int),(As.length:Int),c,X,j,1,2,3,(As.length:Int),aC,ac,aO,aw,aF],[[110],[116],[99]],[B,Ax,As,As,aK],[]⟩ ?_
  obtain ⟨_,⟨YN,ba,rfl,j3,jr,iu⟩,fj⟩:=Ma hB hl aO 3 0 aw 0 1 As
  refine ch fj ?_
  refine nv ⟨[Z,r,pos,U,d,(Ax.length:Int),(As.length:Int),c,X,j,1,2,3,(As.length:Int),aC,ac,aO,aw,aF,YN,ba],[[110],[116],[99]],[B,Ax,As,As,aK],[]⟩ ?_
  refine eq (YN%4) 0 (fun gZ=>?_) fun gZ=>?_
  ·obtain ⟨_,⟨ci,cQ,cx,cp,bS,bk,cJ,bM,rfl,j2,jG,i2,j1⟩,fi⟩:=J3 (bh.FC 0 aw) 3 3 ba
   refine ch fi ?_
   refine nv ⟨[Z,r,pos,U,d,(Ax.length:Int),(As.length:Int),c,X,j,1,2,3,(As.length:Int),aC,ac,aO,aw,aF,YN,ba,ci,cQ,cx,cp,bS,bk],[[110],[116],[99],cJ],[B,Ax,As,As,aK,bM],[]⟩ ?_
   obtain ⟨_,⟨d1,dB,d4,dQ,ec,b9,eu,eG,ee,cA,b4,rfl,eR,iK,ky,h0,iX⟩,gX⟩:=OQ 0 0 3 Z bk 3 0 aw 0 1 B As (MS.mv (MS.wide (M':=20000) bh ⟨by omega,by omega⟩))
   refine ch gX ?_
   have ⟨_,_,jX,ki,h3,jm,jz,k3,_,_,_⟩:=eR
   refine nv ⟨[Z,r,pos,U,d,(Ax.length:Int),(As.length:Int),c,X,j,1,2,3,(As.length:Int),aC,ac,aO,aw,aF,YN,ba,ci,cQ,cx,cp,bS,bk,d1,dB,d4,dQ,ec,b9,0,0,eu],[[110],[116],[99],cJ,eG,ee],[B,Ax,As,As,aK,bM,cA,b4,[],[]],[]⟩ ?_
   refine dL [AZ 9 0 0 0 [] 0 0 0 [] 0 [] 0 0 0 [] 0 [] [] []] (fun e7 gs=>?_)
   have fv:=cL gs;try simp only [lA,lC,lN,lT']at fv
   refine ll 1 e7 ?_
   refine fr ?_
   refine ll bS bM ?_
   refine ll d1 cA ?_
   refine ll b9 b4 ?_
   refine ll 0 [] ?_
   refine ll 0 [] ?_
   refine dL (aK++[AZ 5 0 0 0 [] ci cQ cx cJ cp bM 0 0 0 [] 0 [] e7 [],AZ 3 0 0 0 eG 5 17 0 [] 0 cA dB d4 dQ ee ec b4 [] []]) (fun em fX=>?_) (BC (pw aF aK) pe)
   have f7:=cL fX;try simp only [lA,lC,lN,lT']at f7
   refine FM (em.length:Int) 1048576 ?_
   refine de [] ?_
   refine ll 0 [] ?_
   refine fr ?_
   exact Ai ⟨[(g:Int),c,5,3,0,(em.length:Int)],[],[Ax,As,[],em],[]⟩ (⟨_,_,_,_,_,_,_,_,_,_,rfl,(by subst_vars;first|exact B7.a hg ‹_› (by first|exact Aj.of ‹_› ‹_›|exact Aj.nil|exact Aj.plus ‹_› ‹_› ‹_› ‹_›|exact Aj.BU ‹_› ‹_›) om|exact B7.b hg ‹_› rfl ‹_› (by first|exact Aj.of ‹_› ‹_›|exact Aj.nil|exact Aj.plus ‹_› ‹_› ‹_› ‹_›|exact Aj.BU ‹_› ‹_›) om),kn,kn,kn,kn⟩)
  refine de [] ?_
  refine ll 0 [] ?_
  refine ll aF aK ?_
  refine fr ?_
  exact Ai ⟨[(g:Int),c,5,3,0,aF],[],[Ax,As,[],aK],[]⟩ (⟨_,_,_,_,_,_,_,_,_,_,rfl,(by subst_vars;first|exact B7.a hg ‹_› (by first|exact Aj.of ‹_› ‹_›|exact Aj.nil|exact Aj.plus ‹_› ‹_› ‹_› ‹_›|exact Aj.BU ‹_› ‹_›) om|exact B7.b hg ‹_› rfl ‹_› (by first|exact Aj.of ‹_› ‹_›|exact Aj.nil|exact Aj.plus ‹_› ‹_› ‹_› ‹_›|exact Aj.BU ‹_› ‹_›) om),kn,kn,kn,kn⟩)
 refine cm bv ?_
 refine cm bv ?_
 refine ch bv ?_
 have ⟨_,_,gp,gQ,gg,hn,gw,gl,_,_,_⟩:=br
 refine nv ⟨[Z,r,pos,U,d,(Ax.length:Int),(As.length:Int),c,X,j,1,2,3,(As.length:Int),aC,ac,aR,aN,aq,av,aG],[[110],[116],[99]],[B,Ax,As,As,a3,aJ],[]⟩ ?_
 obtain ⟨_,⟨bZ,a8,rfl,ig,kM,iw⟩,fz⟩:=Ma hB hl aR aN aq av 0 1 a3
 refine ch fz ?_
 refine nv ⟨[Z,r,pos,U,d,(Ax.length:Int),(As.length:Int),c,X,j,1,2,3,(As.length:Int),aC,ac,aR,aN,aq,av,aG,bZ,a8],[[110],[116],[99]],[B,Ax,As,As,a3,aJ],[]⟩ ?_
 refine eq (bZ%4) 0 (fun f6=>?_) fun f6=>?_
 ·obtain ⟨_,⟨cn,cX,c5,cU,b2,bt,cF,b3,rfl,kb,hU,iO,ka⟩,fG⟩:=J3 (br.FC aq av) 3 3 a8
  refine ch fG ?_
  refine nv ⟨[Z,r,pos,U,d,(Ax.length:Int),(As.length:Int),c,X,j,1,2,3,(As.length:Int),aC,ac,aR,aN,aq,av,aG,bZ,a8,cn,cX,c5,cU,b2,bt],[[110],[116],[99],cF],[B,Ax,As,As,a3,aJ,b3],[]⟩ ?_
  obtain ⟨_,⟨dR,eb,dp,d3,dx,ce,eo,eC,dM,c9,bA,rfl,eW,kP,kl,jn,kc⟩,g5⟩:=OQ 0 0 3 Z bt aN aq av 0 1 B a3 (MS.mv (MS.wide (M':=20000) br ⟨by omega,by omega⟩))
  refine ch g5 ?_
  have ⟨_,_,jg,i5,kO,ke,kX,iG,_,_,_⟩:=eW
  refine nv ⟨[Z,r,pos,U,d,(Ax.length:Int),(As.length:Int),c,X,j,1,2,3,(As.length:Int),aC,ac,aR,aN,aq,av,aG,bZ,a8,cn,cX,c5,cU,b2,bt,dR,eb,dp,d3,dx,ce,0,0,eo],[[110],[116],[99],cF,eC,dM],[B,Ax,As,As,a3,aJ,b3,c9,bA,[],[]],[]⟩ ?_
  refine dL [AZ 9 0 0 0 [] 0 0 0 [] 0 [] 0 0 0 [] 0 [] [] []] (fun fc fy=>?_)
  have gP:=cL fy;try simp only [lA,lC,lN,lT']at gP
  refine ll 1 fc ?_
  refine fr ?_
  refine ll b2 b3 ?_
  refine ll dR c9 ?_
  refine ll ce bA ?_
  refine ll 0 [] ?_
  refine ll 0 [] ?_
  refine dL (aJ++[AZ 5 0 0 0 [] cn cX c5 cF cU b3 0 0 0 [] 0 [] fc [],AZ 3 0 0 0 eC 5 17 0 [] 0 c9 eb dp d3 dM dx bA [] []]) (fun eM gM=>?_) (BC (pw aG aJ) pe)
  have fM:=cL gM;try simp only [lA,lC,lN,lT']at fM
  refine FM (eM.length:Int) 1048576 ?_
  refine de [] ?_
  refine ll 0 [] ?_
  refine fr ?_
  exact Ai ⟨[(g:Int),c,5,3,0,(eM.length:Int)],[],[Ax,As,[],eM],[]⟩ (⟨_,_,_,_,_,_,_,_,_,_,rfl,(by subst_vars;first|exact B7.a hg ‹_› (by first|exact Aj.of ‹_› ‹_›|exact Aj.nil|exact Aj.plus ‹_› ‹_› ‹_› ‹_›|exact Aj.BU ‹_› ‹_›) om|exact B7.b hg ‹_› rfl ‹_› (by first|exact Aj.of ‹_› ‹_›|exact Aj.nil|exact Aj.plus ‹_› ‹_› ‹_› ‹_›|exact Aj.BU ‹_› ‹_›) om),kn,kn,kn,kn⟩)
 refine de [] ?_
 refine ll 0 [] ?_
 refine ll aG aJ ?_
 refine fr ?_
 exact Ai ⟨[(g:Int),c,5,3,0,aG],[],[Ax,As,[],aJ],[]⟩ (⟨_,_,_,_,_,_,_,_,_,_,rfl,(by subst_vars;first|exact B7.a hg ‹_› (by first|exact Aj.of ‹_› ‹_›|exact Aj.nil|exact Aj.plus ‹_› ‹_› ‹_› ‹_›|exact Aj.BU ‹_› ‹_›) om|exact B7.b hg ‹_› rfl ‹_› (by first|exact Aj.of ‹_› ‹_›|exact Aj.nil|exact Aj.plus ‹_› ‹_› ‹_› ‹_›|exact Aj.BU ‹_› ‹_›) om),kn,kn,kn,kn⟩)
theorem c_4:K_4 4:=by
 intro k B hB hl h
 refine .of (t:=YA) rfl ?_
 unfold YA
 obtain ⟨_,⟨c,d,rfl,y,A,u⟩,x⟩:=c_5 hB hl 0 0 0 0 0
 refine ch x ?_
 refine nv ⟨[k,c,d],[],[B],[]⟩ ?_
 refine eq (c%5) 0 (fun j=>?_) fun j=>?_
 ·exact w_4 hB hl 4 (by decide) c d om h
 refine eq (c%5) 1 (fun z=>?_) fun z=>?_
 ·exact w_4 hB hl 1 (by decide) c d om h
 refine eq (c%5) 2 (fun g=>?_) fun g=>?_
 ·exact w_4 hB hl 2 (by decide) c d om h
 refine eq (c%5) 3 (fun o=>?_) fun o=>?_
 ·exact w_4 hB hl 8 (by decide) c d om h
 refine BF (c%5) 4 ?_
 exact w_4 hB hl 6 (by decide) c d om h
end Go.Proofs.YtbmofjdmgjpfoaaGreatDoor.Am
end
