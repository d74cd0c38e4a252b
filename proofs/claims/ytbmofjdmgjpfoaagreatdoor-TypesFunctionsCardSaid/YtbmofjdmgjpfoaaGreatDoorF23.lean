/- Part 23 of TypesFunctions. -/
import Derived.Test.YtbmofjdmgjpfoaaGreatDoorF17
import Derived.Test.YtbmofjdmgjpfoaaGreatDoorF20
import Derived.Test.YtbmofjdmgjpfoaaGreatDoorF22
import Derived.Test.YtbmofjdmgjpfoaaGreatDoorF21
set_option linter.all false
namespace Go.Proofs.YtbmofjdmgjpfoaaGreatDoor.Am
section
set_option maxHeartbeats 4000000
set_option maxRecDepth 100000
open Go.AM Go.AM.K
abbrev AlZ:=@AlJ
theorem AkR:AlZ 160:=by
 intro k o t b Q O M J H yk A B v z j q I nm L x X Y N P C h
 refine .of (t:=YK) rfl ?_
 conv=>arg 3;reduce
 refine AL o 0 ?_
 refine AL b 0 ?_
 refine AL yk 0 ?_
 refine AL A 0 ?_
 refine AL B 0 ?_
 refine KR x ?_
 refine AL v 0 ?_
 refine AL z 0 ?_
 refine AL j 0 ?_
 refine AL q 0 ?_
 exact Ag v0 (rfl)
abbrev AlY:=@AlI
theorem AkQ:AlY 161:=by
 intro k o t b Q O M J H yk A B v z j q I nm L x X Y N P C h
 refine .of (t:=YJ) rfl ?_
 conv=>arg 3;reduce
 refine AL o 0 ?_
 refine AL t 0 ?_
 refine AL b 0 ?_
 refine AL yk 0 ?_
 refine AL A 0 ?_
 refine AL B 0 ?_
 refine KR x ?_
 refine AL v 0 ?_
 refine AL z 0 ?_
 refine AL j 0 ?_
 refine AL q 0 ?_
 exact Ag v0 (rfl)
abbrev AlX:=@AlH
theorem AkP:AlX 162:=by
 intro k o t b P N J C v yk H L x B j q z nm I A X Y M O h
 refine .of (t:=YI) rfl ?_
 conv=>arg 3;reduce
 refine AL o 0 ?_
 refine AL t 0 ?_
 refine AL b 0 ?_
 refine AL j 0 ?_
 refine AL q 0 ?_
 exact Ag v0 (rfl)
abbrev AlW:=@AlG
theorem AkO:AlW 163:=by
 intro k o t b R P N L I yk x z j v A H J nm M q X Y O Q C B h
 refine .of (t:=YH) rfl ?_
 conv=>arg 3;reduce
 refine AL o 0 ?_
 refine AL t 0 ?_
 refine AL b 0 ?_
 refine KR nm ?_
 refine AL yk 0 ?_
 refine AL x 0 ?_
 refine AL z 0 ?_
 refine KR q ?_
 refine AL j 0 ?_
 refine AL v 0 ?_
 exact Ag v0 (rfl)
abbrev AlV:=@AlF
theorem AkN:AlV 164:=by
 intro k o t b R P N L I yk z A q x B j J nm M v X Y O Q H C h
 refine .of (t:=YG) rfl ?_
 conv=>arg 3;reduce
 refine AL o 0 ?_
 refine AL t 0 ?_
 refine KR nm ?_
 refine AL yk 0 ?_
 refine AL z 0 ?_
 refine AL A 0 ?_
 refine KR v ?_
 refine AL q 0 ?_
 refine AL x 0 ?_
 refine AL j 0 ?_
 exact Ag v0 (rfl)
abbrev AlU:=@AlE
theorem WL:AlU 165:=by
 intro k o t b M L I B v yk C J x A j q Q nm H z X Y R U P O N h
 refine .of (t:=YF) rfl ?_
 conv=>arg 3;reduce
 refine AL o 0 ?_
 refine AL t 0 ?_
 refine AL b 0 ?_
 refine KR nm ?_
 refine AL M 0 ?_
 refine AL L 0 ?_
 refine AL I 0 ?_
 refine KR H ?_
 refine AL B 0 ?_
 refine AL v 0 ?_
 refine AL yk 0 ?_
 refine AL C 0 ?_
 refine AL J 0 ?_
 refine KR z ?_
 refine AL x 0 ?_
 refine AL A 0 ?_
 refine AL j 0 ?_
 refine AL q 0 ?_
 exact Ag v0 (rfl)
abbrev AlT:=@AlD
theorem AkM:AlT 166:=by
 intro k o t b M L I B v yk C J x A j q Q nm H z X Y R U P O N h
 refine .of (t:=YE) rfl ?_
 conv=>arg 3;reduce
 refine AL t 0 ?_
 refine AL b 0 ?_
 refine KR nm ?_
 refine AL M 0 ?_
 refine AL L 0 ?_
 refine AL I 0 ?_
 refine KR H ?_
 refine AL B 0 ?_
 refine AL v 0 ?_
 refine AL yk 0 ?_
 refine AL C 0 ?_
 refine AL J 0 ?_
 refine KR z ?_
 refine AL x 0 ?_
 refine AL A 0 ?_
 refine AL j 0 ?_
 refine AL q 0 ?_
 exact Ag v0 (rfl)
abbrev AlS:=@AlC
theorem AdY:AlS 167:=by
 intro k o t b P N J C v yk H L x B j q z nm I A X Y M O h
 refine .of (t:=YD) rfl ?_
 conv=>arg 3;reduce
 refine AL t 0 ?_
 refine AL b 0 ?_
 refine AL j 0 ?_
 refine AL q 0 ?_
 exact Ag v0 (rfl)
abbrev AlR:=@AlB
theorem AkL:AlR 168:=by
 intro k o t b Q O M J H yk A B v z j q I nm L x X Y N P C h
 refine .of (t:=YC) rfl ?_
 conv=>arg 3;reduce
 refine AL t 0 ?_
 refine AL b 0 ?_
 refine AL yk 0 ?_
 refine AL A 0 ?_
 refine AL B 0 ?_
 refine KR x ?_
 refine AL v 0 ?_
 refine AL z 0 ?_
 refine AL j 0 ?_
 refine AL q 0 ?_
 exact Ag v0 (rfl)
abbrev Fa:=@IX
abbrev Aek:=@Ahy
theorem Fa.of {N n:Nat} (H:Aek N):Fa N n:=IX.of @H
def Ama (U N:Nat):Prop:=∀{m:Nat} (ac:Fa U m) {M A:List E} {j el:List S} (k o:Int) (t b:Int) (P O:Int) (J C:Int) (xl yk:Int) (H L:Int) (z yl:Int) (Q R v:Int) (nm I:List Nat) (B q:List Nat) (X Y:Rs) (V Z:Rs) (hS:PS (.node k o t b nm (.node P O J C I M) (.node yk H L z B A) j el)) (hX:X=E.Aa M) (hY:Y=E.Aa A) (hB:V=S.Aa j) (hE:Z=S.Aa el) (h:xl=X.length/\yl=Y.length/\Q=V.length/\R=Z.length/\0<=v/\v+400*(1+(E.node P O J C I M).nodes+(E.node yk H L z B A).nodes+S.Ad j+S.Ad el)<=1000000/\q.length+2*(S.Ay j+1)<=62/\q.length+2*(S.Ay el+1)<=62/\S.Ay j<m/\S.Ay el<m:=by exact kn),Ok trees N ⟨[k,o,t,b,P,O,J,C,xl,yk,H,L,z,yl,Q,R,v],[nm,I,B,q],[X,Y,V,Z],[]⟩ fun zz=>(∃(x:Int),zz=(1,(⟨[x],[],[],[]⟩:Aj))/\(x+66<=v+400*(1+(E.node P O J C I M).nodes+(E.node yk H L z B A).nodes+S.Ad j+S.Ad el))/\(v<=x))
theorem AkS:Ama 177 159:=by
 intro m ai v R bo el k o t b I C H A z yk yo U yw J N O j nm B V au X Y Bo El hS hX hY hB hE h
 subst hX;subst hY;subst hB;subst hE;have eA:=S.len bo;have eC:=S.len el;have eB:=S.A0 bo;have eD:=S.A0 el;have Z:=h;simp only [E.A0,S.A0]at Z
 obtain ⟨⟨Δ,M⟩,eE,eF⟩:=hS.inv;rcases M with M|M|M|M|M|M|⟨rfl|rfl,M⟩|⟨rfl|rfl,M⟩|M|M|M
 ·obtain ⟨rfl,rfl,rfl,L,rfl,rfl,hn,r1,r2,Q,_⟩:=M;obtain ⟨rfl,rfl,rfl,rfl,rfl,rfl⟩:=L;have ez:(E.node 0 0 0 0 [] []).nodes=0:=rfl;have es:S.Ad []=0:=rfl;have aj:=hn.len;simp only [lN]at Z
  refine .of (t:=Ej) rfl ?_
  conv=>arg 3;reduce
  refine AH 1 1 ?_
  obtain ⟨_,rfl,G1⟩:=AkR 1 0 t 0 I C H A z 0 0 0 0 J N O j nm B [] (E.Aa v) (E.Aa []) (S.Aa []) (S.Aa []) rfl
  refine ch G1 ?_
  refine bu j 4 ?_
  refine sl nm ?_
  refine bu (j+4) 64 ?_
  refine bu ((j+4)+64) 1 ?_
  refine lt (t-1) 0 (fun t2=>?_) fun t2=>?_
  ·refine bu (((j+4)+64)+1) 3 ?_
   obtain ⟨_,⟨a0,rfl,ej,ee⟩,G3⟩:=Bj I C H A z ((((j+4)+64)+1)+3) B (E.Aa v) asm rfl
   refine ch G3 ?_
   exact Ag ⟨[a0],[],[],[]⟩ (⟨_,rfl,kn,kn⟩)
  refine ge (t-1) 3 (fun t4=>?_) fun t4=>?_
  ·refine bu (((j+4)+64)+1) 3 ?_
   obtain ⟨_,⟨aZ,rfl,ey,eo⟩,G5⟩:=Bj I C H A z ((((j+4)+64)+1)+3) B (E.Aa v) asm rfl
   refine ch G5 ?_
   exact Ag ⟨[aZ],[],[],[]⟩ (⟨_,rfl,kn,kn⟩)
  refine eq (t-1) 0 (fun t6=>?_) fun t6=>?_
  ·refine bu (((j+4)+64)+1) 3 ?_
   refine bu ((((j+4)+64)+1)+3) 3 ?_
   obtain ⟨_,⟨aX,rfl,em,d9⟩,G7⟩:=Bj I C H A z (((((j+4)+64)+1)+3)+3) B (E.Aa v) asm rfl
   refine ch G7 ?_
   exact Ag ⟨[aX],[],[],[]⟩ (⟨_,rfl,kn,kn⟩)
  refine eq (t-1) 1 (fun t8=>?_) fun t8=>?_
  ·refine bu (((j+4)+64)+1) 3 ?_
   refine bu ((((j+4)+64)+1)+3) 3 ?_
   obtain ⟨_,⟨aY,rfl,eu,ef⟩,G9⟩:=Bj I C H A z (((((j+4)+64)+1)+3)+3) B (E.Aa v) asm rfl
   refine ch G9 ?_
   exact Ag ⟨[aY],[],[],[]⟩ (⟨_,rfl,kn,kn⟩)
  refine AH (t-1) 2 ?_
  refine bu (((j+4)+64)+1) 4 ?_
  refine bu ((((j+4)+64)+1)+4) 3 ?_
  obtain ⟨_,⟨aP,rfl,dd,dE⟩,cC⟩:=Bj I C H A z (((((j+4)+64)+1)+4)+3) B (E.Aa v) asm rfl
  refine ch cC ?_
  exact Ag ⟨[aP],[],[],[]⟩ (⟨_,rfl,kn,kn⟩)
 ·obtain ⟨rfl,rfl,rfl,rfl,L,rfl,rfl,hn,u,Q,_⟩:=M;obtain ⟨rfl,rfl,rfl,rfl,rfl,rfl⟩:=L;have ez:(E.node 0 0 0 0 [] []).nodes=0:=rfl;have es:S.Ad []=0:=rfl;have aj:=hn.len;simp only [lN]at Z
  refine .of (t:=Ej) rfl ?_
  conv=>arg 3;reduce
  refine Az 2 1 ?_
  refine AH 2 2 ?_
  obtain ⟨_,rfl,cD⟩:=AkQ 2 0 0 0 I C H A z 0 0 0 0 J N O j nm B [] (E.Aa v) (E.Aa []) (S.Aa []) (S.Aa []) rfl
  refine ch cD ?_
  refine sl nm ?_
  refine bu j 64 ?_
  refine bu (j+64) 3 ?_
  obtain ⟨_,⟨aN,rfl,cY,dU⟩,bZ⟩:=Bj I C H A z ((j+64)+3) B (E.Aa v) asm rfl
  refine ch bZ ?_
  exact Ag ⟨[aN],[],[],[]⟩ (⟨_,rfl,kn,kn⟩)
 ·obtain ⟨rfl,rfl,rfl,rfl,rfl,rfl,hn,u,Q,hy,_,_⟩:=M;have ez:(E.node 0 0 0 0 [] []).nodes=0:=rfl;have es:S.Ad []=0:=rfl;have aj:=hn.len;simp only [lN]at Z
  refine .of (t:=Ej) rfl ?_
  conv=>arg 3;reduce
  refine Az 3 1 ?_
  refine Az 3 2 ?_
  refine AH 3 3 ?_
  obtain ⟨_,rfl,b8⟩:=AkP 3 0 0 0 I C H A z yk yo U yw J N O j nm B V (E.Aa v) (E.Aa R) (S.Aa []) (S.Aa [])
  refine ch b8 ?_
  refine sl nm ?_
  refine bu j 64 ?_
  refine bu (j+64) 1 ?_
  obtain ⟨_,⟨ag,rfl,du,dJ⟩,cu⟩:=Bj I C H A z ((j+64)+1) B (E.Aa v) asm rfl
  refine ch cu ?_
  refine bu ag 1 ?_
  refine bu (ag+1) 3 ?_
  obtain ⟨_,⟨aD,rfl,dz,d0⟩,cF⟩:=Bj yk yo U yw J ((ag+1)+3) V (E.Aa R) asm rfl
  refine ch cF ?_
  exact Ag ⟨[aD],[],[],[]⟩ (⟨_,rfl,kn,kn⟩)
 ·obtain ⟨rfl,rfl,rfl,rfl,rfl,hn,ho,Q,hy,_,_⟩:=M;have ez:(E.node 0 0 0 0 [] []).nodes=0:=rfl;have es:S.Ad []=0:=rfl;have aj:=hn.len;simp only [lN]at Z
  refine .of (t:=Ej) rfl ?_
  conv=>arg 3;reduce
  refine Az 4 1 ?_
  refine Az 4 2 ?_
  refine Az 4 3 ?_
  refine Az 4 5 ?_
  refine Az 4 6 ?_
  refine Az 4 7 ?_
  refine Az 4 8 ?_
  refine Az 4 9 ?_
  refine Az 4 10 ?_
  refine Az 4 11 ?_
  refine AH 4 4 ?_
  obtain ⟨_,rfl,bc⟩:=AdY 4 o 0 0 I C H A z yk yo U yw J N O j nm B V (E.Aa v) (E.Aa R) (S.Aa []) (S.Aa [])
  refine ch bc ?_
  refine bu j 7 ?_
  refine sl nm ?_
  refine bu (j+7) 64 ?_
  refine bu ((j+7)+64) 1 ?_
  obtain ⟨_,⟨q,rfl,d5,c5⟩,bE⟩:=Bj I C H A z (((j+7)+64)+1) B (E.Aa v) asm rfl
  refine ch bE ?_
  refine bu q 1 ?_
  refine bu (q+1) 1 ?_
  refine eq o 10 (fun cv=>?_) fun cv=>?_
  ·refine bu ((q+1)+1) 3 ?_
   refine bu (((q+1)+1)+3) 1 ?_
   obtain ⟨_,⟨aC,rfl,cW,cU⟩,cg⟩:=Bj yk yo U yw J ((((q+1)+1)+3)+1) V (E.Aa R) asm rfl
   refine ch cg ?_
   exact Ag ⟨[aC],[],[],[]⟩ (⟨_,rfl,kn,kn⟩)
  refine eq o 22 (fun a3=>?_) fun a3=>?_
  ·refine bu ((q+1)+1) 3 ?_
   refine bu (((q+1)+1)+3) 1 ?_
   obtain ⟨_,⟨aO,rfl,db,dD⟩,bj⟩:=Bj yk yo U yw J ((((q+1)+1)+3)+1) V (E.Aa R) asm rfl
   refine ch bj ?_
   exact Ag ⟨[aO],[],[],[]⟩ (⟨_,rfl,kn,kn⟩)
  refine eq o 23 (fun bN=>?_) fun bN=>?_
  ·refine bu ((q+1)+1) 3 ?_
   refine bu (((q+1)+1)+3) 1 ?_
   obtain ⟨_,⟨aG,rfl,c7,dy⟩,bq⟩:=Bj yk yo U yw J ((((q+1)+1)+3)+1) V (E.Aa R) asm rfl
   refine ch bq ?_
   exact Ag ⟨[aG],[],[],[]⟩ (⟨_,rfl,kn,kn⟩)
  refine eq o 17 (fun a4=>?_) fun a4=>?_
  ·refine bu ((q+1)+1) 3 ?_
   refine bu (((q+1)+1)+3) 1 ?_
   obtain ⟨_,⟨aL,rfl,dc,c3⟩,ct⟩:=Bj yk yo U yw J ((((q+1)+1)+3)+1) V (E.Aa R) asm rfl
   refine ch ct ?_
   exact Ag ⟨[aL],[],[],[]⟩ (⟨_,rfl,kn,kn⟩)
  refine eq o 18 (fun cx=>?_) fun cx=>?_
  ·refine bu ((q+1)+1) 2 ?_
   refine bu (((q+1)+1)+2) 1 ?_
   obtain ⟨_,⟨az,rfl,dN,d4⟩,bJ⟩:=Bj yk yo U yw J ((((q+1)+1)+2)+1) V (E.Aa R) asm rfl
   refine ch bJ ?_
   exact Ag ⟨[az],[],[],[]⟩ (⟨_,rfl,kn,kn⟩)
  refine eq o 19 (fun cQ=>?_) fun cQ=>?_
  ·refine bu ((q+1)+1) 3 ?_
   refine bu (((q+1)+1)+3) 1 ?_
   obtain ⟨_,⟨aE,rfl,d2,cV⟩,bR⟩:=Bj yk yo U yw J ((((q+1)+1)+3)+1) V (E.Aa R) asm rfl
   refine ch bR ?_
   exact Ag ⟨[aE],[],[],[]⟩ (⟨_,rfl,kn,kn⟩)
  refine bu ((q+1)+1) 1 ?_
  obtain ⟨_,⟨aI,rfl,c8,c6⟩,cf⟩:=Bj yk yo U yw J (((q+1)+1)+1) V (E.Aa R) asm rfl
  refine ch cf ?_
  exact Ag ⟨[aI],[],[],[]⟩ (⟨_,rfl,kn,kn⟩)
 ·obtain ⟨rfl,rfl,rfl,rfl,rfl,L,Q,_⟩:=M;obtain ⟨rfl,rfl,rfl,rfl,rfl,rfl⟩:=L;have ez:(E.node 0 0 0 0 [] []).nodes=0:=rfl;have es:S.Ad []=0:=rfl;simp only [lN]at Z
  refine .of (t:=Ej) rfl ?_
  conv=>arg 3;reduce
  refine Az 5 1 ?_
  refine Az 5 2 ?_
  refine Az 5 3 ?_
  refine AH 5 5 ?_
  obtain ⟨_,rfl,b3⟩:=AkO 5 0 0 0 I C H A z 0 0 0 0 J N O j [] B [] (E.Aa v) (E.Aa []) (S.Aa bo) (S.Aa el) rfl rfl
  refine ch b3 ?_
  refine bu j 3 ?_
  obtain ⟨_,⟨ak,rfl,dv,dF⟩,bX⟩:=Bj I C H A z (j+3) B (E.Aa v) asm rfl
  refine ch bX ?_
  refine bu ak 1 ?_
  obtain ⟨_,⟨ah,rfl,dH,cZ⟩,b9⟩:=ai N (ak+1) au (S.Aa bo) asm rfl kn
  refine ch b9 ?_
  refine gt O 0 (fun a2=>?_) fun a2=>?_
  ·refine bu ah 6 ?_
   obtain ⟨_,⟨aQ,rfl,c1,c4⟩,br⟩:=ai O (ah+6) au (S.Aa el) asm rfl kn
   refine ch br ?_
   exact Ag ⟨[aQ],[],[],[]⟩ (⟨_,rfl,kn,kn⟩)
  exact Ag ⟨[ah],[],[],[]⟩ (⟨_,rfl,kn,kn⟩)
 ·obtain ⟨rfl,rfl,rfl,rfl,L,rfl,Q,_,b1,b2⟩:=M;obtain ⟨rfl,rfl,rfl,rfl,rfl,rfl⟩:=L;have ez:(E.node 0 0 0 0 [] []).nodes=0:=rfl;have es:S.Ad []=0:=rfl;simp only [lN]at Z
  refine .of (t:=Ej) rfl ?_
  conv=>arg 3;reduce
  refine Az 6 1 ?_
  refine Az 6 2 ?_
  refine Az 6 3 ?_
  refine Az 6 5 ?_
  refine AH 6 6 ?_
  obtain ⟨_,rfl,bk⟩:=AkN 6 0 0 b I C H A z 0 0 0 0 J N O j [] B [] (E.Aa v) (E.Aa []) (S.Aa bo) (S.Aa []) rfl rfl
  refine ch bk ?_
  refine bu j 6 ?_
  obtain ⟨_,⟨ae,rfl,dW,dt⟩,cE⟩:=Bj I C H A z (j+6) B (E.Aa v) asm rfl
  refine ch cE ?_
  refine CO b (-9223372036854775808) ?_
  refine Er b 9223372036854775807 ?_
  refine bu ae 6 ?_
  refine bu (ae+6) 21 ?_
  refine bu ((ae+6)+21) 1 ?_
  obtain ⟨_,⟨aR,rfl,d3,cT⟩,bz⟩:=ai N (((ae+6)+21)+1) au (S.Aa bo) asm rfl kn
  refine ch bz ?_
  exact Ag ⟨[aR],[],[],[]⟩ (⟨_,rfl,kn,kn⟩)
 ·obtain ⟨rfl,rfl,rfl,rfl,P,L,rfl,rfl⟩:=M;obtain ⟨rfl,rfl,rfl,rfl,rfl,rfl⟩:=L;obtain ⟨rfl,rfl,rfl,rfl,rfl,rfl⟩:=P;have ez:(E.node 0 0 0 0 [] []).nodes=0:=rfl;have es:S.Ad []=0:=rfl;simp only [lN]at Z
  refine .of (t:=Ej) rfl ?_
  conv=>arg 3;reduce
  refine Az 7 1 ?_
  refine Az 7 2 ?_
  refine Az 7 3 ?_
  refine Az 7 5 ?_
  refine Az 7 6 ?_
  refine AH 7 7 ?_
  obtain ⟨_,rfl,a8⟩:=WL 7 0 0 0 0 0 0 0 z 0 0 0 0 J N O j [] [] [] (E.Aa []) (E.Aa []) (S.Aa []) (S.Aa []) rfl rfl rfl
  refine ch a8 ?_
  refine Hl (7-7) 0 ?_
  refine IG (7-7) 4 ?_
  refine AH (7-7) 0 ?_
  refine bu j 5 ?_
  exact Ag ⟨[(j+5)],[],[],[]⟩ (⟨_,rfl,kn,kn⟩)
 ·obtain ⟨rfl,rfl,rfl,rfl,P,L,rfl,rfl⟩:=M;obtain ⟨rfl,rfl,rfl,rfl,rfl,rfl⟩:=L;obtain ⟨rfl,rfl,rfl,rfl,rfl,rfl⟩:=P;have ez:(E.node 0 0 0 0 [] []).nodes=0:=rfl;have es:S.Ad []=0:=rfl;simp only [lN]at Z
  refine .of (t:=Ej) rfl ?_
  conv=>arg 3;reduce
  refine Az 8 1 ?_
  refine Az 8 2 ?_
  refine Az 8 3 ?_
  refine Az 8 5 ?_
  refine Az 8 6 ?_
  refine Az 8 7 ?_
  refine AH 8 8 ?_
  obtain ⟨_,rfl,cP⟩:=WL 8 0 0 0 0 0 0 0 z 0 0 0 0 J N O j [] [] [] (E.Aa []) (E.Aa []) (S.Aa []) (S.Aa []) rfl rfl rfl
  refine ch cP ?_
  refine Hl (8-7) 0 ?_
  refine IG (8-7) 4 ?_
  refine Az (8-7) 0 ?_
  refine AH (8-7) 1 ?_
  refine bu j 8 ?_
  exact Ag ⟨[(j+8)],[],[],[]⟩ (⟨_,rfl,kn,kn⟩)
 ·obtain ⟨rfl,rfl,rfl,rfl,P,L,rfl,rfl⟩:=M;obtain ⟨rfl,rfl,rfl,rfl,rfl,rfl⟩:=L;obtain ⟨rfl,rfl,rfl,rfl,rfl,rfl⟩:=P;have ez:(E.node 0 0 0 0 [] []).nodes=0:=rfl;have es:S.Ad []=0:=rfl;simp only [lN]at Z
  refine .of (t:=Ej) rfl ?_
  conv=>arg 3;reduce
  refine Az 9 1 ?_
  refine Az 9 2 ?_
  refine Az 9 3 ?_
  refine Az 9 5 ?_
  refine Az 9 6 ?_
  refine Az 9 7 ?_
  refine Az 9 8 ?_
  refine AH 9 9 ?_
  obtain ⟨_,rfl,bS⟩:=WL 9 0 0 0 0 0 0 0 z 0 0 0 0 J N O j [] [] [] (E.Aa []) (E.Aa []) (S.Aa []) (S.Aa []) rfl rfl rfl
  refine ch bS ?_
  refine Hl (9-7) 0 ?_
  refine IG (9-7) 4 ?_
  refine Az (9-7) 0 ?_
  refine Az (9-7) 1 ?_
  refine AH (9-7) 2 ?_
  refine bu j 6 ?_
  exact Ag ⟨[(j+6)],[],[],[]⟩ (⟨_,rfl,kn,kn⟩)
 ·obtain ⟨rfl,rfl,rfl,rfl,P,L,rfl,rfl⟩:=M;obtain ⟨rfl,rfl,rfl,rfl,rfl,rfl⟩:=L;obtain ⟨rfl,rfl,rfl,rfl,rfl,rfl⟩:=P;have ez:(E.node 0 0 0 0 [] []).nodes=0:=rfl;have es:S.Ad []=0:=rfl;simp only [lN]at Z
  refine .of (t:=Ej) rfl ?_
  conv=>arg 3;reduce
  refine Az 10 1 ?_
  refine Az 10 2 ?_
  refine Az 10 3 ?_
  refine Az 10 5 ?_
  refine Az 10 6 ?_
  refine Az 10 7 ?_
  refine Az 10 8 ?_
  refine Az 10 9 ?_
  refine AH 10 10 ?_
  obtain ⟨_,rfl,cR⟩:=WL 10 0 0 0 0 0 0 0 z 0 0 0 0 J N O j [] [] [] (E.Aa []) (E.Aa []) (S.Aa []) (S.Aa []) rfl rfl rfl
  refine ch cR ?_
  refine Hl (10-7) 0 ?_
  refine IG (10-7) 4 ?_
  refine Az (10-7) 0 ?_
  refine Az (10-7) 1 ?_
  refine Az (10-7) 2 ?_
  refine AH (10-7) 3 ?_
  refine bu j 7 ?_
  exact Ag ⟨[(j+7)],[],[],[]⟩ (⟨_,rfl,kn,kn⟩)
 ·obtain ⟨rfl,ho,rfl,rfl,rfl,P,L,rfl,rfl⟩:=M;obtain ⟨rfl,rfl,rfl,rfl,rfl,rfl⟩:=L;obtain ⟨rfl,rfl,rfl,rfl,rfl,rfl⟩:=P;have ez:(E.node 0 0 0 0 [] []).nodes=0:=rfl;have es:S.Ad []=0:=rfl;simp only [lN]at Z
  refine .of (t:=Ej) rfl ?_
  conv=>arg 3;reduce
  refine Az 11 1 ?_
  refine Az 11 2 ?_
  refine Az 11 3 ?_
  refine Az 11 5 ?_
  refine Az 11 6 ?_
  refine Az 11 7 ?_
  refine Az 11 8 ?_
  refine Az 11 9 ?_
  refine Az 11 10 ?_
  refine AH 11 11 ?_
  obtain ⟨_,rfl,bQ⟩:=AkM 11 o 0 0 0 0 0 0 z 0 0 0 0 J N O j [] [] [] (E.Aa []) (E.Aa []) (S.Aa []) (S.Aa []) rfl rfl rfl
  refine ch bQ ?_
  refine bu j 6 ?_
  refine lt (o-1) 0 (fun bK=>?_) fun bK=>?_
  ·exact Ag ⟨[(j+6)],[],[],[]⟩ (⟨_,rfl,kn,kn⟩)
  refine ge (o-1) 2 (fun cb=>?_) fun cb=>?_
  ·exact Ag ⟨[(j+6)],[],[],[]⟩ (⟨_,rfl,kn,kn⟩)
  refine eq (o-1) 0 (fun bn=>?_) fun bn=>?_
  ·refine bu (j+6) 5 ?_
   exact Ag ⟨[((j+6)+5)],[],[],[]⟩ (⟨_,rfl,kn,kn⟩)
  refine AH (o-1) 1 ?_
  refine bu (j+6) 6 ?_
  exact Ag ⟨[((j+6)+6)],[],[],[]⟩ (⟨_,rfl,kn,kn⟩)
 ·obtain ⟨rfl,rfl,rfl,L,rfl,rfl,hn,u,w,ho,Q,_⟩:=M;obtain ⟨rfl,rfl,rfl,rfl,rfl,rfl⟩:=L;have ez:(E.node 0 0 0 0 [] []).nodes=0:=rfl;have es:S.Ad []=0:=rfl;have aj:=hn.len;have e1:=n1 (x:=.node I C H A B v);have e4:=g1 (x:=.node I C H A B v);simp only [lN]at Z
  refine .of (t:=Ej) rfl ?_
  conv=>arg 3;reduce
  refine Az 12 1 ?_
  refine Az 12 2 ?_
  refine Az 12 3 ?_
  refine Az 12 5 ?_
  refine Az 12 6 ?_
  refine Az 12 7 ?_
  refine Az 12 8 ?_
  refine Az 12 9 ?_
  refine Az 12 10 ?_
  refine Az 12 11 ?_
  refine Az 12 4 ?_
  refine AH 12 12 ?_
  refine Az o 4 ?_
  obtain ⟨_,rfl,b5⟩:=AkL 12 o 0 0 I C H A z 0 0 0 0 J N O j nm B [] (E.Aa v) (E.Aa []) (S.Aa []) (S.Aa []) rfl
  refine ch b5 ?_
  refine sl nm ?_
  refine bu j 64 ?_
  refine bu (j+64) 3 ?_
  refine lt (o-1) 0 (fun b4=>?_) fun b4=>?_
  ·refine NM o 4 ?_
   refine ll z (E.Aa v) ?_
   refine ll J (E.Aa []) ?_
   refine dL [[.int .i64 I,.int .i64 C,.int .i64 H,.str B,.int .i32 A,.list 6 (E.Aa v)],[.int .i64 0,.int .i64 0,.int .i64 0,.str [],.int .i32 0,.list 6 (E.Aa [])]] (fun ax ce=>?_)
   have bl:=cL ce;try simp only [lA,lC,lN,lT']at bl
   refine ll 2 ax ?_
   refine fr ?_
   refine dL (ax.take (1:Int).toNat) (fun cJ cH=>?_) (CE (pt 1 ax))
   have cj:=cL cH;try simp only [lA,lC,lN,lT']at cj
   obtain ⟨_,⟨aJ,rfl,dR,dZ⟩,cp⟩:=DB (Fu.of (n:=1000) @Bj) 1 ((j+64)+3) cJ Q.V7 (by subst_vars;rfl)
   refine ch cp ?_
   exact Ag ⟨[aJ],[],[],[]⟩ (⟨_,rfl,kn,kn⟩)
  refine ge (o-1) 6 (fun bh=>?_) fun bh=>?_
  ·refine NM o 4 ?_
   refine ll z (E.Aa v) ?_
   refine ll J (E.Aa []) ?_
   refine dL [[.int .i64 I,.int .i64 C,.int .i64 H,.str B,.int .i32 A,.list 6 (E.Aa v)],[.int .i64 0,.int .i64 0,.int .i64 0,.str [],.int .i32 0,.list 6 (E.Aa [])]] (fun ay bb=>?_)
   have cM:=cL bb;try simp only [lA,lC,lN,lT']at cM
   refine ll 2 ay ?_
   refine fr ?_
   refine dL (ay.take (1:Int).toNat) (fun bi cw=>?_) (CE (pt 1 ay))
   have cy:=cL cw;try simp only [lA,lC,lN,lT']at cy
   obtain ⟨_,⟨aK,rfl,c9,dw⟩,bD⟩:=DB (Fu.of (n:=1000) @Bj) 1 ((j+64)+3) bi Q.V7 (by subst_vars;rfl)
   refine ch bD ?_
   exact Ag ⟨[aK],[],[],[]⟩ (⟨_,rfl,kn,kn⟩)
  refine eq (o-1) 0 (fun bA=>?_) fun bA=>?_
  ·refine bu ((j+64)+3) 6 ?_
   refine NM o 4 ?_
   refine ll z (E.Aa v) ?_
   refine ll J (E.Aa []) ?_
   refine dL [[.int .i64 I,.int .i64 C,.int .i64 H,.str B,.int .i32 A,.list 6 (E.Aa v)],[.int .i64 0,.int .i64 0,.int .i64 0,.str [],.int .i32 0,.list 6 (E.Aa [])]] (fun aw cr=>?_)
   have bm:=cL cr;try simp only [lA,lC,lN,lT']at bm
   refine ll 2 aw ?_
   refine fr ?_
   refine dL (aw.take (1:Int).toNat) (fun cd cK=>?_) (CE (pt 1 aw))
   have ba:=cL cK;try simp only [lA,lC,lN,lT']at ba
   obtain ⟨_,⟨aH,rfl,dj,d1⟩,a6⟩:=DB (Fu.of (n:=1000) @Bj) 1 (((j+64)+3)+6) cd Q.V7 (by subst_vars;rfl)
   refine ch a6 ?_
   exact Ag ⟨[aH],[],[],[]⟩ (⟨_,rfl,kn,kn⟩)
  refine eq (o-1) 1 (fun bw=>?_) fun bw=>?_
  ·refine bu ((j+64)+3) 3 ?_
   refine NM o 4 ?_
   refine ll z (E.Aa v) ?_
   refine ll J (E.Aa []) ?_
   refine dL [[.int .i64 I,.int .i64 C,.int .i64 H,.str B,.int .i32 A,.list 6 (E.Aa v)],[.int .i64 0,.int .i64 0,.int .i64 0,.str [],.int .i32 0,.list 6 (E.Aa [])]] (fun aq b0=>?_)
   have bO:=cL b0;try simp only [lA,lC,lN,lT']at bO
   refine ll 2 aq ?_
   refine fr ?_
   refine dL (aq.take (1:Int).toNat) (fun cG cB=>?_) (CE (pt 1 aq))
   have bC:=cL cB;try simp only [lA,lC,lN,lT']at bC
   obtain ⟨_,⟨aF,rfl,dx,dG⟩,bT⟩:=DB (Fu.of (n:=1000) @Bj) 1 (((j+64)+3)+3) cG Q.V7 (by subst_vars;rfl)
   refine ch bT ?_
   exact Ag ⟨[aF],[],[],[]⟩ (⟨_,rfl,kn,kn⟩)
  refine eq (o-1) 2 (fun bx=>?_) fun bx=>?_
  ·refine bu ((j+64)+3) 3 ?_
   refine NM o 4 ?_
   refine ll z (E.Aa v) ?_
   refine ll J (E.Aa []) ?_
   refine dL [[.int .i64 I,.int .i64 C,.int .i64 H,.str B,.int .i32 A,.list 6 (E.Aa v)],[.int .i64 0,.int .i64 0,.int .i64 0,.str [],.int .i32 0,.list 6 (E.Aa [])]] (fun ao bB=>?_)
   have bG:=cL bB;try simp only [lA,lC,lN,lT']at bG
   refine ll 2 ao ?_
   refine fr ?_
   refine dL (ao.take (1:Int).toNat) (fun bW cA=>?_) (CE (pt 1 ao))
   have a7:=cL cA;try simp only [lA,lC,lN,lT']at a7
   obtain ⟨_,⟨aM,rfl,cX,c2⟩,bM⟩:=DB (Fu.of (n:=1000) @Bj) 1 (((j+64)+3)+3) bW Q.V7 (by subst_vars;rfl)
   refine ch bM ?_
   exact Ag ⟨[aM],[],[],[]⟩ (⟨_,rfl,kn,kn⟩)
  refine eq (o-1) 3 (fun bt=>?_) fun bt=>?_
  ·refine bu ((j+64)+3) 7 ?_
   refine NM o 4 ?_
   refine ll z (E.Aa v) ?_
   refine ll J (E.Aa []) ?_
   refine dL [[.int .i64 I,.int .i64 C,.int .i64 H,.str B,.int .i32 A,.list 6 (E.Aa v)],[.int .i64 0,.int .i64 0,.int .i64 0,.str [],.int .i32 0,.list 6 (E.Aa [])]] (fun ap cc=>?_)
   have b7:=cL cc;try simp only [lA,lC,lN,lT']at b7
   refine ll 2 ap ?_
   refine fr ?_
   refine dL (ap.take (1:Int).toNat) (fun a5 be=>?_) (CE (pt 1 ap))
   have bg:=cL be;try simp only [lA,lC,lN,lT']at bg
   obtain ⟨_,⟨aV,rfl,dX,dM⟩,bU⟩:=DB (Fu.of (n:=1000) @Bj) 1 (((j+64)+3)+7) a5 Q.V7 (by subst_vars;rfl)
   refine ch bU ?_
   exact Ag ⟨[aV],[],[],[]⟩ (⟨_,rfl,kn,kn⟩)
  refine eq (o-1) 4 (fun cS=>?_) fun cS=>?_
  ·refine bu ((j+64)+3) 4 ?_
   refine NM o 4 ?_
   refine ll z (E.Aa v) ?_
   refine ll J (E.Aa []) ?_
   refine dL [[.int .i64 I,.int .i64 C,.int .i64 H,.str B,.int .i32 A,.list 6 (E.Aa v)],[.int .i64 0,.int .i64 0,.int .i64 0,.str [],.int .i32 0,.list 6 (E.Aa [])]] (fun av bY=>?_)
   have cz:=cL bY;try simp only [lA,lC,lN,lT']at cz
   refine ll 2 av ?_
   refine fr ?_
   refine dL (av.take (1:Int).toNat) (fun ci a9=>?_) (CE (pt 1 av))
   have bv:=cL a9;try simp only [lA,lC,lN,lT']at bv
   obtain ⟨_,⟨aU,rfl,dk,dC⟩,cN⟩:=DB (Fu.of (n:=1000) @Bj) 1 (((j+64)+3)+4) ci Q.V7 (by subst_vars;rfl)
   refine ch cN ?_
   exact Ag ⟨[aU],[],[],[]⟩ (⟨_,rfl,kn,kn⟩)
  refine AH (o-1) 5 ?_
  refine bu ((j+64)+3) 3 ?_
  refine NM o 4 ?_
  refine ll z (E.Aa v) ?_
  refine ll J (E.Aa []) ?_
  refine dL [[.int .i64 I,.int .i64 C,.int .i64 H,.str B,.int .i32 A,.list 6 (E.Aa v)],[.int .i64 0,.int .i64 0,.int .i64 0,.str [],.int .i32 0,.list 6 (E.Aa [])]] (fun an bI=>?_)
  have cI:=cL bI;try simp only [lA,lC,lN,lT']at cI
  refine ll 2 an ?_
  refine fr ?_
  refine dL (an.take (1:Int).toNat) (fun co bV=>?_) (CE (pt 1 an))
  have cq:=cL bV;try simp only [lA,lC,lN,lT']at cq
  obtain ⟨_,⟨aA,rfl,dl,dh⟩,cO⟩:=DB (Fu.of (n:=1000) @Bj) 1 (((j+64)+3)+3) co Q.V7 (by subst_vars;rfl)
  refine ch cO ?_
  exact Ag ⟨[aA],[],[],[]⟩ (⟨_,rfl,kn,kn⟩)
 ·obtain ⟨rfl,rfl,rfl,rfl,rfl,rfl,hn,u,Q,hy,_,_⟩:=M;have ez:(E.node 0 0 0 0 [] []).nodes=0:=rfl;have es:S.Ad []=0:=rfl;have aj:=hn.len;have e1:=n2 (x:=.node I C H A B v) (y:=.node yk yo U yw V R);have e4:=g2 (x:=.node I C H A B v) (y:=.node yk yo U yw V R);simp only [lN]at Z
  refine .of (t:=Ej) rfl ?_
  conv=>arg 3;reduce
  refine Az 12 1 ?_
  refine Az 12 2 ?_
  refine Az 12 3 ?_
  refine Az 12 5 ?_
  refine Az 12 6 ?_
  refine Az 12 7 ?_
  refine Az 12 8 ?_
  refine Az 12 9 ?_
  refine Az 12 10 ?_
  refine Az 12 11 ?_
  refine Az 12 4 ?_
  refine AH 12 12 ?_
  refine AH 4 4 ?_
  obtain ⟨_,rfl,bH⟩:=AdY 12 4 0 0 I C H A z yk yo U yw J N O j nm B V (E.Aa v) (E.Aa R) (S.Aa []) (S.Aa [])
  refine ch bH ?_
  refine sl nm ?_
  refine bu j 64 ?_
  refine bu (j+64) 3 ?_
  refine Hl (4-1) 0 ?_
  refine IG (4-1) 6 ?_
  refine Az (4-1) 0 ?_
  refine Az (4-1) 1 ?_
  refine Az (4-1) 2 ?_
  refine AH (4-1) 3 ?_
  refine bu ((j+64)+3) 7 ?_
  refine BB 4 4 ?_
  refine ll z (E.Aa v) ?_
  refine ll J (E.Aa R) ?_
  refine dL [[.int .i64 I,.int .i64 C,.int .i64 H,.str B,.int .i32 A,.list 6 (E.Aa v)],[.int .i64 yk,.int .i64 yo,.int .i64 U,.str V,.int .i32 yw,.list 6 (E.Aa R)]] (fun aW bP=>?_)
  have b6:=cL bP;try simp only [lA,lC,lN,lT']at b6
  refine ll 2 aW ?_
  refine fr ?_
  obtain ⟨_,⟨aB,rfl,dY,di⟩,bL⟩:=AkK (Fu.of (n:=1000) @Bj) 2 (((j+64)+3)+7) aW (Q.tl2 hy) (by subst_vars;rfl)
  refine ch bL ?_
  exact Ag ⟨[aB],[],[],[]⟩ (⟨_,rfl,kn,kn⟩)
abbrev AmL:=@AmG
abbrev Amb:=@AlK
theorem Air {m:Nat} (H:Fa 177 m) (n:Nat):AmL 177 158 m n:=by
 induction n with
 |zero=>intro l ln len j O v L hO I h;exact absurd h.2.2.2.2.2.2.2.2 (Nat.not_lt_zero _)
 |succ n ih=>
 intro l ln len j O v L hO I h
 subst I
 refine .of (t:=YL) rfl ?_
 conv=>arg 3;reduce
 refine lt j len (fun t1=>?_) fun t1=>?_
 ·refine CO j 0 ?_
  refine B8 j ln ?_
  obtain ⟨ah,af,t_1,ae,J,ac,M,X,U,Q,z,Y,aa,N,V,P,x,A,B,ab,R,al,ap,ao⟩:=PL.get j hO om om
  refine el ab ?_
  refine sl v ?_
  refine bu O 64 ?_
  obtain ⟨_,⟨q,rfl,ak,an⟩,G3⟩:=AkS @H ah af t_1 ae ac M X U ((E.Aa z).length:Int) Y aa N V ((E.Aa x).length:Int) ((S.Aa A).length:Int) ((S.Aa B).length:Int) (O+64) J Q P v (E.Aa z) (E.Aa x) (S.Aa A) (S.Aa B) R rfl rfl rfl rfl
  refine cm G3 ?_
  refine ch G3 ?_
  refine bu q 1 ?_
  obtain ⟨_,(rfl|⟨C,rfl,ai,aj⟩),Z⟩:=ih ln len (j+1) (q+1) v (S.Aa l) asm rfl kn
  ·refine ch Z ?_
   exact Ag ⟨[(q+1)],[],[],[]⟩ (.inr ((⟨_,rfl,kn,kn⟩)))
  refine cm Z ?_
  refine ch Z ?_
  exact Ag ⟨[C],[],[],[]⟩ (.inr ((⟨_,rfl,kn,kn⟩)))
 exact Ag v0 (.inl rfl)
theorem AkT:Amb 177 158:=fun {m} hC177 {l} ln len j sz ind L hO hLs h=>Air @hC177 ((len-j).toNat+1) ln len j sz ind L hO hLs ⟨h.1,h.2.1,h.2.2.1,h.2.2.2.1,h.2.2.2.2.1,h.2.2.2.2.2.1,h.2.2.2.2.2.2.1,h.2.2.2.2.2.2.2,Nat.lt_succ_self _⟩
abbrev Amc:=@AlL
theorem HI:Amc 177 155:=by
 intro m j l ln H z L C x h
 subst x;have I:S.Ay (l.drop (0:Int).toNat)=S.Ay l:=rfl;have J:S.Ad (l.drop (0:Int).toNat)=S.Ad l:=rfl
 refine .of (t:=YN) rfl ?_
 conv=>arg 3;reduce
 obtain ⟨_,(rfl|⟨q,rfl,A,B⟩),v⟩:=AkT @j ln ln 0 H z (S.Aa l) C rfl
 ·refine ch v ?_
  exact Ag v0 (.inl rfl)
 refine cm v ?_
 refine ch v ?_
 exact Ag ⟨[q],[],[],[]⟩ (.inr ((⟨_,rfl,kn,kn⟩)))
theorem Ain (n:Nat):Fa 177 n:=by
 induction n with
 |zero=>intro l ln v j L A x h;exact absurd h.2.2.2.2.2 (Nat.not_lt_zero _)
 |succ n ih=>
 intro l ln v j L A x h
 have H:(j++[32,32]).length=j.length+2:=by simp
 refine .of (t:=Y7) rfl ?_
 conv=>arg 3;reduce
 refine bu v 2 ?_
 refine ca j [32,32] ?_
 obtain ⟨_,(rfl|⟨q,rfl,B,C⟩),z⟩:=HI @ih ln (v+2) (j++[32,32]) L A x
 ·refine ch z ?_
  refine sl j ?_
  refine bu (v+2) 64 ?_
  refine bu ((v+2)+64) 1 ?_
  exact Ag ⟨[(((v+2)+64)+1)],[],[],[]⟩ (⟨_,rfl,kn,kn⟩)
 refine cm z ?_
 refine ch z ?_
 refine sl j ?_
 refine bu q 64 ?_
 refine bu (q+64) 1 ?_
 exact Ag ⟨[((q+64)+1)],[],[],[]⟩ (⟨_,rfl,kn,kn⟩)
theorem Fq:Aek 177:=fun {l} ln sz ind L hO hLs h=>Ain (S.Ay l+1) ln sz ind L hO hLs ⟨h.1,h.2.1,h.2.2.1,h.2.2.2.1,h.2.2.2.2,Nat.lt_succ_self _⟩
end
section
set_option maxHeartbeats 40000000
set_option maxRecDepth 100000
open Go.AM Go.AM.K
abbrev AmM:=@Aex
abbrev Amd:=@Aer
theorem Ais (n:Nat):AmM 152 n:=by
 induction n with
 |zero=>intro l ln len j p1 z B P O H N I q A C L J M Q hL R h;exact absurd h.2.2.2.2.2.2.2 (Nat.not_lt_zero _)
 |succ n ih=>
 intro l ln len j p1 z B P O H N I q A C L J M Q hL R h
 subst hL
 refine .of (t:=YQ) rfl ?_
 conv=>arg 3;reduce
 refine lt j len (fun t1=>?_) fun t1=>?_
 ·refine CO j 0 ?_
  refine B8 j ln ?_
  obtain ⟨x,v,ax,aw⟩:=FG (l:=l) j om om
  refine el ax ?_
  obtain ⟨aj,an,ak⟩:=R _ _ aw;simp only at aj an ak;have a0:=aj.len
  refine gt j 0 (fun t3=>?_) fun t3=>?_
  ·refine bu q 2 ?_
   refine nv ⟨[ln,len,j,p1,z,B,P,O,H,N,I,q,v,(q+2)],[A,C,x],[(Ai l),J,M,Q],[]⟩ ?_
   refine sl x ?_
   refine bu (q+2) 64 ?_
   refine bu ((q+2)+64) 1 ?_
   refine nv ⟨[ln,len,j,p1,z,B,P,O,H,N,I,q,v,(q+2),(x.length:Int),((q+2)+64),(((q+2)+64)+1)],[A,C,x],[(Ai l),J,M,Q],[]⟩ ?_
   refine lt (v-1) 0 (fun t4=>?_) fun t4=>?_
   ·obtain ⟨_,(rfl|⟨ao,rfl,aW,aU⟩),G5⟩:=ih ln len (j+1) p1 z B P O H N I (((q+2)+64)+1) A C (Ai l) J M Q rfl R kn
    ·refine ch G5 ?_
     exact Ag ⟨[(((q+2)+64)+1)],[],[],[]⟩ (.inr ((⟨_,rfl,kn,kn⟩)))
    refine cm G5 ?_
    refine ch G5 ?_
    exact Ag ⟨[ao],[],[],[]⟩ (.inr ((⟨_,rfl,kn,kn⟩)))
   refine ge (v-1) 3 (fun t6=>?_) fun t6=>?_
   ·obtain ⟨_,(rfl|⟨al,rfl,aY,aV⟩),G7⟩:=ih ln len (j+1) p1 z B P O H N I (((q+2)+64)+1) A C (Ai l) J M Q rfl R kn
    ·refine ch G7 ?_
     exact Ag ⟨[(((q+2)+64)+1)],[],[],[]⟩ (.inr ((⟨_,rfl,kn,kn⟩)))
    refine cm G7 ?_
    refine ch G7 ?_
    exact Ag ⟨[al],[],[],[]⟩ (.inr ((⟨_,rfl,kn,kn⟩)))
   refine eq (v-1) 0 (fun t8=>?_) fun t8=>?_
   ·refine bu (((q+2)+64)+1) 3 ?_
    obtain ⟨_,(rfl|⟨ap,rfl,aX,aZ⟩),G9⟩:=ih ln len (j+1) p1 z B P O H N I ((((q+2)+64)+1)+3) A C (Ai l) J M Q rfl R kn
    ·refine ch G9 ?_
     exact Ag ⟨[((((q+2)+64)+1)+3)],[],[],[]⟩ (.inr ((⟨_,rfl,kn,kn⟩)))
    refine cm G9 ?_
    refine ch G9 ?_
    exact Ag ⟨[ap],[],[],[]⟩ (.inr ((⟨_,rfl,kn,kn⟩)))
   refine eq (v-1) 1 (fun ay=>?_) fun ay=>?_
   ·refine bu (((q+2)+64)+1) 3 ?_
    refine nv ⟨[ln,len,j,p1,z,B,P,O,H,N,I,q,v,(q+2),(x.length:Int),((q+2)+64),(((q+2)+64)+1),((((q+2)+64)+1)+3)],[A,C,x],[(Ai l),J,M,Q],[]⟩ ?_
    obtain ⟨_,(rfl|⟨U,rfl,aO,aL⟩),ag⟩:=ih ln len (j+1) p1 z B P O H N I ((((q+2)+64)+1)+3) A C (Ai l) J M Q rfl R kn
    ·refine ch ag ?_
     exact Ag ⟨[((((q+2)+64)+1)+3)],[],[],[]⟩ (.inr ((⟨_,rfl,kn,kn⟩)))
    refine cm ag ?_
    refine ch ag ?_
    exact Ag ⟨[U],[],[],[]⟩ (.inr ((⟨_,rfl,kn,kn⟩)))
   refine AH (v-1) 2 ?_
   refine bu (((q+2)+64)+1) 4 ?_
   obtain ⟨_,(rfl|⟨ah,rfl,aI,aB⟩),Y⟩:=ih ln len (j+1) p1 z B P O H N I ((((q+2)+64)+1)+4) A C (Ai l) J M Q rfl R kn
   ·refine ch Y ?_
    exact Ag ⟨[((((q+2)+64)+1)+4)],[],[],[]⟩ (.inr ((⟨_,rfl,kn,kn⟩)))
   refine cm Y ?_
   refine ch Y ?_
   exact Ag ⟨[ah],[],[],[]⟩ (.inr ((⟨_,rfl,kn,kn⟩)))
  refine sl x ?_
  refine bu q 64 ?_
  refine nv ⟨[ln,len,j,p1,z,B,P,O,H,N,I,q,v,(x.length:Int),(q+64)],[A,C,x],[(Ai l),J,M,Q],[]⟩ ?_
  refine bu (q+64) 1 ?_
  refine lt (v-1) 0 (fun aD=>?_) fun aD=>?_
  ·obtain ⟨_,(rfl|⟨X,rfl,aR,az⟩),ae⟩:=ih ln len (j+1) p1 z B P O H N I ((q+64)+1) A C (Ai l) J M Q rfl R kn
   ·refine ch ae ?_
    exact Ag ⟨[((q+64)+1)],[],[],[]⟩ (.inr ((⟨_,rfl,kn,kn⟩)))
   refine cm ae ?_
   refine ch ae ?_
   exact Ag ⟨[X],[],[],[]⟩ (.inr ((⟨_,rfl,kn,kn⟩)))
  refine ge (v-1) 3 (fun aN=>?_) fun aN=>?_
  ·obtain ⟨_,(rfl|⟨ac,rfl,aA,aM⟩),ab⟩:=ih ln len (j+1) p1 z B P O H N I ((q+64)+1) A C (Ai l) J M Q rfl R kn
   ·refine ch ab ?_
    exact Ag ⟨[((q+64)+1)],[],[],[]⟩ (.inr ((⟨_,rfl,kn,kn⟩)))
   refine cm ab ?_
   refine ch ab ?_
   exact Ag ⟨[ac],[],[],[]⟩ (.inr ((⟨_,rfl,kn,kn⟩)))
  refine eq (v-1) 0 (fun aK=>?_) fun aK=>?_
  ·refine bu ((q+64)+1) 3 ?_
   refine nv ⟨[ln,len,j,p1,z,B,P,O,H,N,I,q,v,(x.length:Int),(q+64),((q+64)+1),(((q+64)+1)+3)],[A,C,x],[(Ai l),J,M,Q],[]⟩ ?_
   obtain ⟨_,(rfl|⟨aa,rfl,aG,aE⟩),V⟩:=ih ln len (j+1) p1 z B P O H N I (((q+64)+1)+3) A C (Ai l) J M Q rfl R kn
   ·refine ch V ?_
    exact Ag ⟨[(((q+64)+1)+3)],[],[],[]⟩ (.inr ((⟨_,rfl,kn,kn⟩)))
   refine cm V ?_
   refine ch V ?_
   exact Ag ⟨[aa],[],[],[]⟩ (.inr ((⟨_,rfl,kn,kn⟩)))
  refine eq (v-1) 1 (fun aH=>?_) fun aH=>?_
  ·refine bu ((q+64)+1) 3 ?_
   obtain ⟨_,(rfl|⟨Z,rfl,aJ,aQ⟩),ai⟩:=ih ln len (j+1) p1 z B P O H N I (((q+64)+1)+3) A C (Ai l) J M Q rfl R kn
   ·refine ch ai ?_
    exact Ag ⟨[(((q+64)+1)+3)],[],[],[]⟩ (.inr ((⟨_,rfl,kn,kn⟩)))
   refine cm ai ?_
   refine ch ai ?_
   exact Ag ⟨[Z],[],[],[]⟩ (.inr ((⟨_,rfl,kn,kn⟩)))
  refine AH (v-1) 2 ?_
  refine bu ((q+64)+1) 4 ?_
  refine nv ⟨[ln,len,j,p1,z,B,P,O,H,N,I,q,v,(x.length:Int),(q+64),((q+64)+1),(((q+64)+1)+4)],[A,C,x],[(Ai l),J,M,Q],[]⟩ ?_
  obtain ⟨_,(rfl|⟨af,rfl,aF,aP⟩),ad⟩:=ih ln len (j+1) p1 z B P O H N I (((q+64)+1)+4) A C (Ai l) J M Q rfl R kn
  ·refine ch ad ?_
   exact Ag ⟨[(((q+64)+1)+4)],[],[],[]⟩ (.inr ((⟨_,rfl,kn,kn⟩)))
  refine cm ad ?_
  refine ch ad ?_
  exact Ag ⟨[af],[],[],[]⟩ (.inr ((⟨_,rfl,kn,kn⟩)))
 exact Ag v0 (.inl rfl)
theorem AkU:Amd 152:=fun {l} ln len j p1 fty fbl rk ro ry rv rl sz fnm rnm L FP FB RA hL hp h=>Ais ((ln-j).toNat+1) ln len j p1 fty fbl rk ro ry rv rl sz fnm rnm L FP FB RA hL hp ⟨h.1,h.2.1,h.2.2.1,h.2.2.2.1,h.2.2.2.2.1,h.2.2.2.2.2.1,h.2.2.2.2.2.2,Nat.lt_succ_self _⟩
abbrev Ame:=@Aes
theorem AdZ:Ame 151:=by
 intro ps fb C Δ t M z A H L I B J q v x FP FB RA hF aY hn hB hA hO N h
 subst hF;subst hB;subst hA;have cw:=hn.len;have cy:=S.len fb;have cx:=S.A0 fb;have cz:([32,32]:List Nat).length=2:=rfl
 refine .of (t:=YR) rfl ?_
 conv=>arg 3;reduce
 refine bu q 5 ?_
 refine sl v ?_
 refine bu (q+5) 64 ?_
 refine nv ⟨[M,z,A,H,L,I,B,J,q,(q+5),(v.length:Int),((q+5)+64)],[v,x],[(Ai ps),(S.Aa fb),(E.Aa C)],[]⟩ ?_
 refine bu ((q+5)+64) 1 ?_
 obtain ⟨_,(rfl|⟨j,rfl,bF,bN⟩),G1⟩:=AkU M M 0 M z A H L I B J (((q+5)+64)+1) v x (Ai ps) (Ai ps) (S.Aa fb) (E.Aa C) rfl aY
 ·refine ch G1 ?_
  refine bu (((q+5)+64)+1) 2 ?_
  refine nv ⟨[M,z,A,H,L,I,B,J,q,(q+5),(v.length:Int),((q+5)+64),(((q+5)+64)+1),((((q+5)+64)+1)+2)],[v,x],[(Ai ps),(S.Aa fb),(E.Aa C)],[]⟩ ?_
  refine lt (z-1) 0 (fun t2=>?_) fun t2=>?_
  ·refine bu ((((q+5)+64)+1)+2) 3 ?_
   obtain ⟨_,(rfl|⟨ai,rfl,bL,bJ⟩),G3⟩:=HI (Fa.of (n:=1000) @Fq) A (((((q+5)+64)+1)+2)+3) [32,32] (S.Aa fb) hO rfl
   ·refine ch G3 ?_
    refine bu (((((q+5)+64)+1)+2)+3) 9 ?_
    refine nv ⟨[M,z,A,H,L,I,B,J,q,(q+5),(v.length:Int),((q+5)+64),(((q+5)+64)+1),((((q+5)+64)+1)+2),(((((q+5)+64)+1)+2)+3),((((((q+5)+64)+1)+2)+3)+9)],[v,x],[(Ai ps),(S.Aa fb),(E.Aa C)],[]⟩ ?_
    obtain ⟨_,⟨ay,rfl,cf,cq⟩,G4⟩:=Bj H L I B J ((((((q+5)+64)+1)+2)+3)+9) x (E.Aa C) N rfl
    refine ch G4 ?_
    refine bu ay 3 ?_
    exact Ag ⟨[(ay+3)],[],[],[]⟩ (⟨_,rfl,kn,kn⟩)
   refine cm G3 ?_
   refine ch G3 ?_
   refine bu ai 9 ?_
   refine nv ⟨[M,z,A,H,L,I,B,J,q,(q+5),(v.length:Int),((q+5)+64),(((q+5)+64)+1),((((q+5)+64)+1)+2),(((((q+5)+64)+1)+2)+3),ai,(ai+9)],[v,x],[(Ai ps),(S.Aa fb),(E.Aa C)],[]⟩ ?_
   obtain ⟨_,⟨aB,rfl,cu,cp⟩,G5⟩:=Bj H L I B J (ai+9) x (E.Aa C) N rfl
   refine ch G5 ?_
   refine bu aB 3 ?_
   exact Ag ⟨[(aB+3)],[],[],[]⟩ (⟨_,rfl,kn,kn⟩)
  refine ge (z-1) 3 (fun t6=>?_) fun t6=>?_
  ·refine bu ((((q+5)+64)+1)+2) 3 ?_
   refine nv ⟨[M,z,A,H,L,I,B,J,q,(q+5),(v.length:Int),((q+5)+64),(((q+5)+64)+1),((((q+5)+64)+1)+2),(((((q+5)+64)+1)+2)+3)],[v,x],[(Ai ps),(S.Aa fb),(E.Aa C)],[]⟩ ?_
   obtain ⟨_,(rfl|⟨ab,rfl,bZ,bx⟩),G7⟩:=HI (Fa.of (n:=1000) @Fq) A (((((q+5)+64)+1)+2)+3) [32,32] (S.Aa fb) hO rfl
   ·refine ch G7 ?_
    refine bu (((((q+5)+64)+1)+2)+3) 9 ?_
    obtain ⟨_,⟨ak,rfl,co,b9⟩,G8⟩:=Bj H L I B J ((((((q+5)+64)+1)+2)+3)+9) x (E.Aa C) N rfl
    refine ch G8 ?_
    refine bu ak 3 ?_
    refine nv ⟨[M,z,A,H,L,I,B,J,q,(q+5),(v.length:Int),((q+5)+64),(((q+5)+64)+1),((((q+5)+64)+1)+2),(((((q+5)+64)+1)+2)+3),((((((q+5)+64)+1)+2)+3)+9),ak,(ak+3)],[v,x],[(Ai ps),(S.Aa fb),(E.Aa C)],[]⟩ ?_
    exact Ag ⟨[(ak+3)],[],[],[]⟩ (⟨_,rfl,kn,kn⟩)
   refine cm G7 ?_
   refine ch G7 ?_
   refine bu ab 9 ?_
   obtain ⟨_,⟨al,rfl,cr,cc⟩,G9⟩:=Bj H L I B J (ab+9) x (E.Aa C) N rfl
   refine ch G9 ?_
   refine bu al 3 ?_
   refine nv ⟨[M,z,A,H,L,I,B,J,q,(q+5),(v.length:Int),((q+5)+64),(((q+5)+64)+1),((((q+5)+64)+1)+2),(((((q+5)+64)+1)+2)+3),ab,(ab+9),al,(al+3)],[v,x],[(Ai ps),(S.Aa fb),(E.Aa C)],[]⟩ ?_
   exact Ag ⟨[(al+3)],[],[],[]⟩ (⟨_,rfl,kn,kn⟩)
  refine eq (z-1) 0 (fun a9=>?_) fun a9=>?_
  ·refine bu ((((q+5)+64)+1)+2) 3 ?_
   refine bu (((((q+5)+64)+1)+2)+3) 3 ?_
   refine nv ⟨[M,z,A,H,L,I,B,J,q,(q+5),(v.length:Int),((q+5)+64),(((q+5)+64)+1),((((q+5)+64)+1)+2),(((((q+5)+64)+1)+2)+3),((((((q+5)+64)+1)+2)+3)+3)],[v,x],[(Ai ps),(S.Aa fb),(E.Aa C)],[]⟩ ?_
   obtain ⟨_,(rfl|⟨Q,rfl,a4,a1⟩),aE⟩:=HI (Fa.of (n:=1000) @Fq) A ((((((q+5)+64)+1)+2)+3)+3) [32,32] (S.Aa fb) hO rfl
   ·refine ch aE ?_
    refine bu ((((((q+5)+64)+1)+2)+3)+3) 9 ?_
    obtain ⟨_,⟨ad,rfl,bD,b1⟩,be⟩:=Bj H L I B J (((((((q+5)+64)+1)+2)+3)+3)+9) x (E.Aa C) N rfl
    refine ch be ?_
    refine bu ad 3 ?_
    refine nv ⟨[M,z,A,H,L,I,B,J,q,(q+5),(v.length:Int),((q+5)+64),(((q+5)+64)+1),((((q+5)+64)+1)+2),(((((q+5)+64)+1)+2)+3),((((((q+5)+64)+1)+2)+3)+3),(((((((q+5)+64)+1)+2)+3)+3)+9),ad,(ad+3)],[v,x],[(Ai ps),(S.Aa fb),(E.Aa C)],[]⟩ ?_
    exact Ag ⟨[(ad+3)],[],[],[]⟩ (⟨_,rfl,kn,kn⟩)
   refine cm aE ?_
   refine ch aE ?_
   refine bu Q 9 ?_
   obtain ⟨_,⟨ae,rfl,bK,bQ⟩,bh⟩:=Bj H L I B J (Q+9) x (E.Aa C) N rfl
   refine ch bh ?_
   refine bu ae 3 ?_
   refine nv ⟨[M,z,A,H,L,I,B,J,q,(q+5),(v.length:Int),((q+5)+64),(((q+5)+64)+1),((((q+5)+64)+1)+2),(((((q+5)+64)+1)+2)+3),((((((q+5)+64)+1)+2)+3)+3),Q,(Q+9),ae,(ae+3)],[v,x],[(Ai ps),(S.Aa fb),(E.Aa C)],[]⟩ ?_
   exact Ag ⟨[(ae+3)],[],[],[]⟩ (⟨_,rfl,kn,kn⟩)
  refine eq (z-1) 1 (fun a0=>?_) fun a0=>?_
  ·refine bu ((((q+5)+64)+1)+2) 3 ?_
   refine bu (((((q+5)+64)+1)+2)+3) 3 ?_
   refine nv ⟨[M,z,A,H,L,I,B,J,q,(q+5),(v.length:Int),((q+5)+64),(((q+5)+64)+1),((((q+5)+64)+1)+2),(((((q+5)+64)+1)+2)+3),((((((q+5)+64)+1)+2)+3)+3)],[v,x],[(Ai ps),(S.Aa fb),(E.Aa C)],[]⟩ ?_
   obtain ⟨_,(rfl|⟨V,rfl,bi,aM⟩),aG⟩:=HI (Fa.of (n:=1000) @Fq) A ((((((q+5)+64)+1)+2)+3)+3) [32,32] (S.Aa fb) hO rfl
   ·refine ch aG ?_
    refine bu ((((((q+5)+64)+1)+2)+3)+3) 9 ?_
    obtain ⟨_,⟨ah,rfl,bR,bO⟩,aO⟩:=Bj H L I B J (((((((q+5)+64)+1)+2)+3)+3)+9) x (E.Aa C) N rfl
    refine ch aO ?_
    refine bu ah 3 ?_
    refine nv ⟨[M,z,A,H,L,I,B,J,q,(q+5),(v.length:Int),((q+5)+64),(((q+5)+64)+1),((((q+5)+64)+1)+2),(((((q+5)+64)+1)+2)+3),((((((q+5)+64)+1)+2)+3)+3),(((((((q+5)+64)+1)+2)+3)+3)+9),ah,(ah+3)],[v,x],[(Ai ps),(S.Aa fb),(E.Aa C)],[]⟩ ?_
    exact Ag ⟨[(ah+3)],[],[],[]⟩ (⟨_,rfl,kn,kn⟩)
   refine cm aG ?_
   refine ch aG ?_
   refine bu V 9 ?_
   obtain ⟨_,⟨af,rfl,b7,bH⟩,a2⟩:=Bj H L I B J (V+9) x (E.Aa C) N rfl
   refine ch a2 ?_
   refine bu af 3 ?_
   refine nv ⟨[M,z,A,H,L,I,B,J,q,(q+5),(v.length:Int),((q+5)+64),(((q+5)+64)+1),((((q+5)+64)+1)+2),(((((q+5)+64)+1)+2)+3),((((((q+5)+64)+1)+2)+3)+3),V,(V+9),af,(af+3)],[v,x],[(Ai ps),(S.Aa fb),(E.Aa C)],[]⟩ ?_
   exact Ag ⟨[(af+3)],[],[],[]⟩ (⟨_,rfl,kn,kn⟩)
  refine AH (z-1) 2 ?_
  refine bu ((((q+5)+64)+1)+2) 4 ?_
  refine bu (((((q+5)+64)+1)+2)+4) 3 ?_
  refine nv ⟨[M,z,A,H,L,I,B,J,q,(q+5),(v.length:Int),((q+5)+64),(((q+5)+64)+1),((((q+5)+64)+1)+2),(((((q+5)+64)+1)+2)+4),((((((q+5)+64)+1)+2)+4)+3)],[v,x],[(Ai ps),(S.Aa fb),(E.Aa C)],[]⟩ ?_
  obtain ⟨_,(rfl|⟨O,rfl,aW,aL⟩),aC⟩:=HI (Fa.of (n:=1000) @Fq) A ((((((q+5)+64)+1)+2)+4)+3) [32,32] (S.Aa fb) hO rfl
  ·refine ch aC ?_
   refine bu ((((((q+5)+64)+1)+2)+4)+3) 9 ?_
   obtain ⟨_,⟨Z,rfl,bz,bw⟩,bk⟩:=Bj H L I B J (((((((q+5)+64)+1)+2)+4)+3)+9) x (E.Aa C) N rfl
   refine ch bk ?_
   refine bu Z 3 ?_
   refine nv ⟨[M,z,A,H,L,I,B,J,q,(q+5),(v.length:Int),((q+5)+64),(((q+5)+64)+1),((((q+5)+64)+1)+2),(((((q+5)+64)+1)+2)+4),((((((q+5)+64)+1)+2)+4)+3),(((((((q+5)+64)+1)+2)+4)+3)+9),Z,(Z+3)],[v,x],[(Ai ps),(S.Aa fb),(E.Aa C)],[]⟩ ?_
   exact Ag ⟨[(Z+3)],[],[],[]⟩ (⟨_,rfl,kn,kn⟩)
  refine cm aC ?_
  refine ch aC ?_
  refine bu O 9 ?_
  obtain ⟨_,⟨ag,rfl,bY,bS⟩,a7⟩:=Bj H L I B J (O+9) x (E.Aa C) N rfl
  refine ch a7 ?_
  refine bu ag 3 ?_
  refine nv ⟨[M,z,A,H,L,I,B,J,q,(q+5),(v.length:Int),((q+5)+64),(((q+5)+64)+1),((((q+5)+64)+1)+2),(((((q+5)+64)+1)+2)+4),((((((q+5)+64)+1)+2)+4)+3),O,(O+9),ag,(ag+3)],[v,x],[(Ai ps),(S.Aa fb),(E.Aa C)],[]⟩ ?_
  exact Ag ⟨[(ag+3)],[],[],[]⟩ (⟨_,rfl,kn,kn⟩)
 refine cm G1 ?_
 refine ch G1 ?_
 refine bu j 2 ?_
 refine lt (z-1) 0 (fun bo=>?_) fun bo=>?_
 ·refine bu (j+2) 3 ?_
  refine nv ⟨[M,z,A,H,L,I,B,J,q,(q+5),(v.length:Int),((q+5)+64),(((q+5)+64)+1),j,(j+2),((j+2)+3)],[v,x],[(Ai ps),(S.Aa fb),(E.Aa C)],[]⟩ ?_
  obtain ⟨_,(rfl|⟨U,rfl,aX,aR⟩),aD⟩:=HI (Fa.of (n:=1000) @Fq) A ((j+2)+3) [32,32] (S.Aa fb) hO rfl
  ·refine ch aD ?_
   refine bu ((j+2)+3) 9 ?_
   obtain ⟨_,⟨ac,rfl,bI,bW⟩,aU⟩:=Bj H L I B J (((j+2)+3)+9) x (E.Aa C) N rfl
   refine ch aU ?_
   refine bu ac 3 ?_
   refine nv ⟨[M,z,A,H,L,I,B,J,q,(q+5),(v.length:Int),((q+5)+64),(((q+5)+64)+1),j,(j+2),((j+2)+3),(((j+2)+3)+9),ac,(ac+3)],[v,x],[(Ai ps),(S.Aa fb),(E.Aa C)],[]⟩ ?_
   exact Ag ⟨[(ac+3)],[],[],[]⟩ (⟨_,rfl,kn,kn⟩)
  refine cm aD ?_
  refine ch aD ?_
  refine bu U 9 ?_
  obtain ⟨_,⟨aa,rfl,bM,bP⟩,ba⟩:=Bj H L I B J (U+9) x (E.Aa C) N rfl
  refine ch ba ?_
  refine bu aa 3 ?_
  refine nv ⟨[M,z,A,H,L,I,B,J,q,(q+5),(v.length:Int),((q+5)+64),(((q+5)+64)+1),j,(j+2),((j+2)+3),U,(U+9),aa,(aa+3)],[v,x],[(Ai ps),(S.Aa fb),(E.Aa C)],[]⟩ ?_
  exact Ag ⟨[(aa+3)],[],[],[]⟩ (⟨_,rfl,kn,kn⟩)
 refine ge (z-1) 3 (fun a8=>?_) fun a8=>?_
 ·refine bu (j+2) 3 ?_
  obtain ⟨_,(rfl|⟨P,rfl,bt,a3⟩),aA⟩:=HI (Fa.of (n:=1000) @Fq) A ((j+2)+3) [32,32] (S.Aa fb) hO rfl
  ·refine ch aA ?_
   refine bu ((j+2)+3) 9 ?_
   refine nv ⟨[M,z,A,H,L,I,B,J,q,(q+5),(v.length:Int),((q+5)+64),(((q+5)+64)+1),j,(j+2),((j+2)+3),(((j+2)+3)+9)],[v,x],[(Ai ps),(S.Aa fb),(E.Aa C)],[]⟩ ?_
   obtain ⟨_,⟨an,rfl,b0,b6⟩,a6⟩:=Bj H L I B J (((j+2)+3)+9) x (E.Aa C) N rfl
   refine ch a6 ?_
   refine bu an 3 ?_
   exact Ag ⟨[(an+3)],[],[],[]⟩ (⟨_,rfl,kn,kn⟩)
  refine cm aA ?_
  refine ch aA ?_
  refine bu P 9 ?_
  refine nv ⟨[M,z,A,H,L,I,B,J,q,(q+5),(v.length:Int),((q+5)+64),(((q+5)+64)+1),j,(j+2),((j+2)+3),P,(P+9)],[v,x],[(Ai ps),(S.Aa fb),(E.Aa C)],[]⟩ ?_
  obtain ⟨_,⟨aq,rfl,bB,bV⟩,bl⟩:=Bj H L I B J (P+9) x (E.Aa C) N rfl
  refine ch bl ?_
  refine bu aq 3 ?_
  exact Ag ⟨[(aq+3)],[],[],[]⟩ (⟨_,rfl,kn,kn⟩)
 refine eq (z-1) 0 (fun bb=>?_) fun bb=>?_
 ·refine bu (j+2) 3 ?_
  refine nv ⟨[M,z,A,H,L,I,B,J,q,(q+5),(v.length:Int),((q+5)+64),(((q+5)+64)+1),j,(j+2),((j+2)+3)],[v,x],[(Ai ps),(S.Aa fb),(E.Aa C)],[]⟩ ?_
  refine bu ((j+2)+3) 3 ?_
  obtain ⟨_,(rfl|⟨Y,rfl,bj,bm⟩),aH⟩:=HI (Fa.of (n:=1000) @Fq) A (((j+2)+3)+3) [32,32] (S.Aa fb) hO rfl
  ·refine ch aH ?_
   refine bu (((j+2)+3)+3) 9 ?_
   refine nv ⟨[M,z,A,H,L,I,B,J,q,(q+5),(v.length:Int),((q+5)+64),(((q+5)+64)+1),j,(j+2),((j+2)+3),(((j+2)+3)+3),((((j+2)+3)+3)+9)],[v,x],[(Ai ps),(S.Aa fb),(E.Aa C)],[]⟩ ?_
   obtain ⟨_,⟨av,rfl,b4,b3⟩,bg⟩:=Bj H L I B J ((((j+2)+3)+3)+9) x (E.Aa C) N rfl
   refine ch bg ?_
   refine bu av 3 ?_
   exact Ag ⟨[(av+3)],[],[],[]⟩ (⟨_,rfl,kn,kn⟩)
  refine cm aH ?_
  refine ch aH ?_
  refine bu Y 9 ?_
  refine nv ⟨[M,z,A,H,L,I,B,J,q,(q+5),(v.length:Int),((q+5)+64),(((q+5)+64)+1),j,(j+2),((j+2)+3),(((j+2)+3)+3),Y,(Y+9)],[v,x],[(Ai ps),(S.Aa fb),(E.Aa C)],[]⟩ ?_
  obtain ⟨_,⟨ao,rfl,bT,bX⟩,bc⟩:=Bj H L I B J (Y+9) x (E.Aa C) N rfl
  refine ch bc ?_
  refine bu ao 3 ?_
  exact Ag ⟨[(ao+3)],[],[],[]⟩ (⟨_,rfl,kn,kn⟩)
 refine eq (z-1) 1 (fun aP=>?_) fun aP=>?_
 ·refine bu (j+2) 3 ?_
  refine nv ⟨[M,z,A,H,L,I,B,J,q,(q+5),(v.length:Int),((q+5)+64),(((q+5)+64)+1),j,(j+2),((j+2)+3)],[v,x],[(Ai ps),(S.Aa fb),(E.Aa C)],[]⟩ ?_
  refine bu ((j+2)+3) 3 ?_
  obtain ⟨_,(rfl|⟨X,rfl,bn,br⟩),az⟩:=HI (Fa.of (n:=1000) @Fq) A (((j+2)+3)+3) [32,32] (S.Aa fb) hO rfl
  ·refine ch az ?_
   refine bu (((j+2)+3)+3) 9 ?_
   refine nv ⟨[M,z,A,H,L,I,B,J,q,(q+5),(v.length:Int),((q+5)+64),(((q+5)+64)+1),j,(j+2),((j+2)+3),(((j+2)+3)+3),((((j+2)+3)+3)+9)],[v,x],[(Ai ps),(S.Aa fb),(E.Aa C)],[]⟩ ?_
   obtain ⟨_,⟨aw,rfl,bE,bG⟩,aV⟩:=Bj H L I B J ((((j+2)+3)+3)+9) x (E.Aa C) N rfl
   refine ch aV ?_
   refine bu aw 3 ?_
   exact Ag ⟨[(aw+3)],[],[],[]⟩ (⟨_,rfl,kn,kn⟩)
  refine cm az ?_
  refine ch az ?_
  refine bu X 9 ?_
  refine nv ⟨[M,z,A,H,L,I,B,J,q,(q+5),(v.length:Int),((q+5)+64),(((q+5)+64)+1),j,(j+2),((j+2)+3),(((j+2)+3)+3),X,(X+9)],[v,x],[(Ai ps),(S.Aa fb),(E.Aa C)],[]⟩ ?_
  obtain ⟨_,⟨au,rfl,bA,bC⟩,aQ⟩:=Bj H L I B J (X+9) x (E.Aa C) N rfl
  refine ch aQ ?_
  refine bu au 3 ?_
  exact Ag ⟨[(au+3)],[],[],[]⟩ (⟨_,rfl,kn,kn⟩)
 refine AH (z-1) 2 ?_
 refine bu (j+2) 4 ?_
 refine nv ⟨[M,z,A,H,L,I,B,J,q,(q+5),(v.length:Int),((q+5)+64),(((q+5)+64)+1),j,(j+2),((j+2)+4)],[v,x],[(Ai ps),(S.Aa fb),(E.Aa C)],[]⟩ ?_
 refine bu ((j+2)+4) 3 ?_
 obtain ⟨_,(rfl|⟨R,rfl,bq,a5⟩),aF⟩:=HI (Fa.of (n:=1000) @Fq) A (((j+2)+4)+3) [32,32] (S.Aa fb) hO rfl
 ·refine ch aF ?_
  refine bu (((j+2)+4)+3) 9 ?_
  refine nv ⟨[M,z,A,H,L,I,B,J,q,(q+5),(v.length:Int),((q+5)+64),(((q+5)+64)+1),j,(j+2),((j+2)+4),(((j+2)+4)+3),((((j+2)+4)+3)+9)],[v,x],[(Ai ps),(S.Aa fb),(E.Aa C)],[]⟩ ?_
  obtain ⟨_,⟨ax,rfl,b5,bv⟩,aZ⟩:=Bj H L I B J ((((j+2)+4)+3)+9) x (E.Aa C) N rfl
  refine ch aZ ?_
  refine bu ax 3 ?_
  exact Ag ⟨[(ax+3)],[],[],[]⟩ (⟨_,rfl,kn,kn⟩)
 refine cm aF ?_
 refine ch aF ?_
 refine bu R 9 ?_
 refine nv ⟨[M,z,A,H,L,I,B,J,q,(q+5),(v.length:Int),((q+5)+64),(((q+5)+64)+1),j,(j+2),((j+2)+4),(((j+2)+4)+3),R,(R+9)],[v,x],[(Ai ps),(S.Aa fb),(E.Aa C)],[]⟩ ?_
 obtain ⟨_,⟨ap,rfl,b2,bU⟩,aN⟩:=Bj H L I B J (R+9) x (E.Aa C) N rfl
 refine ch aN ?_
 refine bu ap 3 ?_
 exact Ag ⟨[(ap+3)],[],[],[]⟩ (⟨_,rfl,kn,kn⟩)
def AmI (N n:Nat):Prop:=∀{l:List Fe} (ln len:Int) (j g:Int) (sub B:Int) (pl fl:Int) (C v:Int) (z:List Nat) (L H:Rs) (P A R:Rs) (I:L=Ak l) (J:NQ l) (h:ln=L.length/\len=ln/\0<=j/\j<=ln/\ln<=8/\ln<=2/\0<=v/\v+80000*(ln-j)<=200000/\(ln-j).toNat<n),Ok trees N ⟨[ln,len,j,g,sub,B,pl,fl,C,v],[z],[L,H,P,A,R],[]⟩ fun x=>(x=(0,v0))∨(∃(q:Int),x=(1,(⟨[q],[],[],[]⟩:Aj))/\(q<=200000)/\(v<=q))
def AlM (N:Nat):Prop:=∀{l:List Fe} (ln len:Int) (j g:Int) (sub B:Int) (pl fl:Int) (C v:Int) (z:List Nat) (L H:Rs) (P A R:Rs) (I:L=Ak l) (J:NQ l) (h:ln=L.length/\len=ln/\0<=j/\j<=ln/\ln<=8/\ln<=2/\0<=v/\v+80000*(ln-j)<=200000:=by exact kn),Ok trees N ⟨[ln,len,j,g,sub,B,pl,fl,C,v],[z],[L,H,P,A,R],[]⟩ fun x=>(x=(0,v0))∨(∃(q:Int),x=(1,(⟨[q],[],[],[]⟩:Aj))/\(q<=200000)/\(v<=q))
theorem Aim (n:Nat):AmI 178 n:=by
 induction n with
 |zero=>intro l ln len j g sub al pl fl rl Z O L Ar P Fs R hL U h;exact absurd h.2.2.2.2.2.2.2.2 (Nat.not_lt_zero _)
 |succ n ih=>
 intro l ln len j g sub al pl fl rl Z O L Ar P Fs R hL U h
 subst hL
 refine .of (t:=Y6) rfl ?_
 conv=>arg 3;reduce
 refine lt j len (fun t1=>?_) fun t1=>?_
 ·refine CO j 0 ?_
  refine B8 j ln ?_
  obtain ⟨Q,A,z,v,M,I,H,J,B,x,Y,V⟩:=FH (l:=l) j om om
  refine el Y ?_
  have q:=U _ _ V;obtain ⟨az,aA,ay⟩:=q.a;have ag:(Ai A).length<=2:=(by have:=q.pl;simpa [Ai]using this);have ah:S.Ay v<=2:=q.dp;have aq:S.Ad v<=160:=q.nd;have ap:(E.node M I H B J x).nodes<=13:=q.rn;have aj:(E.node M I H B J x).high<=5:=q.rh;have an:1<=z/\z<=3:=q.ty;have ao:=S.len v;have ak:=S.A0 v;have au:=E.A0 x
  obtain ⟨_,⟨C,rfl,av,ax⟩,G3⟩:=AdZ ((Ai A).length:Int) z ((S.Aa v).length:Int) M I H B ((E.Aa x).length:Int) Z Q J (Ai A) (S.Aa v) (E.Aa x) rfl q.ps q.nm rfl rfl q.fb asm
  refine ch G3 ?_
  obtain ⟨_,(rfl|⟨N,rfl,af,ai⟩),X⟩:=ih ln len (j+1) g sub al pl fl rl C O (Ak l) Ar P Fs R rfl U kn
  ·refine ch X ?_
   exact Ag ⟨[C],[],[],[]⟩ (.inr ((⟨_,rfl,kn,kn⟩)))
  refine cm X ?_
  refine ch X ?_
  exact Ag ⟨[N],[],[],[]⟩ (.inr ((⟨_,rfl,kn,kn⟩)))
 exact Ag v0 (.inl rfl)
theorem AkH:AlM 178:=fun {l} ln len j g sub al pl fl rl sz knm L Ar P Fs R hL hp h=>Aim ((ln-j).toNat+1) ln len j g sub al pl fl rl sz knm L Ar P Fs R hL hp ⟨h.1,h.2.1,h.2.2.1,h.2.2.2.1,h.2.2.2.2.1,h.2.2.2.2.2.1,h.2.2.2.2.2.2.1,h.2.2.2.2.2.2.2,Nat.lt_succ_self _⟩
end
end Go.Proofs.YtbmofjdmgjpfoaaGreatDoor.Am
