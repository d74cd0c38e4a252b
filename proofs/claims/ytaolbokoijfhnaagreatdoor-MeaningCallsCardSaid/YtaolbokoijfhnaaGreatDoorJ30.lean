/- Part 30 of MeaningCalls. -/
import Derived.Test.YtaolbokoijfhnaaGreatDoorJ16
import Derived.Test.YtaolbokoijfhnaaGreatDoorJ17
import Derived.Test.YtaolbokoijfhnaaGreatDoorJ25
import Derived.Test.YtaolbokoijfhnaaGreatDoorJ29
set_option linter.all false
namespace Go.Proofs.YtaolbokoijfhnaaGreatDoor.Am
section
set_option maxHeartbeats 40000000
set_option maxRecDepth 100000
open Go.AM Go.AM.K
def Amv (N:Nat):Prop:=∀(v q:Int) (op n:Int) (j x:Rs) (H:BV j) (B:BV x) (A:v=j.length) (C:q=x.length) (h:v<=140737488355328/\q<=140737488355328/\0<=op/\op<=255/\0<=n/\n<=255:=by exact kn),Ok trees N ⟨[v,q,op,n],[],[j,x],[]⟩ fun z=>(z=(1,v0))
theorem Alu:Amv 204:=by
 intro b0 b1 op n B0 B1 bb a2 bw bC h
 refine .of (t:=YT) rfl ?_
 conv=>arg 3;reduce
 obtain ⟨_,⟨ao,ae,ai,af,ah,ak,aj,an,ag,ap,rfl,aX,bR,bK,bE,bN⟩,G1⟩:=c_4 bb bw
 refine ch G1 ?_
 refine nv ⟨[b0,b1,op,n,ao,ae,ai,af,ah,ak],[],[B0,B1,aj,an,ag,ap],[]⟩ ?_
 obtain ⟨_,aD,aA,az,a1⟩:=aX.body
 obtain ⟨_,⟨x,z,v,B,O,A,V,rfl,ad,bV⟩,G2⟩:=Ae3 ao ae ai af ah ak 1 [107] aj an ag ap aD aA az
 refine ch G2 ?_
 refine nv ⟨[b0,b1,op,n,ao,ae,ai,af,ah,ak,x,z,v,B,O],[A],[B0,B1,aj,an,ag,ap,V],[]⟩ ?_
 obtain ⟨_,⟨aC,al,av,aq,ax,au,aw,aB,ay,aE,rfl,aW,bF,bM,bQ,bS⟩,G3⟩:=c_4 a2 bC
 refine ch G3 ?_
 refine nv ⟨[b0,b1,op,n,ao,ae,ai,af,ah,ak,x,z,v,B,O,aC,al,av,aq,ax,au],[A],[B0,B1,aj,an,ag,ap,V,aw,aB,ay,aE],[]⟩ ?_
 obtain ⟨_,aD,aA,az,a1⟩:=aW.body
 obtain ⟨_,⟨C,I,L,J,U,H,X,rfl,ac,bL⟩,G4⟩:=Ae3 aC al av aq ax au 1 [107] aw aB ay aE aD aA az
 refine ch G4 ?_
 refine nv ⟨[b0,b1,op,n,ao,ae,ai,af,ah,ak,x,z,v,B,O,aC,al,av,aq,ax,au,C,I,L,J,U],[A,H],[B0,B1,aj,an,ag,ap,V,aw,aB,ay,aE,X],[]⟩ ?_
 refine eq (op%12) 0 (fun t5=>?_) fun t5=>?_
 ·try (obtain ⟨N,Y,R,ab⟩:=ad;obtain ⟨M,aa,P,Z⟩:=ac;have Q:0<=n%4/\n%4<=3:=om;have j:=(CT.val R Q).1;have q:=(CT.val P Q).1)
  obtain ⟨_,rfl,G6⟩:=GI N M (n%4) x z v B O C I L J U 0 10 x z v B O C I L J U A H A H V X V X R P Y aa ab Z (by decide) (⟨rfl,rfl,rfl,rfl,rfl,rfl,rfl,rfl,rfl,rfl,rfl,rfl,rfl,rfl⟩)
  refine cm G6 ?_
  refine ch G6 ?_
  obtain ⟨_,rfl,G7⟩:=CP 10 ((E.node x z v B A N).val (n%4)) ((E.node C I L J H M).val (n%4)) (by decide) (by first|exact j|(rw [<-An j q (by decide)];exact A0 j q (by decide))) (by first|exact q|(rw [<-An j q (by decide)];exact A0 j q (by decide)))
  refine ch G7 ?_
  refine Bw (Ce 10 ((E.node x z v B A N).val (n%4)) ((E.node C I L J H M).val (n%4))) (AN 10 ((E.node x z v B A N).val (n%4)) ((E.node C I L J H M).val (n%4))) ?_ (by first|omega|exact An j q (by decide) |(rw [<-An j q (by decide)];exact An (A0 j q (by decide)) (A0 j q (by decide)) (by decide)))
  obtain ⟨_,rfl,G8⟩:=CP 10 (AN 10 ((E.node x z v B A N).val (n%4)) ((E.node C I L J H M).val (n%4))) (AN 10 ((E.node x z v B A N).val (n%4)) ((E.node C I L J H M).val (n%4))) (by decide) (by first|exact j|(rw [<-An j q (by decide)];exact A0 j q (by decide))) (by first|exact q|(rw [<-An j q (by decide)];exact A0 j q (by decide)))
  refine ch G8 ?_
  refine Bw (Ce 10 (Ce 10 ((E.node x z v B A N).val (n%4)) ((E.node C I L J H M).val (n%4))) (Ce 10 ((E.node x z v B A N).val (n%4)) ((E.node C I L J H M).val (n%4)))) (AN 10 (AN 10 ((E.node x z v B A N).val (n%4)) ((E.node C I L J H M).val (n%4))) (AN 10 ((E.node x z v B A N).val (n%4)) ((E.node C I L J H M).val (n%4)))) ?_ (by first|omega|exact An j q (by decide) |(rw [<-An j q (by decide)];exact An (A0 j q (by decide)) (A0 j q (by decide)) (by decide)))
  exact Ah v0 (rfl)
 refine eq (op%12) 1 (fun t9=>?_) fun t9=>?_
 ·try (obtain ⟨N,Y,R,ab⟩:=ad;obtain ⟨M,aa,P,Z⟩:=ac;have Q:0<=n%4/\n%4<=3:=om;have j:=(CT.val R Q).1;have q:=(CT.val P Q).1)
  obtain ⟨_,rfl,aN⟩:=GI N M (n%4) x z v B O C I L J U 0 11 x z v B O C I L J U A H A H V X V X R P Y aa ab Z (by decide) (⟨rfl,rfl,rfl,rfl,rfl,rfl,rfl,rfl,rfl,rfl,rfl,rfl,rfl,rfl⟩)
  refine cm aN ?_
  refine ch aN ?_
  obtain ⟨_,rfl,bg⟩:=CP 11 ((E.node x z v B A N).val (n%4)) ((E.node C I L J H M).val (n%4)) (by decide) (by first|exact j|(rw [<-An j q (by decide)];exact A0 j q (by decide))) (by first|exact q|(rw [<-An j q (by decide)];exact A0 j q (by decide)))
  refine ch bg ?_
  refine Bw (Ce 11 ((E.node x z v B A N).val (n%4)) ((E.node C I L J H M).val (n%4))) (AN 11 ((E.node x z v B A N).val (n%4)) ((E.node C I L J H M).val (n%4))) ?_ (by first|omega|exact An j q (by decide) |(rw [<-An j q (by decide)];exact An (A0 j q (by decide)) (A0 j q (by decide)) (by decide)))
  obtain ⟨_,rfl,bt⟩:=CP 11 (AN 11 ((E.node x z v B A N).val (n%4)) ((E.node C I L J H M).val (n%4))) (AN 11 ((E.node x z v B A N).val (n%4)) ((E.node C I L J H M).val (n%4))) (by decide) (by first|exact j|(rw [<-An j q (by decide)];exact A0 j q (by decide))) (by first|exact q|(rw [<-An j q (by decide)];exact A0 j q (by decide)))
  refine ch bt ?_
  refine Bw (Ce 11 (Ce 11 ((E.node x z v B A N).val (n%4)) ((E.node C I L J H M).val (n%4))) (Ce 11 ((E.node x z v B A N).val (n%4)) ((E.node C I L J H M).val (n%4)))) (AN 11 (AN 11 ((E.node x z v B A N).val (n%4)) ((E.node C I L J H M).val (n%4))) (AN 11 ((E.node x z v B A N).val (n%4)) ((E.node C I L J H M).val (n%4)))) ?_ (by first|omega|exact An j q (by decide) |(rw [<-An j q (by decide)];exact An (A0 j q (by decide)) (A0 j q (by decide)) (by decide)))
  exact Ah v0 (rfl)
 refine eq (op%12) 2 (fun a6=>?_) fun a6=>?_
 ·try (obtain ⟨N,Y,R,ab⟩:=ad;obtain ⟨M,aa,P,Z⟩:=ac;have Q:0<=n%4/\n%4<=3:=om;have j:=(CT.val R Q).1;have q:=(CT.val P Q).1)
  obtain ⟨_,rfl,aV⟩:=GI N M (n%4) x z v B O C I L J U 0 12 x z v B O C I L J U A H A H V X V X R P Y aa ab Z (by decide) (⟨rfl,rfl,rfl,rfl,rfl,rfl,rfl,rfl,rfl,rfl,rfl,rfl,rfl,rfl⟩)
  refine cm aV ?_
  refine ch aV ?_
  obtain ⟨_,rfl,bv⟩:=CP 12 ((E.node x z v B A N).val (n%4)) ((E.node C I L J H M).val (n%4)) (by decide) (by first|exact j|(rw [<-An j q (by decide)];exact A0 j q (by decide))) (by first|exact q|(rw [<-An j q (by decide)];exact A0 j q (by decide)))
  refine ch bv ?_
  refine Bw (Ce 12 ((E.node x z v B A N).val (n%4)) ((E.node C I L J H M).val (n%4))) (AN 12 ((E.node x z v B A N).val (n%4)) ((E.node C I L J H M).val (n%4))) ?_ (by first|omega|exact An j q (by decide) |(rw [<-An j q (by decide)];exact An (A0 j q (by decide)) (A0 j q (by decide)) (by decide)))
  obtain ⟨_,rfl,br⟩:=CP 12 (AN 12 ((E.node x z v B A N).val (n%4)) ((E.node C I L J H M).val (n%4))) (AN 12 ((E.node x z v B A N).val (n%4)) ((E.node C I L J H M).val (n%4))) (by decide) (by first|exact j|(rw [<-An j q (by decide)];exact A0 j q (by decide))) (by first|exact q|(rw [<-An j q (by decide)];exact A0 j q (by decide)))
  refine ch br ?_
  refine Bw (Ce 12 (Ce 12 ((E.node x z v B A N).val (n%4)) ((E.node C I L J H M).val (n%4))) (Ce 12 ((E.node x z v B A N).val (n%4)) ((E.node C I L J H M).val (n%4)))) (AN 12 (AN 12 ((E.node x z v B A N).val (n%4)) ((E.node C I L J H M).val (n%4))) (AN 12 ((E.node x z v B A N).val (n%4)) ((E.node C I L J H M).val (n%4)))) ?_ (by first|omega|exact An j q (by decide) |(rw [<-An j q (by decide)];exact An (A0 j q (by decide)) (A0 j q (by decide)) (by decide)))
  exact Ah v0 (rfl)
 refine eq (op%12) 3 (fun bn=>?_) fun bn=>?_
 ·try (obtain ⟨N,Y,R,ab⟩:=ad;obtain ⟨M,aa,P,Z⟩:=ac;have Q:0<=n%4/\n%4<=3:=om;have j:=(CT.val R Q).1;have q:=(CT.val P Q).1)
  obtain ⟨_,rfl,aL⟩:=GI N M (n%4) x z v B O C I L J U 0 13 x z v B O C I L J U A H A H V X V X R P Y aa ab Z (by decide) (⟨rfl,rfl,rfl,rfl,rfl,rfl,rfl,rfl,rfl,rfl,rfl,rfl,rfl,rfl⟩)
  refine cm aL ?_
  refine ch aL ?_
  obtain ⟨_,rfl,bz⟩:=CP 13 ((E.node x z v B A N).val (n%4)) ((E.node C I L J H M).val (n%4)) (by decide) (by first|exact j|(rw [<-An j q (by decide)];exact A0 j q (by decide))) (by first|exact q|(rw [<-An j q (by decide)];exact A0 j q (by decide)))
  refine ch bz ?_
  refine Bw (Ce 13 ((E.node x z v B A N).val (n%4)) ((E.node C I L J H M).val (n%4))) (AN 13 ((E.node x z v B A N).val (n%4)) ((E.node C I L J H M).val (n%4))) ?_ (by first|omega|exact An j q (by decide) |(rw [<-An j q (by decide)];exact An (A0 j q (by decide)) (A0 j q (by decide)) (by decide)))
  obtain ⟨_,rfl,a5⟩:=CP 13 (AN 13 ((E.node x z v B A N).val (n%4)) ((E.node C I L J H M).val (n%4))) (AN 13 ((E.node x z v B A N).val (n%4)) ((E.node C I L J H M).val (n%4))) (by decide) (by first|exact j|(rw [<-An j q (by decide)];exact A0 j q (by decide))) (by first|exact q|(rw [<-An j q (by decide)];exact A0 j q (by decide)))
  refine ch a5 ?_
  refine Bw (Ce 13 (Ce 13 ((E.node x z v B A N).val (n%4)) ((E.node C I L J H M).val (n%4))) (Ce 13 ((E.node x z v B A N).val (n%4)) ((E.node C I L J H M).val (n%4)))) (AN 13 (AN 13 ((E.node x z v B A N).val (n%4)) ((E.node C I L J H M).val (n%4))) (AN 13 ((E.node x z v B A N).val (n%4)) ((E.node C I L J H M).val (n%4)))) ?_ (by first|omega|exact An j q (by decide) |(rw [<-An j q (by decide)];exact An (A0 j q (by decide)) (A0 j q (by decide)) (by decide)))
  exact Ah v0 (rfl)
 refine eq (op%12) 4 (fun bp=>?_) fun bp=>?_
 ·try (obtain ⟨N,Y,R,ab⟩:=ad;obtain ⟨M,aa,P,Z⟩:=ac;have Q:0<=n%4/\n%4<=3:=om;have j:=(CT.val R Q).1;have q:=(CT.val P Q).1)
  obtain ⟨_,rfl,aQ⟩:=GI N M (n%4) x z v B O C I L J U 0 14 x z v B O C I L J U A H A H V X V X R P Y aa ab Z (by decide) (⟨rfl,rfl,rfl,rfl,rfl,rfl,rfl,rfl,rfl,rfl,rfl,rfl,rfl,rfl⟩)
  refine cm aQ ?_
  refine ch aQ ?_
  obtain ⟨_,rfl,aZ⟩:=CP 14 ((E.node x z v B A N).val (n%4)) ((E.node C I L J H M).val (n%4)) (by decide) (by first|exact j|(rw [<-An j q (by decide)];exact A0 j q (by decide))) (by first|exact q|(rw [<-An j q (by decide)];exact A0 j q (by decide)))
  refine ch aZ ?_
  refine Bw (Ce 14 ((E.node x z v B A N).val (n%4)) ((E.node C I L J H M).val (n%4))) (AN 14 ((E.node x z v B A N).val (n%4)) ((E.node C I L J H M).val (n%4))) ?_ (by first|omega|exact An j q (by decide) |(rw [<-An j q (by decide)];exact An (A0 j q (by decide)) (A0 j q (by decide)) (by decide)))
  obtain ⟨_,rfl,bf⟩:=CP 14 (AN 14 ((E.node x z v B A N).val (n%4)) ((E.node C I L J H M).val (n%4))) (AN 14 ((E.node x z v B A N).val (n%4)) ((E.node C I L J H M).val (n%4))) (by decide) (by first|exact j|(rw [<-An j q (by decide)];exact A0 j q (by decide))) (by first|exact q|(rw [<-An j q (by decide)];exact A0 j q (by decide)))
  refine ch bf ?_
  refine Bw (Ce 14 (Ce 14 ((E.node x z v B A N).val (n%4)) ((E.node C I L J H M).val (n%4))) (Ce 14 ((E.node x z v B A N).val (n%4)) ((E.node C I L J H M).val (n%4)))) (AN 14 (AN 14 ((E.node x z v B A N).val (n%4)) ((E.node C I L J H M).val (n%4))) (AN 14 ((E.node x z v B A N).val (n%4)) ((E.node C I L J H M).val (n%4)))) ?_ (by first|omega|exact An j q (by decide) |(rw [<-An j q (by decide)];exact An (A0 j q (by decide)) (A0 j q (by decide)) (by decide)))
  exact Ah v0 (rfl)
 refine eq (op%12) 5 (fun a0=>?_) fun a0=>?_
 ·try (obtain ⟨N,Y,R,ab⟩:=ad;obtain ⟨M,aa,P,Z⟩:=ac;have Q:0<=n%4/\n%4<=3:=om;have j:=(CT.val R Q).1;have q:=(CT.val P Q).1)
  obtain ⟨_,rfl,aR⟩:=GI N M (n%4) x z v B O C I L J U 0 17 x z v B O C I L J U A H A H V X V X R P Y aa ab Z (by decide) (⟨rfl,rfl,rfl,rfl,rfl,rfl,rfl,rfl,rfl,rfl,rfl,rfl,rfl,rfl⟩)
  refine cm aR ?_
  refine ch aR ?_
  obtain ⟨_,rfl,bh⟩:=CP 17 ((E.node x z v B A N).val (n%4)) ((E.node C I L J H M).val (n%4)) (by decide) (by first|exact j|(rw [<-An j q (by decide)];exact A0 j q (by decide))) (by first|exact q|(rw [<-An j q (by decide)];exact A0 j q (by decide)))
  refine ch bh ?_
  refine Bw (Ce 17 ((E.node x z v B A N).val (n%4)) ((E.node C I L J H M).val (n%4))) (AN 17 ((E.node x z v B A N).val (n%4)) ((E.node C I L J H M).val (n%4))) ?_ (by first|omega|exact An j q (by decide) |(rw [<-An j q (by decide)];exact An (A0 j q (by decide)) (A0 j q (by decide)) (by decide)))
  obtain ⟨_,rfl,bo⟩:=CP 17 (AN 17 ((E.node x z v B A N).val (n%4)) ((E.node C I L J H M).val (n%4))) (AN 17 ((E.node x z v B A N).val (n%4)) ((E.node C I L J H M).val (n%4))) (by decide) (by first|exact j|(rw [<-An j q (by decide)];exact A0 j q (by decide))) (by first|exact q|(rw [<-An j q (by decide)];exact A0 j q (by decide)))
  refine ch bo ?_
  refine Bw (Ce 17 (Ce 17 ((E.node x z v B A N).val (n%4)) ((E.node C I L J H M).val (n%4))) (Ce 17 ((E.node x z v B A N).val (n%4)) ((E.node C I L J H M).val (n%4)))) (AN 17 (AN 17 ((E.node x z v B A N).val (n%4)) ((E.node C I L J H M).val (n%4))) (AN 17 ((E.node x z v B A N).val (n%4)) ((E.node C I L J H M).val (n%4)))) ?_ (by first|omega|exact An j q (by decide) |(rw [<-An j q (by decide)];exact An (A0 j q (by decide)) (A0 j q (by decide)) (by decide)))
  exact Ah v0 (rfl)
 refine eq (op%12) 6 (fun bx=>?_) fun bx=>?_
 ·try (obtain ⟨N,Y,R,ab⟩:=ad;obtain ⟨M,aa,P,Z⟩:=ac;have Q:0<=n%4/\n%4<=3:=om;have j:=(CT.val R Q).1;have q:=(CT.val P Q).1)
  obtain ⟨_,rfl,aO⟩:=GI N M (n%4) x z v B O C I L J U 0 18 x z v B O C I L J U A H A H V X V X R P Y aa ab Z (by decide) (⟨rfl,rfl,rfl,rfl,rfl,rfl,rfl,rfl,rfl,rfl,rfl,rfl,rfl,rfl⟩)
  refine cm aO ?_
  refine ch aO ?_
  obtain ⟨_,rfl,bi⟩:=CP 18 ((E.node x z v B A N).val (n%4)) ((E.node C I L J H M).val (n%4)) (by decide) (by first|exact j|(rw [<-An j q (by decide)];exact A0 j q (by decide))) (by first|exact q|(rw [<-An j q (by decide)];exact A0 j q (by decide)))
  refine ch bi ?_
  refine Bw (Ce 18 ((E.node x z v B A N).val (n%4)) ((E.node C I L J H M).val (n%4))) (AN 18 ((E.node x z v B A N).val (n%4)) ((E.node C I L J H M).val (n%4))) ?_ (by first|omega|exact An j q (by decide) |(rw [<-An j q (by decide)];exact An (A0 j q (by decide)) (A0 j q (by decide)) (by decide)))
  obtain ⟨_,rfl,be⟩:=CP 18 (AN 18 ((E.node x z v B A N).val (n%4)) ((E.node C I L J H M).val (n%4))) (AN 18 ((E.node x z v B A N).val (n%4)) ((E.node C I L J H M).val (n%4))) (by decide) (by first|exact j|(rw [<-An j q (by decide)];exact A0 j q (by decide))) (by first|exact q|(rw [<-An j q (by decide)];exact A0 j q (by decide)))
  refine ch be ?_
  refine Bw (Ce 18 (Ce 18 ((E.node x z v B A N).val (n%4)) ((E.node C I L J H M).val (n%4))) (Ce 18 ((E.node x z v B A N).val (n%4)) ((E.node C I L J H M).val (n%4)))) (AN 18 (AN 18 ((E.node x z v B A N).val (n%4)) ((E.node C I L J H M).val (n%4))) (AN 18 ((E.node x z v B A N).val (n%4)) ((E.node C I L J H M).val (n%4)))) ?_ (by first|omega|exact An j q (by decide) |(rw [<-An j q (by decide)];exact An (A0 j q (by decide)) (A0 j q (by decide)) (by decide)))
  exact Ah v0 (rfl)
 refine eq (op%12) 7 (fun a4=>?_) fun a4=>?_
 ·try (obtain ⟨N,Y,R,ab⟩:=ad;obtain ⟨M,aa,P,Z⟩:=ac;have Q:0<=n%4/\n%4<=3:=om;have j:=(CT.val R Q).1;have q:=(CT.val P Q).1)
  obtain ⟨_,rfl,aJ⟩:=GI N M (n%4) x z v B O C I L J U 0 19 x z v B O C I L J U A H A H V X V X R P Y aa ab Z (by decide) (⟨rfl,rfl,rfl,rfl,rfl,rfl,rfl,rfl,rfl,rfl,rfl,rfl,rfl,rfl⟩)
  refine cm aJ ?_
  refine ch aJ ?_
  obtain ⟨_,rfl,a7⟩:=CP 19 ((E.node x z v B A N).val (n%4)) ((E.node C I L J H M).val (n%4)) (by decide) (by first|exact j|(rw [<-An j q (by decide)];exact A0 j q (by decide))) (by first|exact q|(rw [<-An j q (by decide)];exact A0 j q (by decide)))
  refine ch a7 ?_
  refine Bw (Ce 19 ((E.node x z v B A N).val (n%4)) ((E.node C I L J H M).val (n%4))) (AN 19 ((E.node x z v B A N).val (n%4)) ((E.node C I L J H M).val (n%4))) ?_ (by first|omega|exact An j q (by decide) |(rw [<-An j q (by decide)];exact An (A0 j q (by decide)) (A0 j q (by decide)) (by decide)))
  obtain ⟨_,rfl,bk⟩:=CP 19 (AN 19 ((E.node x z v B A N).val (n%4)) ((E.node C I L J H M).val (n%4))) (AN 19 ((E.node x z v B A N).val (n%4)) ((E.node C I L J H M).val (n%4))) (by decide) (by first|exact j|(rw [<-An j q (by decide)];exact A0 j q (by decide))) (by first|exact q|(rw [<-An j q (by decide)];exact A0 j q (by decide)))
  refine ch bk ?_
  refine Bw (Ce 19 (Ce 19 ((E.node x z v B A N).val (n%4)) ((E.node C I L J H M).val (n%4))) (Ce 19 ((E.node x z v B A N).val (n%4)) ((E.node C I L J H M).val (n%4)))) (AN 19 (AN 19 ((E.node x z v B A N).val (n%4)) ((E.node C I L J H M).val (n%4))) (AN 19 ((E.node x z v B A N).val (n%4)) ((E.node C I L J H M).val (n%4)))) ?_ (by first|omega|exact An j q (by decide) |(rw [<-An j q (by decide)];exact An (A0 j q (by decide)) (A0 j q (by decide)) (by decide)))
  exact Ah v0 (rfl)
 refine eq (op%12) 8 (fun bA=>?_) fun bA=>?_
 ·try (obtain ⟨N,Y,R,ab⟩:=ad;obtain ⟨M,aa,P,Z⟩:=ac;have Q:0<=n%4/\n%4<=3:=om;have j:=(CT.val R Q).1;have q:=(CT.val P Q).1)
  obtain ⟨_,rfl,aM⟩:=GI N M (n%4) x z v B O C I L J U 0 20 x z v B O C I L J U A H A H V X V X R P Y aa ab Z (by decide) (⟨rfl,rfl,rfl,rfl,rfl,rfl,rfl,rfl,rfl,rfl,rfl,rfl,rfl,rfl⟩)
  refine cm aM ?_
  refine ch aM ?_
  obtain ⟨_,rfl,a8⟩:=CP 20 ((E.node x z v B A N).val (n%4)) ((E.node C I L J H M).val (n%4)) (by decide) (by first|exact j|(rw [<-An j q (by decide)];exact A0 j q (by decide))) (by first|exact q|(rw [<-An j q (by decide)];exact A0 j q (by decide)))
  refine ch a8 ?_
  refine Bw (Ce 20 ((E.node x z v B A N).val (n%4)) ((E.node C I L J H M).val (n%4))) (AN 20 ((E.node x z v B A N).val (n%4)) ((E.node C I L J H M).val (n%4))) ?_ (by first|omega|exact An j q (by decide) |(rw [<-An j q (by decide)];exact An (A0 j q (by decide)) (A0 j q (by decide)) (by decide)))
  obtain ⟨_,rfl,a9⟩:=CP 20 (AN 20 ((E.node x z v B A N).val (n%4)) ((E.node C I L J H M).val (n%4))) (AN 20 ((E.node x z v B A N).val (n%4)) ((E.node C I L J H M).val (n%4))) (by decide) (by first|exact j|(rw [<-An j q (by decide)];exact A0 j q (by decide))) (by first|exact q|(rw [<-An j q (by decide)];exact A0 j q (by decide)))
  refine ch a9 ?_
  refine Bw (Ce 20 (Ce 20 ((E.node x z v B A N).val (n%4)) ((E.node C I L J H M).val (n%4))) (Ce 20 ((E.node x z v B A N).val (n%4)) ((E.node C I L J H M).val (n%4)))) (AN 20 (AN 20 ((E.node x z v B A N).val (n%4)) ((E.node C I L J H M).val (n%4))) (AN 20 ((E.node x z v B A N).val (n%4)) ((E.node C I L J H M).val (n%4)))) ?_ (by first|omega|exact An j q (by decide) |(rw [<-An j q (by decide)];exact An (A0 j q (by decide)) (A0 j q (by decide)) (by decide)))
  exact Ah v0 (rfl)
 refine eq (op%12) 9 (fun bc=>?_) fun bc=>?_
 ·try (obtain ⟨N,Y,R,ab⟩:=ad;obtain ⟨M,aa,P,Z⟩:=ac;have Q:0<=n%4/\n%4<=3:=om;have j:=(CT.val R Q).1;have q:=(CT.val P Q).1)
  obtain ⟨_,rfl,aK⟩:=GI N M (n%4) x z v B O C I L J U 0 21 x z v B O C I L J U A H A H V X V X R P Y aa ab Z (by decide) (⟨rfl,rfl,rfl,rfl,rfl,rfl,rfl,rfl,rfl,rfl,rfl,rfl,rfl,rfl⟩)
  refine cm aK ?_
  refine ch aK ?_
  obtain ⟨_,rfl,bm⟩:=CP 21 ((E.node x z v B A N).val (n%4)) ((E.node C I L J H M).val (n%4)) (by decide) (by first|exact j|(rw [<-An j q (by decide)];exact A0 j q (by decide))) (by first|exact q|(rw [<-An j q (by decide)];exact A0 j q (by decide)))
  refine ch bm ?_
  refine Bw (Ce 21 ((E.node x z v B A N).val (n%4)) ((E.node C I L J H M).val (n%4))) (AN 21 ((E.node x z v B A N).val (n%4)) ((E.node C I L J H M).val (n%4))) ?_ (by first|omega|exact An j q (by decide) |(rw [<-An j q (by decide)];exact An (A0 j q (by decide)) (A0 j q (by decide)) (by decide)))
  obtain ⟨_,rfl,bD⟩:=CP 21 (AN 21 ((E.node x z v B A N).val (n%4)) ((E.node C I L J H M).val (n%4))) (AN 21 ((E.node x z v B A N).val (n%4)) ((E.node C I L J H M).val (n%4))) (by decide) (by first|exact j|(rw [<-An j q (by decide)];exact A0 j q (by decide))) (by first|exact q|(rw [<-An j q (by decide)];exact A0 j q (by decide)))
  refine ch bD ?_
  refine Bw (Ce 21 (Ce 21 ((E.node x z v B A N).val (n%4)) ((E.node C I L J H M).val (n%4))) (Ce 21 ((E.node x z v B A N).val (n%4)) ((E.node C I L J H M).val (n%4)))) (AN 21 (AN 21 ((E.node x z v B A N).val (n%4)) ((E.node C I L J H M).val (n%4))) (AN 21 ((E.node x z v B A N).val (n%4)) ((E.node C I L J H M).val (n%4)))) ?_ (by first|omega|exact An j q (by decide) |(rw [<-An j q (by decide)];exact An (A0 j q (by decide)) (A0 j q (by decide)) (by decide)))
  exact Ah v0 (rfl)
 refine eq (op%12) 10 (fun bj=>?_) fun bj=>?_
 ·try (obtain ⟨N,Y,R,ab⟩:=ad;obtain ⟨M,aa,P,Z⟩:=ac;have Q:0<=n%4/\n%4<=3:=om;have j:=(CT.val R Q).1;have q:=(CT.val P Q).1)
  obtain ⟨_,rfl,aU⟩:=GI N M (n%4) x z v B O C I L J U 0 22 x z v B O C I L J U A H A H V X V X R P Y aa ab Z (by decide) (⟨rfl,rfl,rfl,rfl,rfl,rfl,rfl,rfl,rfl,rfl,rfl,rfl,rfl,rfl⟩)
  refine cm aU ?_
  refine ch aU ?_
  obtain ⟨_,rfl,bl⟩:=CP 22 ((E.node x z v B A N).val (n%4)) ((E.node C I L J H M).val (n%4)) (by decide) (by first|exact j|(rw [<-An j q (by decide)];exact A0 j q (by decide))) (by first|exact q|(rw [<-An j q (by decide)];exact A0 j q (by decide)))
  refine ch bl ?_
  refine Bw (Ce 22 ((E.node x z v B A N).val (n%4)) ((E.node C I L J H M).val (n%4))) (AN 22 ((E.node x z v B A N).val (n%4)) ((E.node C I L J H M).val (n%4))) ?_ (by first|omega|exact An j q (by decide) |(rw [<-An j q (by decide)];exact An (A0 j q (by decide)) (A0 j q (by decide)) (by decide)))
  obtain ⟨_,rfl,ba⟩:=CP 22 (AN 22 ((E.node x z v B A N).val (n%4)) ((E.node C I L J H M).val (n%4))) (AN 22 ((E.node x z v B A N).val (n%4)) ((E.node C I L J H M).val (n%4))) (by decide) (by first|exact j|(rw [<-An j q (by decide)];exact A0 j q (by decide))) (by first|exact q|(rw [<-An j q (by decide)];exact A0 j q (by decide)))
  refine ch ba ?_
  refine Bw (Ce 22 (Ce 22 ((E.node x z v B A N).val (n%4)) ((E.node C I L J H M).val (n%4))) (Ce 22 ((E.node x z v B A N).val (n%4)) ((E.node C I L J H M).val (n%4)))) (AN 22 (AN 22 ((E.node x z v B A N).val (n%4)) ((E.node C I L J H M).val (n%4))) (AN 22 ((E.node x z v B A N).val (n%4)) ((E.node C I L J H M).val (n%4)))) ?_ (by first|omega|exact An j q (by decide) |(rw [<-An j q (by decide)];exact An (A0 j q (by decide)) (A0 j q (by decide)) (by decide)))
  exact Ah v0 (rfl)
 refine Bw (op%12) 11 ?_ (by first|omega|exact An j q (by decide) |(rw [<-An j q (by decide)];exact An (A0 j q (by decide)) (A0 j q (by decide)) (by decide)))
 try (obtain ⟨N,Y,R,ab⟩:=ad;obtain ⟨M,aa,P,Z⟩:=ac;have Q:0<=n%4/\n%4<=3:=om;have j:=(CT.val R Q).1;have q:=(CT.val P Q).1)
 obtain ⟨_,rfl,aP⟩:=GI N M (n%4) x z v B O C I L J U 0 23 x z v B O C I L J U A H A H V X V X R P Y aa ab Z (by decide) (⟨rfl,rfl,rfl,rfl,rfl,rfl,rfl,rfl,rfl,rfl,rfl,rfl,rfl,rfl⟩)
 refine cm aP ?_
 refine ch aP ?_
 obtain ⟨_,rfl,bB⟩:=CP 23 ((E.node x z v B A N).val (n%4)) ((E.node C I L J H M).val (n%4)) (by decide) (by first|exact j|(rw [<-An j q (by decide)];exact A0 j q (by decide))) (by first|exact q|(rw [<-An j q (by decide)];exact A0 j q (by decide)))
 refine ch bB ?_
 refine Bw (Ce 23 ((E.node x z v B A N).val (n%4)) ((E.node C I L J H M).val (n%4))) (AN 23 ((E.node x z v B A N).val (n%4)) ((E.node C I L J H M).val (n%4))) ?_ (by first|omega|exact An j q (by decide) |(rw [<-An j q (by decide)];exact An (A0 j q (by decide)) (A0 j q (by decide)) (by decide)))
 obtain ⟨_,rfl,aY⟩:=CP 23 (AN 23 ((E.node x z v B A N).val (n%4)) ((E.node C I L J H M).val (n%4))) (AN 23 ((E.node x z v B A N).val (n%4)) ((E.node C I L J H M).val (n%4))) (by decide) (by first|exact j|(rw [<-An j q (by decide)];exact A0 j q (by decide))) (by first|exact q|(rw [<-An j q (by decide)];exact A0 j q (by decide)))
 refine ch aY ?_
 refine Bw (Ce 23 (Ce 23 ((E.node x z v B A N).val (n%4)) ((E.node C I L J H M).val (n%4))) (Ce 23 ((E.node x z v B A N).val (n%4)) ((E.node C I L J H M).val (n%4)))) (AN 23 (AN 23 ((E.node x z v B A N).val (n%4)) ((E.node C I L J H M).val (n%4))) (AN 23 ((E.node x z v B A N).val (n%4)) ((E.node C I L J H M).val (n%4)))) ?_ (by first|omega|exact An j q (by decide) |(rw [<-An j q (by decide)];exact An (A0 j q (by decide)) (A0 j q (by decide)) (by decide)))
 exact Ah v0 (rfl)
theorem calls {j q:Rs} {op n:Int} (x:BV j) (C:BV q) (l0:(j.length:Int)<=140737488355328) (B:(q.length:Int)<=140737488355328) (v:0<=op/\op<=255) (z:0<=n/\n<=255):Ok trees 204 ⟨[(j.length:Int),q.length,op,n],[],[j,q],[]⟩ fun A=>A=(1,v0):=
 Alu _ _ op n j q x C rfl rfl ⟨l0,B,v.1,v.2,z⟩
end
end Go.Proofs.YtaolbokoijfhnaaGreatDoor.Am
