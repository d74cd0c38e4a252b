/- Part 25 of MeaningExpressions. -/
import Derived.Test.YtaolbokoijfhnaaGreatDoorH17
import Derived.Test.YtaolbokoijfhnaaGreatDoorH19
import Derived.Test.YtaolbokoijfhnaaGreatDoorH24
set_option linter.all false
namespace Go.Proofs.YtaolbokoijfhnaaGreatDoor.Am
section
set_option maxHeartbeats 40000000
set_option maxRecDepth 100000
open Go.AM Go.AM.K
def Ane (N:Nat):Prop:=∀(R a1:List E) (a2 a3:List E) (L J:List E) (a6 x:List E) (n k0:Int) (o0 Q:Int) (X l0:Int) (k1 o1:Int) (y1 v1:Int) (l1 U:Int) (o2 y2:Int) (O l2:Int) (z M:Int) (A v3:Int) (l3 Y:Int) (o4 y4:Int) (v4 l4:Int) (H B:Int) (y5 v5:Int) (l5 k6:Int) (v y6:Int) (v6 l6:Int) (k7 C:Int) (j I l7:Int) (s0 P:List Nat) (s2 V:List Nat) (q Z:List Nat) (s6 s7:List Nat) (A0 A1:Rs) (A2 A3:Rs) (A4 A5:Rs) (A6 A7:Rs) (bb:CT 1 (.node k0 o0 Q X s0 R)) (bk:CT 1 (.node k1 o1 y1 v1 P a1)) (aV:CT 1 (.node U o2 y2 O s2 a2)) (a9:CT 1 (.node z M A v3 V a3)) (bn:CT 1 (.node Y o4 y4 v4 q L)) (aZ:CT 1 (.node H B y5 v5 Z J)) (bo:CT 2 (.node k6 v y6 v6 s6 a6)) (br:CT 1 (.node k7 C j I s7 x)) (bi:A0=E.Ab R) (aU:A1=E.Ab a1) (aY:A2=E.Ab a2) (aW:A3=E.Ab a3) (be:A4=E.Ab L) (bg:A5=E.Ab J) (bc:A6=E.Ab a6) (bp:A7=E.Ab x) (bj:Sz (.node k0 o0 Q X s0 R)) (bl:Sz (.node k1 o1 y1 v1 P a1)) (aX:Sz (.node U o2 y2 O s2 a2)) (a8:Sz (.node z M A v3 V a3)) (bf:Sz (.node Y o4 y4 v4 q L)) (ba:Sz (.node H B y5 v5 Z J)) (bm:Sz (.node k6 v y6 v6 s6 a6)) (bh:Sz (.node k7 C j I s7 x)) (h:0<=n/\n<=3/\l0=A0.length/\l1=A1.length/\l2=A2.length/\l3=A3.length/\l4=A4.length/\l5=A5.length/\l6=A6.length/\l7=A7.length:=by exact kn),Ok trees N ⟨[n,k0,o0,Q,X,l0,k1,o1,y1,v1,l1,U,o2,y2,O,l2,z,M,A,v3,l3,Y,o4,y4,v4,l4,H,B,y5,v5,l5,k6,v,y6,v6,l6,k7,C,j,I,l7],[s0,P,s2,V,q,Z,s6,s7],[A0,A1,A2,A3,A4,A5,A6,A7],[]⟩ fun zz=>(zz=(1,(⟨[((E.node k0 o0 Q X s0 R).val n),((E.node k1 o1 y1 v1 P a1).val n),((E.node U o2 y2 O s2 a2).val n),((E.node z M A v3 V a3).val n),((E.node Y o4 y4 v4 q L).val n),((E.node H B y5 v5 Z J).val n),((E.node k7 C j I s7 x).val n),((E.node k6 v y6 v6 s6 a6).val n)],[],[],[]⟩:Aj)))
theorem AlV:Ane 193:=by
 intro j q a2 x N Q a6 a7 n C H B z l0 M J I v1 l1 O P V R l2 k3 Y X Z l3 k4 o4 y4 v4 l4 k5 o5 y5 v5 l5 k6 o6 y6 v6 l6 k7 o7 y7 v7 l7 A L U s3 s4 s5 s6 s7 A0 A1 A2 A3 A4 A5 A6 A7 bj bG bb bi bI bz bp bt bm bv bf bw bB bE bk br aX a9 aY aV aZ aW ba a8 h
 subst bm;subst bv;subst bf;subst bw;subst bB;subst bE;subst bk;subst br
 refine .of (t:=Zz) rfl ?_
 conv=>arg 3;reduce
 refine dL [[.str [97],.int .i64 1,.int .i64 1,.int .i64 8],[.str [102],.int .i64 1,.int .i64 2,.int .i64 8]] (fun W1 e1=>?_)
 have f1:=cL e1;try simp only [lA,lC,lN,lT']at f1
 refine ll 2 W1 ?_
 refine fr ?_
 refine de [] ?_
 refine ll 0 [] ?_
 refine ll l0 (E.Ab j) ?_
 refine ll l1 (E.Ab q) ?_
 refine ll l2 (E.Ab a2) ?_
 refine ll l3 (E.Ab x) ?_
 refine ll l4 (E.Ab N) ?_
 refine ll l5 (E.Ab Q) ?_
 refine ll l6 (E.Ab a6) ?_
 refine ll l7 (E.Ab a7) ?_
 refine dL [AS 3 0 0 0 [97] 1 0 1 [] 0 [] C H B A z (E.Ab j) [] [],AS 3 0 0 0 [97] 1 0 1 [] 1 [] M J I L v1 (E.Ab q) [] [],AS 3 0 0 0 [97] 1 0 1 [] 2 [] O P V U R (E.Ab a2) [] [],AS 3 0 0 0 [97] 1 0 1 [] 3 [] k3 Y X s3 Z (E.Ab x) [] [],AS 3 0 0 0 [97] 1 0 1 [] 4 [] k4 o4 y4 s4 v4 (E.Ab N) [] [],AS 3 0 0 0 [97] 1 0 1 [] 5 [] k5 o5 y5 s5 v5 (E.Ab Q) [] [],AS 3 0 0 0 [102] 1 0 1 [] 0 [] k6 o6 y6 s6 v6 (E.Ab a6) [] [],AS 3 0 0 0 [97] 1 0 1 [] 6 [] k7 o7 y7 s7 v7 (E.Ab a7) [] []] (fun v e2=>?_)
 have f2:=cL e2;try simp only [lA,lC,lN,lT']at f2
 refine ll 8 v ?_
 refine fr ?_
 have bO:([]:Rs).length=0:=rfl;have hz:=Ag8 aX a9 aY aV aZ aW ba a8
 obtain ⟨_,rfl,G3⟩:=ApM plA [] [] 4 2 2 0 0 8 [107] W1 [] [] v (by decide) (by rw [e1];rfl) rfl rfl AgB (fun _ _ h=>WU h) (fun _ _ h=>WU h) (fun _ _ h=>WU h) (by rw [e2];rfl) (⟨.inr (.inl rfl),by decide⟩) (fun _ _ _ h=>WU h) AgC Ag7 AgA (Ag9 bj bG bb bi bI bz bp bt aX a9 aY aV aZ aW ba a8) plC
 refine ch G3 ?_
 refine BM 0 0 ?_
 refine Ki n 0 ?_
 refine LN n 4 ?_
 refine el (j':=0) (congrArg (fun l:Rs=>l[(0:Int).toNat]?) e1) ?_
 refine Mh [97] ?_
 refine AL 1 1 ?_
 refine AL 1 1 ?_
 refine AL 8 8 ?_
 refine el (j':=1) (congrArg (fun l:Rs=>l[(1:Int).toNat]?) e1) ?_
 refine Mh [102] ?_
 refine AL 1 1 ?_
 refine AL 2 2 ?_
 refine AL 8 8 ?_
 refine el (j':=0) (congrArg (fun l:Rs=>l[(0:Int).toNat]?) e2) ?_
 refine AL 3 3 ?_
 refine Mh [97] ?_
 refine AL 1 1 ?_
 refine AL 1 1 ?_
 refine AL 0 0 ?_
 refine AL 0 0 ?_
 obtain ⟨_,rfl,G4⟩:=AlU 1 j C H B z ((E.Ab j).length:Int) 4 2 2 8 1 n 1 0 0 0 1 8 1 0 0 0 0 0 0 0 0 0 0 0 0 0 0 0 0 0 0 A [107] [] (E.Ab j) W1 v v asm rfl
 refine ch G4 ?_
 refine dL [[.int .i64 2,.int .i64 0,.int .i64 n,.int .i64 0,.int .i64 0,.int .i64 0,.int .i64 0,.int .i64 0,.int .i32 ((E.node C H B z A j).val n)]] (fun W5 e5=>?_)
 have f5:=cL e5;try simp only [lA,lC,lN,lT']at f5
 refine ll 1 W5 ?_
 refine el (j':=1) (congrArg (fun l:Rs=>l[(1:Int).toNat]?) e2) ?_
 refine AL 3 3 ?_
 refine Mh [97] ?_
 refine AL 1 1 ?_
 refine AL 1 1 ?_
 refine AL 1 1 ?_
 refine AL 0 0 ?_
 obtain ⟨_,rfl,G6⟩:=N9 1 q M J I v1 ((E.Ab q).length:Int) 4 2 2 8 1 n 1 0 0 0 1 2 8 2 0 0 ((E.node C H B z A j).val n) 0 0 0 0 0 0 0 0 0 0 0 0 0 0 0 L [107] [] (E.Ab q) W1 v v W5 asm rfl
 refine ch G6 ?_
 refine nv ⟨[n,C,H,B,z,l0,M,J,I,v1,l1,O,P,V,R,l2,k3,Y,X,Z,l3,k4,o4,y4,v4,l4,k5,o5,y5,v5,l5,k6,o6,y6,v6,l6,k7,o7,y7,v7,l7,(W1.length:Int),0,(v.length:Int),0,1,1,8,1,2,8,3,0,0,0,1,0,1,0,0,C,H,B,z,((E.Ab j).length:Int),0,0,((E.node C H B z A j).val n),1,(W5.length:Int),3,0,0,0,1,0,1,1,0,M,J,I,v1,((E.Ab q).length:Int),0,0,((E.node M J I v1 L q).val n),1],[A,L,U,s3,s4,s5,s6,s7,[97],[102],[97],[],A,[97],[],L],[(E.Ab j),(E.Ab q),(E.Ab a2),(E.Ab x),(E.Ab N),(E.Ab Q),(E.Ab a6),(E.Ab a7),W1,[],v,([]:Rs),(E.Ab j),([]:Rs),([]:Rs),W5,([]:Rs),(E.Ab q),([]:Rs),([]:Rs)],[]⟩ ?_
 refine dL (W5++[[PV.int .i64 2,.int .i64 0,.int .i64 n,.int .i64 0,.int .i64 0,.int .i64 0,.int .i64 0,.int .i64 1,.int .i32 ((E.node M J I v1 L q).val n)]]) (fun W7 e7=>?_) (Bi (pw 1 W5) pe)
 have f7:=cL e7;try simp only [lA,lC,lN,lT']at f7
 refine Ew (W7.length:Int) 1048576 ?_
 refine el (j':=2) (congrArg (fun l:Rs=>l[(2:Int).toNat]?) e2) ?_
 refine AL 3 3 ?_
 refine Mh [97] ?_
 refine AL 1 1 ?_
 refine AL 1 1 ?_
 refine AL 2 2 ?_
 refine AL 0 0 ?_
 obtain ⟨_,rfl,G8⟩:=N9 1 a2 O P V R ((E.Ab a2).length:Int) 4 2 2 8 1 n 1 0 0 0 (W7.length:Int) 3 8 3 0 0 ((E.node C H B z A j).val n) ((E.node M J I v1 L q).val n) 0 0 0 0 0 0 0 0 0 0 0 0 0 0 U [107] [] (E.Ab a2) W1 v v W7 asm rfl
 refine ch G8 ?_
 refine dL (W7++[[PV.int .i64 2,.int .i64 0,.int .i64 n,.int .i64 0,.int .i64 0,.int .i64 0,.int .i64 0,.int .i64 2,.int .i32 ((E.node O P V R U a2).val n)]]) (fun W9 e9=>?_) (Bi (pw (W7.length:Int) W7) pe)
 have f9:=cL e9;try simp only [lA,lC,lN,lT']at f9
 refine Ew (W9.length:Int) 1048576 ?_
 refine el (j':=3) (congrArg (fun l:Rs=>l[(3:Int).toNat]?) e2) ?_
 refine AL 3 3 ?_
 refine Mh [97] ?_
 refine AL 1 1 ?_
 refine AL 1 1 ?_
 refine AL 3 3 ?_
 refine AL 0 0 ?_
 obtain ⟨_,rfl,bD⟩:=N9 1 x k3 Y X Z ((E.Ab x).length:Int) 4 2 2 8 1 n 1 0 0 0 (W9.length:Int) 4 8 4 0 0 ((E.node C H B z A j).val n) ((E.node M J I v1 L q).val n) ((E.node O P V R U a2).val n) 0 0 0 0 0 0 0 0 0 0 0 0 0 s3 [107] [] (E.Ab x) W1 v v W9 asm rfl
 refine ch bD ?_
 refine nv ⟨[n,C,H,B,z,l0,M,J,I,v1,l1,O,P,V,R,l2,k3,Y,X,Z,l3,k4,o4,y4,v4,l4,k5,o5,y5,v5,l5,k6,o6,y6,v6,l6,k7,o7,y7,v7,l7,(W1.length:Int),0,(v.length:Int),0,1,1,8,1,2,8,3,0,0,0,1,0,1,0,0,C,H,B,z,((E.Ab j).length:Int),0,0,((E.node C H B z A j).val n),1,(W5.length:Int),3,0,0,0,1,0,1,1,0,M,J,I,v1,((E.Ab q).length:Int),0,0,((E.node M J I v1 L q).val n),1,(W7.length:Int),3,0,0,0,1,0,1,2,0,O,P,V,R,((E.Ab a2).length:Int),0,0,((E.node O P V R U a2).val n),1,(W9.length:Int),3,0,0,0,1,0,1,3,0,k3,Y,X,Z,((E.Ab x).length:Int),0,0,((E.node k3 Y X Z s3 x).val n),1],[A,L,U,s3,s4,s5,s6,s7,[97],[102],[97],[],A,[97],[],L,[97],[],U,[97],[],s3],[(E.Ab j),(E.Ab q),(E.Ab a2),(E.Ab x),(E.Ab N),(E.Ab Q),(E.Ab a6),(E.Ab a7),W1,[],v,([]:Rs),(E.Ab j),([]:Rs),([]:Rs),W5,([]:Rs),(E.Ab q),([]:Rs),([]:Rs),W7,([]:Rs),(E.Ab a2),([]:Rs),([]:Rs),W9,([]:Rs),(E.Ab x),([]:Rs),([]:Rs)],[]⟩ ?_
 refine dL (W9++[[PV.int .i64 2,.int .i64 0,.int .i64 n,.int .i64 0,.int .i64 0,.int .i64 0,.int .i64 0,.int .i64 3,.int .i32 ((E.node k3 Y X Z s3 x).val n)]]) (fun ae bC=>?_) (Bi (pw (W9.length:Int) W9) pe)
 have bh:=cL bC;try simp only [lA,lC,lN,lT']at bh
 refine Ew (ae.length:Int) 1048576 ?_
 refine el (j':=4) (congrArg (fun l:Rs=>l[(4:Int).toNat]?) e2) ?_
 refine AL 3 3 ?_
 refine Mh [97] ?_
 refine AL 1 1 ?_
 refine AL 1 1 ?_
 refine AL 4 4 ?_
 refine AL 0 0 ?_
 obtain ⟨_,rfl,bH⟩:=N9 1 N k4 o4 y4 v4 ((E.Ab N).length:Int) 4 2 2 8 1 n 1 0 0 0 (ae.length:Int) 5 8 5 0 0 ((E.node C H B z A j).val n) ((E.node M J I v1 L q).val n) ((E.node O P V R U a2).val n) ((E.node k3 Y X Z s3 x).val n) 0 0 0 0 0 0 0 0 0 0 0 0 s4 [107] [] (E.Ab N) W1 v v ae asm rfl
 refine ch bH ?_
 refine dL (ae++[[PV.int .i64 2,.int .i64 0,.int .i64 n,.int .i64 0,.int .i64 0,.int .i64 0,.int .i64 0,.int .i64 4,.int .i32 ((E.node k4 o4 y4 v4 s4 N).val n)]]) (fun ad be=>?_) (Bi (pw (ae.length:Int) ae) pe)
 have bL:=cL be;try simp only [lA,lC,lN,lT']at bL
 refine Ew (ad.length:Int) 1048576 ?_
 refine el (j':=5) (congrArg (fun l:Rs=>l[(5:Int).toNat]?) e2) ?_
 refine AL 3 3 ?_
 refine Mh [97] ?_
 refine AL 1 1 ?_
 refine AL 1 1 ?_
 refine AL 5 5 ?_
 refine AL 0 0 ?_
 obtain ⟨_,rfl,bJ⟩:=N9 1 Q k5 o5 y5 v5 ((E.Ab Q).length:Int) 4 2 2 8 1 n 1 0 0 0 (ad.length:Int) 6 8 6 0 0 ((E.node C H B z A j).val n) ((E.node M J I v1 L q).val n) ((E.node O P V R U a2).val n) ((E.node k3 Y X Z s3 x).val n) ((E.node k4 o4 y4 v4 s4 N).val n) 0 0 0 0 0 0 0 0 0 0 0 s5 [107] [] (E.Ab Q) W1 v v ad asm rfl
 refine ch bJ ?_
 refine nv ⟨[n,C,H,B,z,l0,M,J,I,v1,l1,O,P,V,R,l2,k3,Y,X,Z,l3,k4,o4,y4,v4,l4,k5,o5,y5,v5,l5,k6,o6,y6,v6,l6,k7,o7,y7,v7,l7,(W1.length:Int),0,(v.length:Int),0,1,1,8,1,2,8,3,0,0,0,1,0,1,0,0,C,H,B,z,((E.Ab j).length:Int),0,0,((E.node C H B z A j).val n),1,(W5.length:Int),3,0,0,0,1,0,1,1,0,M,J,I,v1,((E.Ab q).length:Int),0,0,((E.node M J I v1 L q).val n),1,(W7.length:Int),3,0,0,0,1,0,1,2,0,O,P,V,R,((E.Ab a2).length:Int),0,0,((E.node O P V R U a2).val n),1,(W9.length:Int),3,0,0,0,1,0,1,3,0,k3,Y,X,Z,((E.Ab x).length:Int),0,0,((E.node k3 Y X Z s3 x).val n),1,(ae.length:Int),3,0,0,0,1,0,1,4,0,k4,o4,y4,v4,((E.Ab N).length:Int),0,0,((E.node k4 o4 y4 v4 s4 N).val n),1,(ad.length:Int),3,0,0,0,1,0,1,5,0,k5,o5,y5,v5,((E.Ab Q).length:Int),0,0,((E.node k5 o5 y5 v5 s5 Q).val n),1],[A,L,U,s3,s4,s5,s6,s7,[97],[102],[97],[],A,[97],[],L,[97],[],U,[97],[],s3,[97],[],s4,[97],[],s5],[(E.Ab j),(E.Ab q),(E.Ab a2),(E.Ab x),(E.Ab N),(E.Ab Q),(E.Ab a6),(E.Ab a7),W1,[],v,([]:Rs),(E.Ab j),([]:Rs),([]:Rs),W5,([]:Rs),(E.Ab q),([]:Rs),([]:Rs),W7,([]:Rs),(E.Ab a2),([]:Rs),([]:Rs),W9,([]:Rs),(E.Ab x),([]:Rs),([]:Rs),ae,([]:Rs),(E.Ab N),([]:Rs),([]:Rs),ad,([]:Rs),(E.Ab Q),([]:Rs),([]:Rs)],[]⟩ ?_
 refine dL (ad++[[PV.int .i64 2,.int .i64 0,.int .i64 n,.int .i64 0,.int .i64 0,.int .i64 0,.int .i64 0,.int .i64 5,.int .i32 ((E.node k5 o5 y5 v5 s5 Q).val n)]]) (fun aw bc=>?_) (Bi (pw (ad.length:Int) ad) pe)
 have bo:=cL bc;try simp only [lA,lC,lN,lT']at bo
 refine Ew (aw.length:Int) 1048576 ?_
 refine el (j':=6) (congrArg (fun l:Rs=>l[(6:Int).toNat]?) e2) ?_
 refine AL 3 3 ?_
 refine Mh [102] ?_
 refine AL 1 1 ?_
 refine AL 1 1 ?_
 refine AL 0 0 ?_
 refine AL 0 0 ?_
 obtain ⟨_,rfl,bn⟩:=N9 2 a6 k6 o6 y6 v6 ((E.Ab a6).length:Int) 4 2 2 8 1 n 1 0 0 0 (aw.length:Int) 7 8 7 0 0 ((E.node C H B z A j).val n) ((E.node M J I v1 L q).val n) ((E.node O P V R U a2).val n) ((E.node k3 Y X Z s3 x).val n) ((E.node k4 o4 y4 v4 s4 N).val n) ((E.node k5 o5 y5 v5 s5 Q).val n) 0 0 0 0 0 0 0 0 0 0 s6 [107] [] (E.Ab a6) W1 v v aw asm rfl
 refine ch bn ?_
 refine dL (aw++[[PV.int .i64 2,.int .i64 0,.int .i64 n,.int .i64 0,.int .i64 0,.int .i64 0,.int .i64 1,.int .i64 0,.int .i32 ((E.node k6 o6 y6 v6 s6 a6).val n)]]) (fun av bK=>?_) (Bi (pw (aw.length:Int) aw) pe)
 have bg:=cL bK;try simp only [lA,lC,lN,lT']at bg
 refine Ew (av.length:Int) 1048576 ?_
 refine el (j':=7) (congrArg (fun l:Rs=>l[(7:Int).toNat]?) e2) ?_
 refine AL 3 3 ?_
 refine Mh [97] ?_
 refine AL 1 1 ?_
 refine AL 1 1 ?_
 refine AL 6 6 ?_
 refine AL 0 0 ?_
 obtain ⟨_,rfl,bl⟩:=N9 1 a7 k7 o7 y7 v7 ((E.Ab a7).length:Int) 4 2 2 8 1 n 1 0 0 0 (av.length:Int) 8 8 8 0 0 ((E.node C H B z A j).val n) ((E.node M J I v1 L q).val n) ((E.node O P V R U a2).val n) ((E.node k3 Y X Z s3 x).val n) ((E.node k4 o4 y4 v4 s4 N).val n) ((E.node k5 o5 y5 v5 s5 Q).val n) 0 0 ((E.node k6 o6 y6 v6 s6 a6).val n) 0 0 0 0 0 0 0 s7 [107] [] (E.Ab a7) W1 v v av asm rfl
 refine ch bl ?_
 refine nv ⟨[n,C,H,B,z,l0,M,J,I,v1,l1,O,P,V,R,l2,k3,Y,X,Z,l3,k4,o4,y4,v4,l4,k5,o5,y5,v5,l5,k6,o6,y6,v6,l6,k7,o7,y7,v7,l7,(W1.length:Int),0,(v.length:Int),0,1,1,8,1,2,8,3,0,0,0,1,0,1,0,0,C,H,B,z,((E.Ab j).length:Int),0,0,((E.node C H B z A j).val n),1,(W5.length:Int),3,0,0,0,1,0,1,1,0,M,J,I,v1,((E.Ab q).length:Int),0,0,((E.node M J I v1 L q).val n),1,(W7.length:Int),3,0,0,0,1,0,1,2,0,O,P,V,R,((E.Ab a2).length:Int),0,0,((E.node O P V R U a2).val n),1,(W9.length:Int),3,0,0,0,1,0,1,3,0,k3,Y,X,Z,((E.Ab x).length:Int),0,0,((E.node k3 Y X Z s3 x).val n),1,(ae.length:Int),3,0,0,0,1,0,1,4,0,k4,o4,y4,v4,((E.Ab N).length:Int),0,0,((E.node k4 o4 y4 v4 s4 N).val n),1,(ad.length:Int),3,0,0,0,1,0,1,5,0,k5,o5,y5,v5,((E.Ab Q).length:Int),0,0,((E.node k5 o5 y5 v5 s5 Q).val n),1,(aw.length:Int),3,0,0,0,1,0,1,0,0,k6,o6,y6,v6,((E.Ab a6).length:Int),0,0,((E.node k6 o6 y6 v6 s6 a6).val n),2,(av.length:Int),3,0,0,0,1,0,1,6,0,k7,o7,y7,v7,((E.Ab a7).length:Int),0,0,((E.node k7 o7 y7 v7 s7 a7).val n),1],[A,L,U,s3,s4,s5,s6,s7,[97],[102],[97],[],A,[97],[],L,[97],[],U,[97],[],s3,[97],[],s4,[97],[],s5,[102],[],s6,[97],[],s7],[(E.Ab j),(E.Ab q),(E.Ab a2),(E.Ab x),(E.Ab N),(E.Ab Q),(E.Ab a6),(E.Ab a7),W1,[],v,([]:Rs),(E.Ab j),([]:Rs),([]:Rs),W5,([]:Rs),(E.Ab q),([]:Rs),([]:Rs),W7,([]:Rs),(E.Ab a2),([]:Rs),([]:Rs),W9,([]:Rs),(E.Ab x),([]:Rs),([]:Rs),ae,([]:Rs),(E.Ab N),([]:Rs),([]:Rs),ad,([]:Rs),(E.Ab Q),([]:Rs),([]:Rs),aw,([]:Rs),(E.Ab a6),([]:Rs),([]:Rs),av,([]:Rs),(E.Ab a7),([]:Rs),([]:Rs)],[]⟩ ?_
 refine dL (av++[[PV.int .i64 2,.int .i64 0,.int .i64 n,.int .i64 0,.int .i64 0,.int .i64 0,.int .i64 0,.int .i64 6,.int .i32 ((E.node k7 o7 y7 v7 s7 a7).val n)]]) (fun bF bx=>?_) (Bi (pw (av.length:Int) av) pe)
 have bA:=cL bx;try simp only [lA,lC,lN,lT']at bA
 refine Ew (bF.length:Int) 1048576 ?_
 exact Ai ⟨[((E.node C H B z A j).val n),((E.node M J I v1 L q).val n),((E.node O P V R U a2).val n),((E.node k3 Y X Z s3 x).val n),((E.node k4 o4 y4 v4 s4 N).val n),((E.node k5 o5 y5 v5 s5 Q).val n),((E.node k7 o7 y7 v7 s7 a7).val n),((E.node k6 o6 y6 v6 s6 a6).val n)],[],[],[]⟩ (rfl)
end
end Go.Proofs.YtaolbokoijfhnaaGreatDoor.Am
