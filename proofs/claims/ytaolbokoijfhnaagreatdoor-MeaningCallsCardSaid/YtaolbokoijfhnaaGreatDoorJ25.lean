/- Part 25 of MeaningCalls. -/
import Derived.Test.YtaolbokoijfhnaaGreatDoorJ16
import Derived.Test.YtaolbokoijfhnaaGreatDoorJ17
import Derived.Test.YtaolbokoijfhnaaGreatDoorJ19
import Derived.Test.YtaolbokoijfhnaaGreatDoorJ24
set_option linter.all false
namespace Go.Proofs.YtaolbokoijfhnaaGreatDoor.Am
section
set_option maxHeartbeats 40000000
set_option maxRecDepth 100000
open Go.AM Go.AM.K
def Amu (N:Nat):Prop:=∀(I a2:List E) (n j:Int) (z q:Int) (v1 M:Int) (C x:Int) (H A:Int) (O xo:Int) (op k3:Int) (Y R:Int) (Q U:Int) (k4 o4:Int) (y4 Z X:Int) (B v:List Nat) (s3 P:List Nat) (J L:Rs) (A3 V:Rs) (ak:CT 1 (.node j z q v1 B I)) (aj:CT 1 (.node C x H A v a2)) (ah:J=E.Ab I) (ao:L=E.Ab a2) (al:S13 (.node j z q v1 B I)) (an:S13 (.node C x H A v a2)) (ai:Ov op) (hE:j=k3/\z=Y/\q=R/\v1=Q/\M=U/\B=s3/\J=A3/\C=k4/\x=o4/\H=y4/\A=Z/\O=X/\v=P/\L=V) (h:0<=n/\n<=3/\xo=0/\M=J.length/\O=L.length:=by exact kn),Ok trees N ⟨[n,j,z,q,v1,M,C,x,H,A,O,xo,op,k3,Y,R,Q,U,k4,o4,y4,Z,X],[B,v,s3,P],[J,L,A3,V],[]⟩ fun zz=>(zz=(1,(⟨[((E.node j z q v1 B I).val n),((E.node C x H A v a2).val n),(Ce op ((E.node j z q v1 B I).val n) ((E.node C x H A v a2).val n)),(Ce op (Ce op ((E.node j z q v1 B I).val n) ((E.node C x H A v a2).val n)) (Ce op ((E.node j z q v1 B I).val n) ((E.node C x H A v a2).val n)))],[],[],[]⟩:Aj)))
theorem GI:Amu 205:=by
 intro j a2 n v z x v1 V B H I A X xo op k3 o3 y3 v3 l3 k4 o4 y4 v4 l4 q C s3 s4 A1 A2 A3 A4 P O aj au ah ag ae hE h
 obtain ⟨rfl,rfl,rfl,rfl,rfl,rfl,rfl,rfl,rfl,rfl,rfl,rfl,rfl,rfl⟩:=hE;subst aj;subst au;obtain ⟨aL,aF,rfl,bc,bb⟩:=h;have M:0<=n/\n<=3:=⟨aL,aF⟩;have Y:10<=op:=(by unfold Ov at ae;omega)
 refine .of (t:=YS) rfl ?_
 conv=>arg 3;reduce
 refine dL [[.str [97],.int .i64 1,.int .i64 1,.int .i64 8],[.str [102],.int .i64 1,.int .i64 2,.int .i64 8]] (fun Q e1=>?_)
 have f1:=cL e1;try simp only [lA,lC,lN,lT']at f1
 refine ll 2 Q ?_
 refine fr ?_
 refine de [] ?_
 refine ll 0 [] ?_
 refine dL [[.str [112],.int .i64 1],[.str [113],.int .i64 1]] (fun W2 e2=>?_)
 have f2:=cL e2;try simp only [lA,lC,lN,lT']at f2
 refine ll 2 W2 ?_
 refine fr ?_
 refine dL [[.int .i64 2,.int .i64 0,.int .i64 0,.str [112],.int .i32 0,.list 6 []],[.int .i64 2,.int .i64 0,.int .i64 0,.str [122],.int .i32 0,.list 6 []]] (fun W3 e3=>?_)
 have f3:=cL e3;try simp only [lA,lC,lN,lT']at f3
 refine ll 2 W3 ?_
 refine fr ?_
 refine dL [AQ 1 0 1 0 [122] 2 0 0 [113] 0 [] 0 0 0 [] 0 [] [] [],AQ 2 0 0 0 [122] 5 op 0 [] 0 W3 0 0 0 [] 0 [] [] []] (fun W4 e4=>?_)
 have f4:=cL e4;try simp only [lA,lC,lN,lT']at f4
 refine ll 2 W4 ?_
 refine fr ?_
 refine dL [hrow W2 W4 2 0 0 [122] 0 []] (fun R e5=>?_)
 have f5:=cL e5;try simp only [lA,lC,lN,lT']at f5
 refine ll 1 R ?_
 refine fr ?_
 refine ll V (E.Ab j) ?_
 refine ll X (E.Ab a2) ?_
 refine dL [[.int .i64 v,.int .i64 z,.int .i64 x,.str q,.int .i32 v1,.list 6 (E.Ab j)],[.int .i64 B,.int .i64 H,.int .i64 I,.str C,.int .i32 A,.list 6 (E.Ab a2)]] (fun Z e6=>?_)
 have f6:=cL e6;try simp only [lA,lC,lN,lT']at f6
 refine ll 2 Z ?_
 refine fr ?_
 refine dL [[.int .i64 8,.int .i64 0,.int .i64 0,.str [104],.int .i32 0,.list 6 Z],[.int .i64 8,.int .i64 0,.int .i64 0,.str [104],.int .i32 0,.list 6 Z]] (fun W7 e7=>?_)
 have f7:=cL e7;try simp only [lA,lC,lN,lT']at f7
 refine ll 2 W7 ?_
 refine fr ?_
 refine ll V (E.Ab j) ?_
 refine ll X (E.Ab a2) ?_
 refine dL [AQ 1 0 1 0 [118] 1 0 1 [] 7 [] 0 0 0 [] 0 [] [] [],AQ 3 0 0 0 [97] 1 0 1 [] 0 [] v z x q v1 (E.Ab j) [] [],AQ 3 0 0 0 [97] 1 0 1 [] 1 [] B H I C A (E.Ab a2) [] [],AQ 3 0 0 0 [97] 1 0 1 [] 2 [] 8 0 0 [104] 0 Z [] [],AQ 3 0 0 0 [97] 1 0 1 [] 3 [] 8 0 0 [104] 0 W7 [] [],AQ 3 0 0 0 [97] 1 0 1 [] 4 [] 2 0 0 [118] 0 [] [] []] (fun J e8=>?_)
 have f8:=cL e8;try simp only [lA,lC,lN,lT']at f8
 refine ll 6 J ?_
 refine fr ?_
 have aU:([]:Rs).length=0:=rfl;have hz:=Ah5 ah ag;have hB:=AhT ae
 obtain ⟨_,rfl,G9⟩:=Apc Q6 [] [NI op] 4 2 2 0 1 6 [107] Q [] R J (by decide) (by subst_vars;rfl) rfl (by subst_vars;rfl) AfV (fun _ _ h=>Ak3 h) (Alb hB) (Ala hB) (by subst_vars;rfl) (⟨.inr (.inl rfl),by decide⟩) (Alc hB) AfW AfU Ah7 (Ah6 P O ah ag) ckB
 refine ch G9 ?_
 refine BJ 0 0 ?_
 refine JY n 0 ?_
 refine LA n 4 ?_
 obtain ⟨_,rfl,aC⟩:=Als 1 j v z x v1 V 4 2 2 1 6 1 n 1 0 0 0 2 6 2 0 0 1 7 0 0 0 0 0 0 0 0 0 0 0 0 0 0 0 0 q [107] [] [118] (E.Ab j) Q R J J asm rfl
 refine ch aC ?_
 refine nv ⟨[n,v,z,x,v1,V,B,H,I,A,X,0,op,v,z,x,v1,V,B,H,I,A,X,(Q.length:Int),0,(W2.length:Int),(W3.length:Int),(W4.length:Int),(R.length:Int),(Z.length:Int),(W7.length:Int),(J.length:Int),0,((E.node v z x v1 q j).val n),1],[q,C,q,C],[(E.Ab j),(E.Ab a2),(E.Ab j),(E.Ab a2),Q,[],W2,W3,W4,R,Z,W7,J],[]⟩ ?_
 refine dL [[.int .i64 2,.int .i64 0,.int .i64 n,.int .i64 0,.int .i64 0,.int .i64 0,.int .i64 0,.int .i64 0,.int .i32 ((E.node v z x v1 q j).val n)]] (fun U aB=>?_)
 have ay:=cL aB;try simp only [lA,lC,lN,lT']at ay
 refine ll 1 U ?_
 obtain ⟨_,rfl,aG⟩:=Nv 1 a2 B H I A X 4 2 2 1 6 1 n 1 0 0 0 1 3 6 3 0 0 1 7 ((E.node v z x v1 q j).val n) 0 0 0 0 0 0 0 0 0 0 0 0 0 0 0 C [107] [] [118] (E.Ab a2) Q R J J U asm rfl
 refine ch aG ?_
 refine dL (U++[[PV.int .i64 2,.int .i64 0,.int .i64 n,.int .i64 0,.int .i64 0,.int .i64 0,.int .i64 0,.int .i64 1,.int .i32 ((E.node B H I A C a2).val n)]]) (fun N al=>?_) (Bq (pw 1 U) pe)
 have aN:=cL al;try simp only [lA,lC,lN,lT']at aN
 refine E6 (N.length:Int) 1048576 ?_
 obtain ⟨_,rfl,aM⟩:=Nv 1 j v z x v1 V 4 2 2 1 6 1 n 1 0 0 0 (N.length:Int) 4 6 4 0 0 1 7 ((E.node v z x v1 q j).val n) ((E.node B H I A C a2).val n) 0 0 0 0 0 0 0 0 0 0 0 0 0 0 q [107] [] [118] (E.Ab j) Q R J J N asm rfl
 refine ch aM ?_
 refine nv ⟨[n,v,z,x,v1,V,B,H,I,A,X,0,op,v,z,x,v1,V,B,H,I,A,X,(Q.length:Int),0,(W2.length:Int),(W3.length:Int),(W4.length:Int),(R.length:Int),(Z.length:Int),(W7.length:Int),(J.length:Int),0,((E.node v z x v1 q j).val n),1,(U.length:Int),((E.node B H I A C a2).val n),1,(N.length:Int),((E.node v z x v1 q j).val n),1],[q,C,q,C],[(E.Ab j),(E.Ab a2),(E.Ab j),(E.Ab a2),Q,[],W2,W3,W4,R,Z,W7,J,U,N],[]⟩ ?_
 obtain ⟨_,rfl,aH⟩:=Nv 1 a2 B H I A X 4 2 2 1 6 1 n 1 0 0 0 (N.length:Int) 4 6 4 0 0 1 7 ((E.node v z x v1 q j).val n) ((E.node B H I A C a2).val n) 0 0 0 0 0 0 0 0 0 0 0 0 0 0 C [107] [] [118] (E.Ab a2) Q R J J N asm rfl
 refine ch aH ?_
 obtain ⟨_,rfl,aE⟩:=Px 1 op 1 1 hB rfl
 refine ch aE ?_
 obtain ⟨_,rfl,ax⟩:=Pw op ((E.node v z x v1 q j).val n) ((E.node B H I A C a2).val n) (by unfold Ov at ae;omega) (by first|exact (CT.val P M).1|exact (A0 (CT.val P M).1 (CT.val O M).1 Y)) (by first|exact (CT.val O M).1|exact (A0 (CT.val P M).1 (CT.val O M).1 Y))
 refine ch ax ?_
 refine dL (N++[[PV.int .i64 2,.int .i64 0,.int .i64 n,.int .i64 0,.int .i64 0,.int .i64 0,.int .i64 0,.int .i64 2,.int .i32 (Ce op ((E.node v z x v1 q j).val n) ((E.node B H I A C a2).val n))]]) (fun L ak=>?_) (Bq (pw (N.length:Int) N) pe)
 have aw:=cL ak;try simp only [lA,lC,lN,lT']at aw
 refine E6 (L.length:Int) 1048576 ?_
 obtain ⟨_,rfl,aK⟩:=Nv 1 j v z x v1 V 4 2 2 1 6 1 n 1 0 0 0 (L.length:Int) 7 6 5 0 0 1 7 ((E.node v z x v1 q j).val n) ((E.node B H I A C a2).val n) (Ce op ((E.node v z x v1 q j).val n) ((E.node B H I A C a2).val n)) 0 0 0 0 0 0 0 0 0 0 0 0 0 q [107] [] [118] (E.Ab j) Q R J J L asm rfl
 refine ch aK ?_
 refine nv ⟨[n,v,z,x,v1,V,B,H,I,A,X,0,op,v,z,x,v1,V,B,H,I,A,X,(Q.length:Int),0,(W2.length:Int),(W3.length:Int),(W4.length:Int),(R.length:Int),(Z.length:Int),(W7.length:Int),(J.length:Int),0,((E.node v z x v1 q j).val n),1,(U.length:Int),((E.node B H I A C a2).val n),1,(N.length:Int),((E.node v z x v1 q j).val n),1,((E.node B H I A C a2).val n),1,1,0,(Ce op ((E.node v z x v1 q j).val n) ((E.node B H I A C a2).val n)),(L.length:Int),((E.node v z x v1 q j).val n),1],[q,C,q,C],[(E.Ab j),(E.Ab a2),(E.Ab j),(E.Ab a2),Q,[],W2,W3,W4,R,Z,W7,J,U,N,L],[]⟩ ?_
 obtain ⟨_,rfl,ao⟩:=Nv 1 a2 B H I A X 4 2 2 1 6 1 n 1 0 0 0 (L.length:Int) 7 6 5 0 0 1 7 ((E.node v z x v1 q j).val n) ((E.node B H I A C a2).val n) (Ce op ((E.node v z x v1 q j).val n) ((E.node B H I A C a2).val n)) 0 0 0 0 0 0 0 0 0 0 0 0 0 C [107] [] [118] (E.Ab a2) Q R J J L asm rfl
 refine ch ao ?_
 obtain ⟨_,rfl,an⟩:=Pw op ((E.node v z x v1 q j).val n) ((E.node B H I A C a2).val n) (by unfold Ov at ae;omega) (by first|exact (CT.val P M).1|exact (A0 (CT.val P M).1 (CT.val O M).1 Y)) (by first|exact (CT.val O M).1|exact (A0 (CT.val P M).1 (CT.val O M).1 Y))
 refine ch an ?_
 obtain ⟨_,rfl,aI⟩:=Nv 1 j v z x v1 V 4 2 2 1 6 1 n 1 0 0 0 (L.length:Int) 9 6 5 0 0 1 7 ((E.node v z x v1 q j).val n) ((E.node B H I A C a2).val n) (Ce op ((E.node v z x v1 q j).val n) ((E.node B H I A C a2).val n)) 0 0 0 0 0 0 0 0 0 0 0 0 0 q [107] [] [118] (E.Ab j) Q R J J L asm rfl
 refine ch aI ?_
 refine nv ⟨[n,v,z,x,v1,V,B,H,I,A,X,0,op,v,z,x,v1,V,B,H,I,A,X,(Q.length:Int),0,(W2.length:Int),(W3.length:Int),(W4.length:Int),(R.length:Int),(Z.length:Int),(W7.length:Int),(J.length:Int),0,((E.node v z x v1 q j).val n),1,(U.length:Int),((E.node B H I A C a2).val n),1,(N.length:Int),((E.node v z x v1 q j).val n),1,((E.node B H I A C a2).val n),1,1,0,(Ce op ((E.node v z x v1 q j).val n) ((E.node B H I A C a2).val n)),(L.length:Int),((E.node v z x v1 q j).val n),1,((E.node B H I A C a2).val n),1,(Ce op ((E.node v z x v1 q j).val n) ((E.node B H I A C a2).val n)),((E.node v z x v1 q j).val n),1],[q,C,q,C],[(E.Ab j),(E.Ab a2),(E.Ab j),(E.Ab a2),Q,[],W2,W3,W4,R,Z,W7,J,U,N,L],[]⟩ ?_
 obtain ⟨_,rfl,ai⟩:=Nv 1 a2 B H I A X 4 2 2 1 6 1 n 1 0 0 0 (L.length:Int) 9 6 5 0 0 1 7 ((E.node v z x v1 q j).val n) ((E.node B H I A C a2).val n) (Ce op ((E.node v z x v1 q j).val n) ((E.node B H I A C a2).val n)) 0 0 0 0 0 0 0 0 0 0 0 0 0 C [107] [] [118] (E.Ab a2) Q R J J L asm rfl
 refine ch ai ?_
 obtain ⟨_,rfl,az⟩:=Pw op ((E.node v z x v1 q j).val n) ((E.node B H I A C a2).val n) (by unfold Ov at ae;omega) (by first|exact (CT.val P M).1|exact (A0 (CT.val P M).1 (CT.val O M).1 Y)) (by first|exact (CT.val O M).1|exact (A0 (CT.val P M).1 (CT.val O M).1 Y))
 refine ch az ?_
 obtain ⟨_,rfl,av⟩:=Pw op (Ce op ((E.node v z x v1 q j).val n) ((E.node B H I A C a2).val n)) (Ce op ((E.node v z x v1 q j).val n) ((E.node B H I A C a2).val n)) (by unfold Ov at ae;omega) (by first|exact (CT.val P M).1|exact (A0 (CT.val P M).1 (CT.val O M).1 Y)) (by first|exact (CT.val O M).1|exact (A0 (CT.val P M).1 (CT.val O M).1 Y))
 refine ch av ?_
 refine dL (L++[[PV.int .i64 2,.int .i64 0,.int .i64 n,.int .i64 0,.int .i64 0,.int .i64 0,.int .i64 0,.int .i64 3,.int .i32 (Ce op (Ce op ((E.node v z x v1 q j).val n) ((E.node B H I A C a2).val n)) (Ce op ((E.node v z x v1 q j).val n) ((E.node B H I A C a2).val n)))]]) (fun af aJ=>?_) (Bq (pw (L.length:Int) L) pe)
 have ap:=cL aJ;try simp only [lA,lC,lN,lT']at ap
 refine E6 (af.length:Int) 1048576 ?_
 refine dL (af++[[PV.int .i64 2,.int .i64 0,.int .i64 n,.int .i64 0,.int .i64 0,.int .i64 0,.int .i64 0,.int .i64 4,.int .i32 7]]) (fun aD aA=>?_) (Bq (pw (af.length:Int) af) pe)
 have aq:=cL aA;try simp only [lA,lC,lN,lT']at aq
 refine E6 (aD.length:Int) 1048576 ?_
 exact Ah ⟨[((E.node v z x v1 q j).val n),((E.node B H I A C a2).val n),(Ce op ((E.node v z x v1 q j).val n) ((E.node B H I A C a2).val n)),(Ce op (Ce op ((E.node v z x v1 q j).val n) ((E.node B H I A C a2).val n)) (Ce op ((E.node v z x v1 q j).val n) ((E.node B H I A C a2).val n)))],[],[],[]⟩ (rfl)
end
end Go.Proofs.YtaolbokoijfhnaaGreatDoor.Am
