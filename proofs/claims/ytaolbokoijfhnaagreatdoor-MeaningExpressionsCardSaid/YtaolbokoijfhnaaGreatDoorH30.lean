/- Part 30 of MeaningExpressions. -/
import Derived.Test.YtaolbokoijfhnaaGreatDoorH17
import Derived.Test.YtaolbokoijfhnaaGreatDoorH19
import Derived.Test.YtaolbokoijfhnaaGreatDoorH25
import Derived.Test.YtaolbokoijfhnaaGreatDoorH29
set_option linter.all false
namespace Go.Proofs.YtaolbokoijfhnaaGreatDoor.Am
section
set_option maxHeartbeats 40000000
set_option maxRecDepth 100000
open Go.AM Go.AM.K
theorem GK (g g2:Nat) (hg:YU (g:Int)) (aG:(g2:Int)=1∨(g2:Int)=2∨(g2:Int)=3) {b0 b1 b2 op n p0 p1 p2 p3 p4 p5 k1 o1 y1 v1 l1 q0 q1 q2 q3 q4 q5 k2 o2 y2 v2 l2 r0 r1 r2 r3 r4 r5 k3 o3 y3 v3 l3:Int} {j v A:List Nat} {B0 B1 B2 P3 P4 P5 P6 A1 P8 P9 R O A2 V P U Q A3:Rs} (hn:0<=n/\n<=255) (h1:ED 1 k1 o1 y1 v1 j A1) (h2:ED 1 k2 o2 y2 v2 v A2) (h3:ED 3 k3 o3 y3 v3 A A3) (a0:l1=A1.length) (a5:l2=A2.length) (a4:l3=A3.length):
  W trees (fun zz=>zz=(1,v0)) (F7 g g2) ⟨[b0,b1,b2,op,n,p0,p1,p2,p3,p4,p5,k1,o1,y1,v1,l1,q0,q1,q2,q3,q4,q5,k2,o2,y2,v2,l2,r0,r1,r2,r3,r4,r5,k3,o3,y3,v3,l3],[j,v,A],[B0,B1,B2,P3,P4,P5,P6,A1,P8,P9,R,O,A2,V,P,U,Q,A3],[]⟩:=by
 obtain ⟨q,rfl,I,aA,aK⟩:=h1
 obtain ⟨a2,rfl,N,aJ,au⟩:=h2
 obtain ⟨B,rfl,Y,aF,aB⟩:=h3
 have X:Wb (E.node k1 o1 y1 v1 j q):=⟨aA,aK⟩
 have Z:Wb (E.node k2 o2 y2 v2 v a2):=⟨aJ,au⟩
 have N3:Wb (E.node k3 o3 y3 v3 A B):=⟨aF,aB⟩
 have J:0<=n%4/\n%4<=3:=by omega
 have M:(g2:Int)=1∨(g2:Int)=2∨(g2:Int)=3∨(g2:Int)=4:=by omega
 have H2:=Ael J I N hg
 have H3:=Acs J I M
 have Hf:=Acs J I (o:=4) (by decide)
 have L:=Aia (z:=(E.node k3 o3 y3 v3 A B)) (i:=n%4)
 have C:=AhY (x:=(E.node k1 o1 y1 v1 j q)) (y:=(E.node k2 o2 y2 v2 v a2)) J Y
 have H:=AhZ (x:=(E.node k1 o1 y1 v1 j q)) (y:=(E.node k2 o2 y2 v2 v a2)) J Y
 conv=>arg 3;delta F7
 conv=>arg 3;reduce
 obtain ⟨_,rfl,G1⟩:=AcR k3 o3 y3 v3 l3 k1 o1 y1 v1 l1 k2 o2 y2 v2 l2 A j v (E.Ab B) (E.Ab q) (E.Ab a2)
 refine ch G1 ?_
 obtain ⟨_,rfl,G2⟩:=PB 0 k1 o1 y1 v1 l1 [97] j (E.Ab q)
 refine ch G2 ?_
 obtain ⟨_,rfl,G3⟩:=PB 1 k2 o2 y2 v2 l2 [97] v (E.Ab a2)
 refine ch G3 ?_
 obtain ⟨_,rfl,G4⟩:=AlW (g:Int) k1 o1 y1 v1 l1 k2 o2 y2 v2 l2 j v (E.Ab q) (E.Ab a2)
 refine ch G4 ?_
 obtain ⟨_,rfl,G5⟩:=PB 2 5 (g:Int) 0 0 2 [97] [] [Be k1 o1 y1 v1 j (E.Ab q),Be k2 o2 y2 v2 v (E.Ab a2)]
 refine ch G5 ?_
 obtain ⟨_,rfl,G6⟩:=Afh 3 4 (g2:Int) 0 0 k1 o1 y1 v1 l1 [97] [] j (E.Ab q)
 refine cm G6 ?_
 refine ch G6 ?_
 refine nv ⟨[b0,b1,b2,op,n,p0,p1,p2,p3,p4,p5,k1,o1,y1,v1,l1,q0,q1,q2,q3,q4,q5,k2,o2,y2,v2,l2,r0,r1,r2,r3,r4,r5,k3,o3,y3,v3,l3,3,2,1],[j,v,A],[B0,B1,B2,P3,P4,P5,P6,(E.Ab q),P8,P9,R,O,(E.Ab a2),V,P,U,Q,(E.Ab B),[Be k3 o3 y3 v3 A (E.Ab B),Be k1 o1 y1 v1 j (E.Ab q),Be k2 o2 y2 v2 v (E.Ab a2)],[Be k1 o1 y1 v1 j (E.Ab q),Be k2 o2 y2 v2 v (E.Ab a2)],[Be k1 o1 y1 v1 j (E.Ab q)]],[]⟩ ?_
 obtain ⟨_,rfl,G7⟩:=PB 4 6 0 0 0 3 [97] [] [Be k3 o3 y3 v3 A (E.Ab B),Be k1 o1 y1 v1 j (E.Ab q),Be k2 o2 y2 v2 v (E.Ab a2)]
 refine ch G7 ?_
 refine ll l3 (E.Ab B) ?_
 refine de [[PV.int .i64 k3,.int .i64 o3,.int .i64 y3,.str A,.int .i32 v3,.list 6 (E.Ab B)]] ?_
 refine ll 1 [[PV.int .i64 k3,.int .i64 o3,.int .i64 y3,.str A,.int .i32 v3,.list 6 (E.Ab B)]] ?_
 refine fr ?_
 obtain ⟨_,rfl,G8⟩:=AcR 4 2 0 0 1 k1 o1 y1 v1 l1 k2 o2 y2 v2 l2 [] j v [[PV.int .i64 k3,.int .i64 o3,.int .i64 y3,.str A,.int .i32 v3,.list 6 (E.Ab B)]] (E.Ab q) (E.Ab a2)
 refine ch G8 ?_
 obtain ⟨_,rfl,G9⟩:=PB 5 6 0 0 0 3 [97] [] [Be 4 2 0 0 [] [[PV.int .i64 k3,.int .i64 o3,.int .i64 y3,.str A,.int .i32 v3,.list 6 (E.Ab B)]],Be k1 o1 y1 v1 j (E.Ab q),Be k2 o2 y2 v2 v (E.Ab a2)]
 refine ch G9 ?_
 obtain ⟨_,rfl,al⟩:=Afh 0 4 4 0 0 k1 o1 y1 v1 l1 [102] [] j (E.Ab q)
 refine cm al ?_
 refine ch al ?_
 refine nv ⟨[b0,b1,b2,op,n,p0,p1,p2,p3,p4,p5,k1,o1,y1,v1,l1,q0,q1,q2,q3,q4,q5,k2,o2,y2,v2,l2,r0,r1,r2,r3,r4,r5,k3,o3,y3,v3,l3,3,2,1,([[PV.int .i64 k3,.int .i64 o3,.int .i64 y3,.str A,.int .i32 v3,.list 6 (E.Ab B)]].length:Int),3,1],[j,v,A],[B0,B1,B2,P3,P4,P5,P6,(E.Ab q),P8,P9,R,O,(E.Ab a2),V,P,U,Q,(E.Ab B),[Be k3 o3 y3 v3 A (E.Ab B),Be k1 o1 y1 v1 j (E.Ab q),Be k2 o2 y2 v2 v (E.Ab a2)],[Be k1 o1 y1 v1 j (E.Ab q),Be k2 o2 y2 v2 v (E.Ab a2)],[Be k1 o1 y1 v1 j (E.Ab q)],[[PV.int .i64 k3,.int .i64 o3,.int .i64 y3,.str A,.int .i32 v3,.list 6 (E.Ab B)]],[Be 4 2 0 0 [] [[PV.int .i64 k3,.int .i64 o3,.int .i64 y3,.str A,.int .i32 v3,.list 6 (E.Ab B)]],Be k1 o1 y1 v1 j (E.Ab q),Be k2 o2 y2 v2 v (E.Ab a2)],[Be k1 o1 y1 v1 j (E.Ab q)]],[]⟩ ?_
 refine de [] ?_
 refine ll 0 [] ?_
 obtain ⟨_,rfl,ay⟩:=AcR k3 o3 y3 v3 l3 1 0 1 1 0 1 0 1 0 0 A [] [] (E.Ab B) [] []
 refine ch ay ?_
 obtain ⟨_,rfl,aH⟩:=PB 6 6 0 0 0 3 [97] [] [Be k3 o3 y3 v3 A (E.Ab B),Be 1 0 1 1 [] [],Be 1 0 1 0 [] []]
 refine ch aH ?_
 obtain ⟨_,rfl,ak⟩:=AlV q a2 [.node k1 o1 y1 v1 j q,.node k2 o2 y2 v2 v a2] [.node k1 o1 y1 v1 j q] [.node k3 o3 y3 v3 A B,.node k1 o1 y1 v1 j q,.node k2 o2 y2 v2 v a2] [.node 4 2 0 0 [] [.node k3 o3 y3 v3 A B],.node k1 o1 y1 v1 j q,.node k2 o2 y2 v2 v a2] [.node k1 o1 y1 v1 j q] [.node k3 o3 y3 v3 A B,.node 1 0 1 1 [] [],.node 1 0 1 0 [] []] (n%4) k1 o1 y1 v1 l1 k2 o2 y2 v2 l2 5 (g:Int) 0 0 2 4 (g2:Int) 0 0 1 6 0 0 0 3 6 0 0 0 3 4 4 0 0 1 6 0 0 0 3 j v [] [] [] [] [] [] (E.Ab q) (E.Ab a2) [Be k1 o1 y1 v1 j (E.Ab q),Be k2 o2 y2 v2 v (E.Ab a2)] [Be k1 o1 y1 v1 j (E.Ab q)] [Be k3 o3 y3 v3 A (E.Ab B),Be k1 o1 y1 v1 j (E.Ab q),Be k2 o2 y2 v2 v (E.Ab a2)] [Be 4 2 0 0 [] [[PV.int .i64 k3,.int .i64 o3,.int .i64 y3,.str A,.int .i32 v3,.list 6 (E.Ab B)]],Be k1 o1 y1 v1 j (E.Ab q),Be k2 o2 y2 v2 v (E.Ab a2)] [Be k1 o1 y1 v1 j (E.Ab q)] [Be k3 o3 y3 v3 A (E.Ab B),Be 1 0 1 1 [] [],Be 1 0 1 0 [] []] I N (.bin (Ai9 hg) I N) (.un (AmP aG) I) (.cond Y I N) (.cond (.un (by decide:Sk 2 3 3) Y) I N) (.un (by decide:Sk 4 1 2) I) (.cond Y (CT.IU (by decide)) (CT.IU (by decide))) rfl rfl rfl rfl rfl rfl rfl rfl (Sz.a X) (Sz.a Z) (Sz.bin X Z) (Sz.un X) (Sz.cond (Sz.up N3) X Z) (Sz.cond (Sz.not N3) X Z) (Sz.un X) (Sz.cond (Sz.up N3) Wb.num Wb.num)
 refine cm ak ?_
 refine ch ak ?_
 refine nv ⟨[b0,b1,b2,op,n,p0,p1,p2,p3,p4,p5,k1,o1,y1,v1,l1,q0,q1,q2,q3,q4,q5,k2,o2,y2,v2,l2,r0,r1,r2,r3,r4,r5,k3,o3,y3,v3,l3,3,2,1,([[PV.int .i64 k3,.int .i64 o3,.int .i64 y3,.str A,.int .i32 v3,.list 6 (E.Ab B)]].length:Int),3,1,([].length:Int),3,((E.node k1 o1 y1 v1 j q).val (n%4)),((E.node k2 o2 y2 v2 v a2).val (n%4)),((E.node 5 (g:Int) 0 0 [] [.node k1 o1 y1 v1 j q,.node k2 o2 y2 v2 v a2]).val (n%4)),((E.node 4 (g2:Int) 0 0 [] [.node k1 o1 y1 v1 j q]).val (n%4)),((E.node 6 0 0 0 [] [.node k3 o3 y3 v3 A B,.node k1 o1 y1 v1 j q,.node k2 o2 y2 v2 v a2]).val (n%4)),((E.node 6 0 0 0 [] [.node 4 2 0 0 [] [.node k3 o3 y3 v3 A B],.node k1 o1 y1 v1 j q,.node k2 o2 y2 v2 v a2]).val (n%4)),((E.node 6 0 0 0 [] [.node k3 o3 y3 v3 A B,.node 1 0 1 1 [] [],.node 1 0 1 0 [] []]).val (n%4)),((E.node 4 4 0 0 [] [.node k1 o1 y1 v1 j q]).val (n%4))],[j,v,A],[B0,B1,B2,P3,P4,P5,P6,(E.Ab q),P8,P9,R,O,(E.Ab a2),V,P,U,Q,(E.Ab B),[Be k3 o3 y3 v3 A (E.Ab B),Be k1 o1 y1 v1 j (E.Ab q),Be k2 o2 y2 v2 v (E.Ab a2)],[Be k1 o1 y1 v1 j (E.Ab q),Be k2 o2 y2 v2 v (E.Ab a2)],[Be k1 o1 y1 v1 j (E.Ab q)],[[PV.int .i64 k3,.int .i64 o3,.int .i64 y3,.str A,.int .i32 v3,.list 6 (E.Ab B)]],[Be 4 2 0 0 [] [[PV.int .i64 k3,.int .i64 o3,.int .i64 y3,.str A,.int .i32 v3,.list 6 (E.Ab B)]],Be k1 o1 y1 v1 j (E.Ab q),Be k2 o2 y2 v2 v (E.Ab a2)],[Be k1 o1 y1 v1 j (E.Ab q)],[],[Be k3 o3 y3 v3 A (E.Ab B),Be 1 0 1 1 [] [],Be 1 0 1 0 [] []]],[]⟩ ?_
 refine eq ((E.node 6 0 0 0 [] [.node k3 o3 y3 v3 A B,.node 1 0 1 1 [] [],.node 1 0 1 0 [] []]).val (n%4)) 1 (fun aI=>?_) fun aI=>?_
 ·refine AE ((E.node 6 0 0 0 [] [.node k3 o3 y3 v3 A B,.node 1 0 1 1 [] [],.node 1 0 1 0 [] []]).val (n%4)) 0 ?_ (fun hh=>absurd ((by assumption:_=(1:Int)).symm.trans hh) (by decide))
  obtain ⟨_,rfl,aD⟩:=Afe (g:Int) ((E.node k1 o1 y1 v1 j q).val (n%4)) ((E.node k2 o2 y2 v2 v a2).val (n%4)) hg ((CT.val I J).1) ((CT.val N J).1)
  refine ch aD ?_
  refine B4 ((E.node 5 (g:Int) 0 0 [] [.node k1 o1 y1 v1 j q,.node k2 o2 y2 v2 v a2]).val (n%4)) (EF (g:Int) ((E.node k1 o1 y1 v1 j q).val (n%4)) ((E.node k2 o2 y2 v2 v a2).val (n%4))) ?_ (by first|assumption|exact L.resolve_right asm|exact (C asm).1|exact (C asm).2|exact (H asm).1|exact (H asm).2|exact kn)
  obtain ⟨_,rfl,aC⟩:=Xs (g2:Int) ((E.node k1 o1 y1 v1 j q).val (n%4)) (by first|exact M|exact (by decide)) ((CT.val I J).1)
  refine ch aC ?_
  refine B4 ((E.node 4 (g2:Int) 0 0 [] [.node k1 o1 y1 v1 j q]).val (n%4)) (GL (g2:Int) ((E.node k1 o1 y1 v1 j q).val (n%4))) ?_ (by first|assumption|exact L.resolve_right asm|exact (C asm).1|exact (C asm).2|exact (H asm).1|exact (H asm).2|exact kn)
  refine B4 ((E.node 6 0 0 0 [] [.node k3 o3 y3 v3 A B,.node k1 o1 y1 v1 j q,.node k2 o2 y2 v2 v a2]).val (n%4)) ((E.node k1 o1 y1 v1 j q).val (n%4)) ?_ (by first|assumption|exact L.resolve_right asm|exact (C asm).1|exact (C asm).2|exact (H asm).1|exact (H asm).2|exact kn)
  refine B4 ((E.node 6 0 0 0 [] [.node 4 2 0 0 [] [.node k3 o3 y3 v3 A B],.node k1 o1 y1 v1 j q,.node k2 o2 y2 v2 v a2]).val (n%4)) ((E.node k2 o2 y2 v2 v a2).val (n%4)) ?_ (by first|assumption|exact L.resolve_right asm|exact (C asm).1|exact (C asm).2|exact (H asm).1|exact (H asm).2|exact kn)
  obtain ⟨_,rfl,ax⟩:=Xs 4 ((E.node k1 o1 y1 v1 j q).val (n%4)) (by first|exact M|exact (by decide)) ((CT.val I J).1)
  refine ch ax ?_
  refine B4 ((E.node 4 4 0 0 [] [.node k1 o1 y1 v1 j q]).val (n%4)) (GL 4 ((E.node k1 o1 y1 v1 j q).val (n%4))) ?_ (by first|assumption|exact L.resolve_right asm|exact (C asm).1|exact (C asm).2|exact (H asm).1|exact (H asm).2|exact kn)
  exact Ai v0 (rfl)
 refine B4 ((E.node 6 0 0 0 [] [.node k3 o3 y3 v3 A B,.node 1 0 1 1 [] [],.node 1 0 1 0 [] []]).val (n%4)) 0 ?_ (by first|assumption|exact L.resolve_right asm|exact (C asm).1|exact (C asm).2|exact (H asm).1|exact (H asm).2|exact kn)
 obtain ⟨_,rfl,az⟩:=Afe (g:Int) ((E.node k1 o1 y1 v1 j q).val (n%4)) ((E.node k2 o2 y2 v2 v a2).val (n%4)) hg ((CT.val I J).1) ((CT.val N J).1)
 refine ch az ?_
 refine B4 ((E.node 5 (g:Int) 0 0 [] [.node k1 o1 y1 v1 j q,.node k2 o2 y2 v2 v a2]).val (n%4)) (EF (g:Int) ((E.node k1 o1 y1 v1 j q).val (n%4)) ((E.node k2 o2 y2 v2 v a2).val (n%4))) ?_ (by first|assumption|exact L.resolve_right asm|exact (C asm).1|exact (C asm).2|exact (H asm).1|exact (H asm).2|exact kn)
 obtain ⟨_,rfl,aE⟩:=Xs (g2:Int) ((E.node k1 o1 y1 v1 j q).val (n%4)) (by first|exact M|exact (by decide)) ((CT.val I J).1)
 refine ch aE ?_
 refine B4 ((E.node 4 (g2:Int) 0 0 [] [.node k1 o1 y1 v1 j q]).val (n%4)) (GL (g2:Int) ((E.node k1 o1 y1 v1 j q).val (n%4))) ?_ (by first|assumption|exact L.resolve_right asm|exact (C asm).1|exact (C asm).2|exact (H asm).1|exact (H asm).2|exact kn)
 refine B4 ((E.node 6 0 0 0 [] [.node k3 o3 y3 v3 A B,.node k1 o1 y1 v1 j q,.node k2 o2 y2 v2 v a2]).val (n%4)) ((E.node k2 o2 y2 v2 v a2).val (n%4)) ?_ (by first|assumption|exact L.resolve_right asm|exact (C asm).1|exact (C asm).2|exact (H asm).1|exact (H asm).2|exact kn)
 refine B4 ((E.node 6 0 0 0 [] [.node 4 2 0 0 [] [.node k3 o3 y3 v3 A B],.node k1 o1 y1 v1 j q,.node k2 o2 y2 v2 v a2]).val (n%4)) ((E.node k1 o1 y1 v1 j q).val (n%4)) ?_ (by first|assumption|exact L.resolve_right asm|exact (C asm).1|exact (C asm).2|exact (H asm).1|exact (H asm).2|exact kn)
 obtain ⟨_,rfl,aw⟩:=Xs 4 ((E.node k1 o1 y1 v1 j q).val (n%4)) (by first|exact M|exact (by decide)) ((CT.val I J).1)
 refine ch aw ?_
 refine B4 ((E.node 4 4 0 0 [] [.node k1 o1 y1 v1 j q]).val (n%4)) (GL 4 ((E.node k1 o1 y1 v1 j q).val (n%4))) ?_ (by first|assumption|exact L.resolve_right asm|exact (C asm).1|exact (C asm).2|exact (H asm).1|exact (H asm).2|exact kn)
 exact Ai v0 (rfl)
def Anr (N:Nat):Prop:=∀(v q:Int) (b2 op n:Int) (j x z:Rs) (J:BB j) (H:BB x) (C:BB z) (B:v=j.length) (I:q=x.length) (L:b2=z.length) (h:v<=140737488355328/\q<=140737488355328/\b2<=140737488355328/\0<=op/\op<=255/\0<=n/\n<=255:=by exact kn),Ok trees N ⟨[v,q,b2,op,n],[],[j,x,z],[]⟩ fun A=>(A=(1,v0))
theorem Amd:Anr 180:=by
 intro b0 b1 b2 op n B0 B1 B2 aU aM a2 a1 a6 a5 h
 refine .of (t:=C0) rfl ?_
 unfold C0
 obtain ⟨_,⟨N,j,z,q,x,B,A,I,v,P,rfl,aL,bt,bi,a8,bm⟩,G1⟩:=c_4 aU a1
 refine ch G1 ?_
 refine nv ⟨[b0,b1,b2,op,n,N,j,z,q,x,B],[],[B0,B1,B2,A,I,v,P],[]⟩ ?_
 obtain ⟨_,af,aa,X,aH⟩:=aL.body
 obtain ⟨_,⟨Y,Z,V,ah,J,ac,ab,rfl,bx,bB⟩,G2⟩:=AcS N j z q x B 1 [107] A I v P af aa X
 refine ch G2 ?_
 refine nv ⟨[b0,b1,b2,op,n,N,j,z,q,x,B,Y,Z,V,ah,J],[ac],[B0,B1,B2,A,I,v,P,ab],[]⟩ ?_
 obtain ⟨_,⟨ae,C,M,H,Q,L,O,ad,R,ag,rfl,aI,bb,bl,bp,bv⟩,G3⟩:=c_4 aM a6
 refine ch G3 ?_
 refine nv ⟨[b0,b1,b2,op,n,N,j,z,q,x,B,Y,Z,V,ah,J,ae,C,M,H,Q,L],[ac],[B0,B1,B2,A,I,v,P,ab,O,ad,R,ag],[]⟩ ?_
 obtain ⟨_,af,aa,X,aH⟩:=aI.body
 obtain ⟨_,⟨ay,aB,aG,aE,al,az,aF,rfl,bj,bk⟩,G4⟩:=AcS ae C M H Q L 1 [107] O ad R ag af aa X
 refine ch G4 ?_
 refine nv ⟨[b0,b1,b2,op,n,N,j,z,q,x,B,Y,Z,V,ah,J,ae,C,M,H,Q,L,ay,aB,aG,aE,al],[ac,az],[B0,B1,B2,A,I,v,P,ab,O,ad,R,ag,aF],[]⟩ ?_
 obtain ⟨_,⟨aD,U,ai,ao,aj,ak,an,aA,ap,aC,rfl,aJ,br,bC,bg,bD⟩,G5⟩:=c_4 a2 a5
 refine ch G5 ?_
 refine nv ⟨[b0,b1,b2,op,n,N,j,z,q,x,B,Y,Z,V,ah,J,ae,C,M,H,Q,L,ay,aB,aG,aE,al,aD,U,ai,ao,aj,ak],[ac,az],[B0,B1,B2,A,I,v,P,ab,O,ad,R,ag,aF,an,aA,ap,aC],[]⟩ ?_
 obtain ⟨_,af,aa,X,aH⟩:=aJ.body
 obtain ⟨_,⟨aX,a4,aN,a0,aK,aV,a7,rfl,be,bA⟩,G6⟩:=AcS aD U ai ao aj ak 3 [107] an aA ap aC af aa X
 refine ch G6 ?_
 refine nv ⟨[b0,b1,b2,op,n,N,j,z,q,x,B,Y,Z,V,ah,J,ae,C,M,H,Q,L,ay,aB,aG,aE,al,aD,U,ai,ao,aj,ak,aX,a4,aN,a0,aK],[ac,az,aV],[B0,B1,B2,A,I,v,P,ab,O,ad,R,ag,aF,an,aA,ap,aC,a7],[]⟩ ?_
 refine eq (op%12) 0 (fun t7=>?_) fun t7=>?_
 ·refine B4 (op%3) 0 ?_ (by first|assumption|exact H6.resolve_right asm|exact (H1 asm).1|exact (H1 asm).2|exact (H0 asm).1|exact (H0 asm).2|exact kn)
  exact GK 10 1 (by decide) (by decide) om asm asm asm asm asm asm
 refine eq (op%12) 1 (fun t8=>?_) fun t8=>?_
 ·refine AE (op%3) 0 ?_
  refine B4 (op%3) 1 ?_ (by first|assumption|exact H6.resolve_right asm|exact (H1 asm).1|exact (H1 asm).2|exact (H0 asm).1|exact (H0 asm).2|exact kn)
  exact GK 11 2 (by decide) (by decide) om asm asm asm asm asm asm
 refine eq (op%12) 2 (fun t9=>?_) fun t9=>?_
 ·refine AE (op%3) 0 ?_
  refine AE (op%3) 1 ?_
  refine B4 (op%3) 2 ?_ (by first|assumption|exact H6.resolve_right asm|exact (H1 asm).1|exact (H1 asm).2|exact (H0 asm).1|exact (H0 asm).2|exact kn)
  exact GK 12 3 (by decide) (by decide) om asm asm asm asm asm asm
 refine eq (op%12) 3 (fun aY=>?_) fun aY=>?_
 ·refine B4 (op%3) 0 ?_ (by first|assumption|exact H6.resolve_right asm|exact (H1 asm).1|exact (H1 asm).2|exact (H0 asm).1|exact (H0 asm).2|exact kn)
  exact GK 13 1 (by decide) (by decide) om asm asm asm asm asm asm
 refine eq (op%12) 4 (fun aW=>?_) fun aW=>?_
 ·refine AE (op%3) 0 ?_
  refine B4 (op%3) 1 ?_ (by first|assumption|exact H6.resolve_right asm|exact (H1 asm).1|exact (H1 asm).2|exact (H0 asm).1|exact (H0 asm).2|exact kn)
  exact GK 14 2 (by decide) (by decide) om asm asm asm asm asm asm
 refine eq (op%12) 5 (fun aR=>?_) fun aR=>?_
 ·refine AE (op%3) 0 ?_
  refine AE (op%3) 1 ?_
  refine B4 (op%3) 2 ?_ (by first|assumption|exact H6.resolve_right asm|exact (H1 asm).1|exact (H1 asm).2|exact (H0 asm).1|exact (H0 asm).2|exact kn)
  exact GK 17 3 (by decide) (by decide) om asm asm asm asm asm asm
 refine eq (op%12) 6 (fun aQ=>?_) fun aQ=>?_
 ·refine B4 (op%3) 0 ?_ (by first|assumption|exact H6.resolve_right asm|exact (H1 asm).1|exact (H1 asm).2|exact (H0 asm).1|exact (H0 asm).2|exact kn)
  exact GK 18 1 (by decide) (by decide) om asm asm asm asm asm asm
 refine eq (op%12) 7 (fun a3=>?_) fun a3=>?_
 ·refine AE (op%3) 0 ?_
  refine B4 (op%3) 1 ?_ (by first|assumption|exact H6.resolve_right asm|exact (H1 asm).1|exact (H1 asm).2|exact (H0 asm).1|exact (H0 asm).2|exact kn)
  exact GK 19 2 (by decide) (by decide) om asm asm asm asm asm asm
 refine eq (op%12) 8 (fun aP=>?_) fun aP=>?_
 ·refine AE (op%3) 0 ?_
  refine AE (op%3) 1 ?_
  refine B4 (op%3) 2 ?_ (by first|assumption|exact H6.resolve_right asm|exact (H1 asm).1|exact (H1 asm).2|exact (H0 asm).1|exact (H0 asm).2|exact kn)
  exact GK 20 3 (by decide) (by decide) om asm asm asm asm asm asm
 refine eq (op%12) 9 (fun aO=>?_) fun aO=>?_
 ·refine B4 (op%3) 0 ?_ (by first|assumption|exact H6.resolve_right asm|exact (H1 asm).1|exact (H1 asm).2|exact (H0 asm).1|exact (H0 asm).2|exact kn)
  exact GK 21 1 (by decide) (by decide) om asm asm asm asm asm asm
 refine eq (op%12) 10 (fun aZ=>?_) fun aZ=>?_
 ·refine AE (op%3) 0 ?_
  refine B4 (op%3) 1 ?_ (by first|assumption|exact H6.resolve_right asm|exact (H1 asm).1|exact (H1 asm).2|exact (H0 asm).1|exact (H0 asm).2|exact kn)
  exact GK 22 2 (by decide) (by decide) om asm asm asm asm asm asm
 refine B4 (op%12) 11 ?_ (by first|assumption|exact H6.resolve_right asm|exact (H1 asm).1|exact (H1 asm).2|exact (H0 asm).1|exact (H0 asm).2|exact kn)
 refine AE (op%3) 0 ?_
 refine AE (op%3) 1 ?_
 refine B4 (op%3) 2 ?_ (by first|assumption|exact H6.resolve_right asm|exact (H1 asm).1|exact (H1 asm).2|exact (H0 asm).1|exact (H0 asm).2|exact kn)
 exact GK 23 3 (by decide) (by decide) om asm asm asm asm asm asm
theorem T0 {j q v:Rs} {op n:Int} (I:BB j) (H:BB q) (B:BB v) (l0:(j.length:Int)<=140737488355328) (A:(q.length:Int)<=140737488355328) (C:(v.length:Int)<=140737488355328) (x:0<=op/\op<=255) (J:0<=n/\n<=255):Ok trees 180 ⟨[(j.length:Int),q.length,v.length,op,n],[],[j,q,v],[]⟩ fun z=>z=(1,v0):=
 Amd _ _ _ op n j q v I H B rfl rfl rfl ⟨l0,A,C,x.1,x.2,J⟩
end
end Go.Proofs.YtaolbokoijfhnaaGreatDoor.Am
