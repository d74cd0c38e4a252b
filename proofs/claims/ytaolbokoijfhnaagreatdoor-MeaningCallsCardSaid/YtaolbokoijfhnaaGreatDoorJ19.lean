/- Part 19 of MeaningCalls. -/
import Derived.Test.YtaolbokoijfhnaaGreatDoorJ16
import Derived.Test.YtaolbokoijfhnaaGreatDoorJ17
import Derived.Test.YtaolbokoijfhnaaGreatDoorJ18
set_option linter.all false
namespace Go.Proofs.YtaolbokoijfhnaaGreatDoor.Am
section
set_option maxHeartbeats 4000000
set_option maxRecDepth 100000
open Go.AM Go.AM.K
def Anq (N n:Nat):Prop:=∀(t:Int) (a:List E) (k o:Int) (ty v:Int) (ln g:Int) (sub al:Int) (fl M:Int) (j id:Int) (wa P:Int) (wv V:Int) (st sl:Int) (sn sv:Int) (R vt:Int) (vv Z:Int) (m1 m2:Int) (m3 m4:Int) (m5 J:Int) (X m8:Int) (O z:Int) (C x:Int) (H B q:Int) (s I:List Nat) (Y vm:List Nat) (A Ar:Rs) (L U Sl:Rs) (hT:CT t (.node k o ty v s a)) (hA:A=E.Ab a) (h:ln=A.length/\g=4/\sub=2/\j=1/\0<=id/\id<=3/\(E.node k o ty v s a).high<n),Ok trees N ⟨[k,o,ty,v,ln,g,sub,al,fl,M,j,id,wa,P,wv,V,st,sl,sn,sv,R,vt,vv,Z,m1,m2,m3,m4,m5,J,X,m8,O,z,C,x,H,B,q],[s,I,Y,vm],[A,Ar,L,U,Sl],[]⟩ fun Q=>(Q=(0,(⟨[((E.node k o ty v s a).val id),t],[],[],[]⟩:Aj)))
def Amt (N:Nat):Prop:=∀(t:Int) (a:List E) (k o:Int) (ty v:Int) (ln g:Int) (sub al:Int) (fl M:Int) (j id:Int) (wa P:Int) (wv V:Int) (st sl:Int) (sn sv:Int) (R vt:Int) (vv Z:Int) (m1 m2:Int) (m3 m4:Int) (m5 J:Int) (X m8:Int) (O z:Int) (C x:Int) (H B q:Int) (s I:List Nat) (Y vm:List Nat) (A Ar:Rs) (L U Sl:Rs) (hT:CT t (.node k o ty v s a)) (hA:A=E.Ab a) (h:ln=A.length/\g=4/\sub=2/\j=1/\0<=id/\id<=3:=by exact kn),Ok trees N ⟨[k,o,ty,v,ln,g,sub,al,fl,M,j,id,wa,P,wv,V,st,sl,sn,sv,R,vt,vv,Z,m1,m2,m3,m4,m5,J,X,m8,O,z,C,x,H,B,q],[s,I,Y,vm],[A,Ar,L,U,Sl],[]⟩ fun Q=>(Q=(0,(⟨[((E.node k o ty v s a).val id),t],[],[],[]⟩:Aj)))
theorem AiF (n:Nat):Anq 206 n:=by
 induction n with
 |zero=>intro t a k o ty v ln g sub al fl bl lg id wa wo wv wx st sl sn sv sr vt vv m0 m1 m2 m3 m4 m5 m6 m7 m8 m9 V Q P Y X U s R tg vm A Ar Fs Bd Sl hT hA h;exact absurd h.2.2.2.2.2.2 (Nat.not_lt_zero _)
 |succ n ih=>
 intro t a k o ty v ln g sub al fl bl lg id wa wo wv wx st sl sn sv sr vt vv m0 m1 m2 m3 m4 m5 m6 m7 m8 m9 V Q P Y X U s R tg vm A Ar Fs Bd Sl hT hA h
 subst hA;obtain ⟨aJ,rfl,rfl,rfl,aH,aI,bh⟩:=h;have I:ln=(a.length:Int):=(by rw [E.A7]at aJ;exact aJ);have e2:=Fu (k:=k) (o:=o) (ty:=ty) (v:=v) (s:=s) (a:=a)
 rcases (TR.inv hT)with hv|hv|hv|hv|hv|hv|hv|hv|hv|hv
 ·obtain ⟨rfl,rfl,rfl,rfl,rfl,r1,r2,r3,r4,r5,r6⟩:=hv;simp only [lC,lN]at I;have e3:E.Ad []=0:=rfl
  refine .of (t:=LP) rfl ?_
  conv=>arg 3;reduce
  refine Bg 1 1 ?_
  refine Bg ln 0 ?_
  first|exact Ah ⟨[v,ty],[],[],[]⟩ ((HP PA.symm)) |(exfalso;omega)
 ·obtain ⟨rfl,rfl,rfl,rfl,rfl,rfl,r1,r2⟩:=hv;simp only [lC,lN]at I;have e3:E.Ad []=0:=rfl
  refine .of (t:=LP) rfl ?_
  conv=>arg 3;reduce
  refine NN 3 1 ?_
  refine Bg 3 3 ?_
  refine Bg ln 0 ?_
  refine lt id 0 (fun q=>?_) fun q=>?_
  ·first|exact Ah ⟨[0,1],[],[],[]⟩ ((HP Pa)) |(exfalso;omega)
  refine ge id (1*4) (fun J=>?_) fun J=>?_
  ·first|exact Ah ⟨[0,1],[],[],[]⟩ ((HP Pa)) |(exfalso;omega)
  refine AB 4 0 ?_
  refine eq o 1 (fun t3=>?_) fun t3=>?_
  ·first|exact Ah ⟨[id,1],[],[],[]⟩ ((HP Pa)) |(exfalso;omega)
  refine eq o 2 (fun t4=>?_) fun t4=>?_
  ·first|exact Ah ⟨[(id%4),1],[],[],[]⟩ ((HP Pa)) |(exfalso;omega)
  refine eq o 3 (fun t5=>?_) fun t5=>?_
  ·first|exact Ah ⟨[(id/4),1],[],[],[]⟩ ((HP Pa)) |(exfalso;omega)
  refine eq o 4 (fun t6=>?_) fun t6=>?_
  ·first|exact Ah ⟨[(1*4),1],[],[],[]⟩ ((HP Pa)) |(exfalso;omega)
  refine eq o 5 (fun t7=>?_) fun t7=>?_
  ·first|exact Ah ⟨[4,1],[],[],[]⟩ ((HP Pa)) |(exfalso;omega)
  refine eq o 6 (fun t8=>?_) fun t8=>?_
  ·refine AB 2 0 ?_
   first|exact Ah ⟨[((id%4)%2),1],[],[],[]⟩ ((HP Pa)) |(exfalso;omega)
  refine eq o 7 (fun t9=>?_) fun t9=>?_
  ·refine AB 2 0 ?_
   first|exact Ah ⟨[((id%4)/2),1],[],[],[]⟩ ((HP Pa)) |(exfalso;omega)
  first|exact Ah ⟨[0,1],[],[],[]⟩ ((HP Pa)) |(exfalso;omega)
 ·obtain ⟨rfl,rfl,rfl,rfl,rfl,hs,kk,ii,hk,r1,r2,Z⟩:=hv;simp only [lC,lN]at I;have e3:E.Ad []=0:=rfl;exact Z.elim
 ·obtain ⟨rfl,rfl,rfl,rfl,C,H,q,v1,B,j,w,rfl,hu,h1⟩:=hv;simp only [lC,lN]at I;have e3:=n1 (x:=.node C H q v1 B j);have e4:=g1 (x:=.node C H q v1 B j)
  refine .of (t:=LP) rfl ?_
  conv=>arg 3;reduce
  refine NN 4 1 ?_
  refine NN 4 3 ?_
  refine Bg 4 4 ?_
  refine Bg ln 1 ?_
  refine el (j':=0) rfl ?_
  obtain ⟨_,rfl,a0⟩:=ih w j C H q v1 ((E.Ab j).length:Int) 4 2 al fl bl 1 id wa wo wv wx st sl sn sv sr vt vv m0 m1 m2 m3 m4 m5 m6 m7 m8 m9 V Q P Y X U B R tg vm (E.Ab j) Ar Fs Bd Sl asm rfl kn
  refine ch a0 ?_
  obtain ⟨_,rfl,aY⟩:=Xd t o w hu
  refine ch aY ?_
  obtain ⟨_,rfl,a4⟩:=Ae1 o ((E.node C H q v1 B j).val id) (by have:=hu.X2;omega) ((CT.val h1 ⟨aH,aI⟩).1)
  refine ch a4 ?_
  refine eq o 2 (fun aV=>?_) fun aV=>?_
  ·refine eq w 3 (fun a6=>?_) fun a6=>?_
   ·first|exact Ah ⟨[(bits .xor .i32 ((E.node C H q v1 B j).val id) 1),t],[],[],[]⟩ ((HP (by rw [I5,if_pos ⟨by assumption,(CT.tb h1).2 asm⟩]))) |(exfalso;omega)
   first|exact Ah ⟨[(uoV o ((E.node C H q v1 B j).val id)),t],[],[],[]⟩ ((HP (by rw [I5,if_neg (fun h=>absurd ((CT.tb h1).1 h.2) asm)]))) |(exfalso;omega)
  first|exact Ah ⟨[(uoV o ((E.node C H q v1 B j).val id)),t],[],[],[]⟩ ((HP (by rw [I5,if_neg (fun h=>absurd h.1 asm)]))) |(exfalso;omega)
 ·obtain ⟨rfl,rfl,rfl,rfl,C,H,q,v1,B,j,M,O,J,L,N,b2,w,rfl,hu,h1,h2⟩:=hv;simp only [lC,lN]at I;have e3:=n2 (x:=.node C H q v1 B j) (y:=.node M O J L N b2);have e4:=g2 (x:=.node C H q v1 B j) (y:=.node M O J L N b2)
  refine .of (t:=LP) rfl ?_
  conv=>arg 3;reduce
  refine NN 5 1 ?_
  refine NN 5 3 ?_
  refine NN 5 4 ?_
  refine Bg 5 5 ?_
  refine Bg ln 2 ?_
  refine el (j':=0) rfl ?_
  obtain ⟨_,rfl,a5⟩:=ih w j C H q v1 ((E.Ab j).length:Int) 4 2 al fl bl 1 id wa wo wv wx st sl sn sv sr vt vv m0 m1 m2 m3 m4 m5 m6 m7 m8 m9 V Q P Y X U B R tg vm (E.Ab j) Ar Fs Bd Sl asm rfl kn
  refine ch a5 ?_
  refine el (j':=1) rfl ?_
  obtain ⟨_,rfl,a2⟩:=ih w b2 M O J L ((E.Ab b2).length:Int) 4 2 al fl bl 1 id wa wo wv wx st sl sn sv sr vt vv m0 m1 m2 m3 m4 m5 m6 m7 m8 m9 V Q P Y X U N R tg vm (E.Ab b2) Ar Fs Bd Sl asm rfl kn
  refine ch a2 ?_
  obtain ⟨_,rfl,aX⟩:=Px t o w w hu rfl
  refine ch aX ?_
  obtain ⟨_,rfl,aZ⟩:=Pw o ((E.node C H q v1 B j).val id) ((E.node M O J L N b2).val id) (by have:=hu.X2;omega) ((CT.val h1 ⟨aH,aI⟩).1) ((CT.val h2 ⟨aH,aI⟩).1)
  refine ch aZ ?_
  first|exact Ah ⟨[(Ce o ((E.node C H q v1 B j).val id) ((E.node M O J L N b2).val id)),t],[],[],[]⟩ ((HP PB.symm)) |(exfalso;omega)
 ·obtain ⟨rfl,rfl,rfl,rfl,rfl,C,H,q,v1,B,j,M,O,J,L,N,b2,k3,o3,t3,v3,s3,b3,rfl,h1,h2,h3⟩:=hv;simp only [lC,lN]at I;have e3:=n3 (x:=.node C H q v1 B j) (y:=.node M O J L N b2) (z:=.node k3 o3 t3 v3 s3 b3);have e4:=g3 (x:=.node C H q v1 B j) (y:=.node M O J L N b2) (z:=.node k3 o3 t3 v3 s3 b3)
  refine .of (t:=LP) rfl ?_
  conv=>arg 3;reduce
  refine NN 6 1 ?_
  refine NN 6 3 ?_
  refine NN 6 4 ?_
  refine NN 6 5 ?_
  refine Bg 6 6 ?_
  refine Bg ln 3 ?_
  refine el (j':=0) rfl ?_
  obtain ⟨_,rfl,a7⟩:=ih 3 j C H q v1 ((E.Ab j).length:Int) 4 2 al fl bl 1 id wa wo wv wx st sl sn sv sr vt vv m0 m1 m2 m3 m4 m5 m6 m7 m8 m9 V Q P Y X U B R tg vm (E.Ab j) Ar Fs Bd Sl asm rfl kn
  refine ch a7 ?_
  refine el (j':=1) rfl ?_
  obtain ⟨_,rfl,aU⟩:=ih t b2 M O J L ((E.Ab b2).length:Int) 4 2 al fl bl 1 id wa wo wv wx st sl sn sv sr vt vv m0 m1 m2 m3 m4 m5 m6 m7 m8 m9 V Q P Y X U N R tg vm (E.Ab b2) Ar Fs Bd Sl asm rfl kn
  refine ch aU ?_
  refine el (j':=2) rfl ?_
  obtain ⟨_,rfl,aR⟩:=ih t b3 k3 o3 t3 v3 ((E.Ab b3).length:Int) 4 2 al fl bl 1 id wa wo wv wx st sl sn sv sr vt vv m0 m1 m2 m3 m4 m5 m6 m7 m8 m9 V Q P Y X U s3 R tg vm (E.Ab b3) Ar Fs Bd Sl asm rfl kn
  refine ch aR ?_
  refine ne ((E.node C H q v1 B j).val id) 0 (fun aW=>?_) fun aW=>?_
  ·first|exact Ah ⟨[((E.node M O J L N b2).val id),t],[],[],[]⟩ ((HP (by rw [GW,if_pos asm]))) |(exfalso;omega)
  first|exact Ah ⟨[((E.node k3 o3 t3 v3 s3 b3).val id),t],[],[],[]⟩ ((HP (by rw [GW,if_neg asm]))) |(exfalso;omega)
 ·obtain ⟨rfl,rfl,rfl,rfl,hs,C,H,q,v1,B,j,ii,rfl,r1,r2,Z,h1⟩:=hv;simp only [lC,lN]at I;have e3:=n1 (x:=.node C H q v1 B j);have e4:=g1 (x:=.node C H q v1 B j);exact Z.elim
 ·obtain ⟨rfl,rfl,rfl,rfl,rfl,C,H,q,v1,B,j,M,O,J,L,N,b2,ii,rfl,rfl,Z,h1,h2⟩:=hv;simp only [lC,lN]at I;have e3:=n2 (x:=.node C H q v1 B j) (y:=.node M O J L N b2);have e4:=g2 (x:=.node C H q v1 B j) (y:=.node M O J L N b2);exact Z.elim
 ·obtain ⟨rfl,rfl,rfl,rfl,rfl,hs,⟨r1,r2⟩,Z⟩:=hv;simp only [lC,lN]at I;have e3:E.Ad []=0:=rfl;exact (Z [] (0,0,0)).elim
 ·obtain ⟨rfl,rfl,rfl,rfl,hs,C,H,q,v1,B,j,rfl,⟨r1,r2⟩,Z,h1⟩:=hv;simp only [lC,lN]at I;have e3:=n1 (x:=.node C H q v1 B j);have e4:=g1 (x:=.node C H q v1 B j);exact (Z [] (0,0,0)).elim
theorem Als:Amt 206:=fun t a k o ty v ln g sub al fl L M id wa O wv U st sl sn sv Q vt vv Z m1 m2 m3 m4 m5 I X m8 N x B q C z j s H Y vm A Ar J R Sl P V h=>AiF ((E.node k o ty v s a).high+1) t a k o ty v ln g sub al fl L M id wa O wv U st sl sn sv Q vt vv Z m1 m2 m3 m4 m5 I X m8 N x B q C z j s H Y vm A Ar J R Sl P V ⟨h.1,h.2.1,h.2.2.1,h.2.2.2.1,h.2.2.2.2.1,h.2.2.2.2.2,Nat.lt_succ_self _⟩
def Anp (N n:Nat):Prop:=∀(t:Int) (a:List E) (k o:Int) (ty v:Int) (ln g:Int) (sub al:Int) (fl O:Int) (j id:Int) (wa Q:Int) (wv X:Int) (x st:Int) (sl sn:Int) (sv U:Int) (vt vv:Int) (m0 m1:Int) (m2 m3:Int) (m4 m5:Int) (L Y:Int) (m8 P:Int) (B H:Int) (z I:Int) (C q:Int) (s J:List Nat) (Z vm:List Nat) (A Ar:Rs) (M V:Rs) (Sl Ev:Rs) (hT:CT t (.node k o ty v s a)) (hA:A=E.Ab a) (h:ln=A.length/\g=4/\sub=2/\j=1/\0<=id/\id<=3/\(E.node k o ty v s a).high<n),Ok trees N ⟨[k,o,ty,v,ln,g,sub,al,fl,O,j,id,wa,Q,wv,X,x,st,sl,sn,sv,U,vt,vv,m0,m1,m2,m3,m4,m5,L,Y,m8,P,B,H,z,I,C,q],[s,J,Z,vm],[A,Ar,M,V,Sl,Ev],[]⟩ fun R=>(R=(0,(⟨[((E.node k o ty v s a).val id),t],[],[],[]⟩:Aj)))
def Ams (N:Nat):Prop:=∀(t:Int) (a:List E) (k o:Int) (ty v:Int) (ln g:Int) (sub al:Int) (fl O:Int) (j id:Int) (wa Q:Int) (wv X:Int) (x st:Int) (sl sn:Int) (sv U:Int) (vt vv:Int) (m0 m1:Int) (m2 m3:Int) (m4 m5:Int) (L Y:Int) (m8 P:Int) (B H:Int) (z I:Int) (C q:Int) (s J:List Nat) (Z vm:List Nat) (A Ar:Rs) (M V:Rs) (Sl Ev:Rs) (hT:CT t (.node k o ty v s a)) (hA:A=E.Ab a) (h:ln=A.length/\g=4/\sub=2/\j=1/\0<=id/\id<=3:=by exact kn),Ok trees N ⟨[k,o,ty,v,ln,g,sub,al,fl,O,j,id,wa,Q,wv,X,x,st,sl,sn,sv,U,vt,vv,m0,m1,m2,m3,m4,m5,L,Y,m8,P,B,H,z,I,C,q],[s,J,Z,vm],[A,Ar,M,V,Sl,Ev],[]⟩ fun R=>(R=(0,(⟨[((E.node k o ty v s a).val id),t],[],[],[]⟩:Aj)))
theorem AiE (n:Nat):Anp 207 n:=by
 induction n with
 |zero=>intro t a k o ty v ln g sub al fl bl lg id wa wo wv wx V st sl sn sv sr vt vv m0 m1 m2 m3 m4 m5 m6 m7 m8 m9 X Q P Z Y U s R tg vm A Ar Fs Bd Sl Ev hT hA h;exact absurd h.2.2.2.2.2.2 (Nat.not_lt_zero _)
 |succ n ih=>
 intro t a k o ty v ln g sub al fl bl lg id wa wo wv wx V st sl sn sv sr vt vv m0 m1 m2 m3 m4 m5 m6 m7 m8 m9 X Q P Z Y U s R tg vm A Ar Fs Bd Sl Ev hT hA h
 subst hA;obtain ⟨aL,rfl,rfl,rfl,aJ,aK,bj⟩:=h;have I:ln=(a.length:Int):=(by rw [E.A7]at aL;exact aL);have e2:=Fu (k:=k) (o:=o) (ty:=ty) (v:=v) (s:=s) (a:=a)
 rcases (TR.inv hT)with hv|hv|hv|hv|hv|hv|hv|hv|hv|hv
 ·obtain ⟨rfl,rfl,rfl,rfl,rfl,r1,r2,r3,r4,r5,r6⟩:=hv;simp only [lC,lN]at I;have e3:E.Ad []=0:=rfl
  refine .of (t:=LO) rfl ?_
  conv=>arg 3;reduce
  refine Bg 1 1 ?_
  refine Bg ln 0 ?_
  first|exact Ah ⟨[v,ty],[],[],[]⟩ ((HP PA.symm)) |(exfalso;omega)
 ·obtain ⟨rfl,rfl,rfl,rfl,rfl,rfl,r1,r2⟩:=hv;simp only [lC,lN]at I;have e3:E.Ad []=0:=rfl
  refine .of (t:=LO) rfl ?_
  conv=>arg 3;reduce
  refine NN 3 1 ?_
  refine Bg 3 3 ?_
  refine Bg ln 0 ?_
  refine lt id 0 (fun q=>?_) fun q=>?_
  ·first|exact Ah ⟨[0,1],[],[],[]⟩ ((HP Pa)) |(exfalso;omega)
  refine ge id (1*4) (fun J=>?_) fun J=>?_
  ·first|exact Ah ⟨[0,1],[],[],[]⟩ ((HP Pa)) |(exfalso;omega)
  refine AB 4 0 ?_
  refine eq o 1 (fun t3=>?_) fun t3=>?_
  ·first|exact Ah ⟨[id,1],[],[],[]⟩ ((HP Pa)) |(exfalso;omega)
  refine eq o 2 (fun t4=>?_) fun t4=>?_
  ·first|exact Ah ⟨[(id%4),1],[],[],[]⟩ ((HP Pa)) |(exfalso;omega)
  refine eq o 3 (fun t5=>?_) fun t5=>?_
  ·first|exact Ah ⟨[(id/4),1],[],[],[]⟩ ((HP Pa)) |(exfalso;omega)
  refine eq o 4 (fun t6=>?_) fun t6=>?_
  ·first|exact Ah ⟨[(1*4),1],[],[],[]⟩ ((HP Pa)) |(exfalso;omega)
  refine eq o 5 (fun t7=>?_) fun t7=>?_
  ·first|exact Ah ⟨[4,1],[],[],[]⟩ ((HP Pa)) |(exfalso;omega)
  refine eq o 6 (fun t8=>?_) fun t8=>?_
  ·refine AB 2 0 ?_
   first|exact Ah ⟨[((id%4)%2),1],[],[],[]⟩ ((HP Pa)) |(exfalso;omega)
  refine eq o 7 (fun t9=>?_) fun t9=>?_
  ·refine AB 2 0 ?_
   first|exact Ah ⟨[((id%4)/2),1],[],[],[]⟩ ((HP Pa)) |(exfalso;omega)
  first|exact Ah ⟨[0,1],[],[],[]⟩ ((HP Pa)) |(exfalso;omega)
 ·obtain ⟨rfl,rfl,rfl,rfl,rfl,hs,kk,ii,hk,r1,r2,hg⟩:=hv;simp only [lC,lN]at I;have e3:E.Ad []=0:=rfl;exact hg.elim
 ·obtain ⟨rfl,rfl,rfl,rfl,C,H,q,v1,B,j,w,rfl,hu,h1⟩:=hv;simp only [lC,lN]at I;have e3:=n1 (x:=.node C H q v1 B j);have e4:=g1 (x:=.node C H q v1 B j)
  refine .of (t:=LO) rfl ?_
  conv=>arg 3;reduce
  refine NN 4 1 ?_
  refine NN 4 3 ?_
  refine Bg 4 4 ?_
  refine Bg ln 1 ?_
  refine el (j':=0) rfl ?_
  obtain ⟨_,rfl,a2⟩:=ih w j C H q v1 ((E.Ab j).length:Int) 4 2 al fl bl 1 id wa wo wv wx V st sl sn sv sr vt vv m0 m1 m2 m3 m4 m5 m6 m7 m8 m9 X Q P Z Y U B R tg vm (E.Ab j) Ar Fs Bd Sl Ev asm rfl kn
  refine ch a2 ?_
  obtain ⟨_,rfl,a0⟩:=Xd t o w hu
  refine ch a0 ?_
  obtain ⟨_,rfl,a6⟩:=Ae1 o ((E.node C H q v1 B j).val id) (by have:=hu.X2;omega) ((CT.val h1 ⟨aJ,aK⟩).1)
  refine ch a6 ?_
  refine eq o 2 (fun aX=>?_) fun aX=>?_
  ·refine eq w 3 (fun a8=>?_) fun a8=>?_
   ·first|exact Ah ⟨[(bits .xor .i32 ((E.node C H q v1 B j).val id) 1),t],[],[],[]⟩ ((HP (by rw [I5,if_pos ⟨by assumption,(CT.tb h1).2 asm⟩]))) |(exfalso;omega)
   first|exact Ah ⟨[(uoV o ((E.node C H q v1 B j).val id)),t],[],[],[]⟩ ((HP (by rw [I5,if_neg (fun h=>absurd ((CT.tb h1).1 h.2) asm)]))) |(exfalso;omega)
  first|exact Ah ⟨[(uoV o ((E.node C H q v1 B j).val id)),t],[],[],[]⟩ ((HP (by rw [I5,if_neg (fun h=>absurd h.1 asm)]))) |(exfalso;omega)
 ·obtain ⟨rfl,rfl,rfl,rfl,C,H,q,v1,B,j,M,O,J,L,N,b2,w,rfl,hu,h1,h2⟩:=hv;simp only [lC,lN]at I;have e3:=n2 (x:=.node C H q v1 B j) (y:=.node M O J L N b2);have e4:=g2 (x:=.node C H q v1 B j) (y:=.node M O J L N b2)
  refine .of (t:=LO) rfl ?_
  conv=>arg 3;reduce
  refine NN 5 1 ?_
  refine NN 5 3 ?_
  refine NN 5 4 ?_
  refine Bg 5 5 ?_
  refine Bg ln 2 ?_
  refine el (j':=0) rfl ?_
  obtain ⟨_,rfl,a7⟩:=ih w j C H q v1 ((E.Ab j).length:Int) 4 2 al fl bl 1 id wa wo wv wx V st sl sn sv sr vt vv m0 m1 m2 m3 m4 m5 m6 m7 m8 m9 X Q P Z Y U B R tg vm (E.Ab j) Ar Fs Bd Sl Ev asm rfl kn
  refine ch a7 ?_
  refine el (j':=1) rfl ?_
  obtain ⟨_,rfl,a4⟩:=ih w b2 M O J L ((E.Ab b2).length:Int) 4 2 al fl bl 1 id wa wo wv wx V st sl sn sv sr vt vv m0 m1 m2 m3 m4 m5 m6 m7 m8 m9 X Q P Z Y U N R tg vm (E.Ab b2) Ar Fs Bd Sl Ev asm rfl kn
  refine ch a4 ?_
  obtain ⟨_,rfl,aZ⟩:=Px t o w w hu rfl
  refine ch aZ ?_
  obtain ⟨_,rfl,a1⟩:=Pw o ((E.node C H q v1 B j).val id) ((E.node M O J L N b2).val id) (by have:=hu.X2;omega) ((CT.val h1 ⟨aJ,aK⟩).1) ((CT.val h2 ⟨aJ,aK⟩).1)
  refine ch a1 ?_
  first|exact Ah ⟨[(Ce o ((E.node C H q v1 B j).val id) ((E.node M O J L N b2).val id)),t],[],[],[]⟩ ((HP PB.symm)) |(exfalso;omega)
 ·obtain ⟨rfl,rfl,rfl,rfl,rfl,C,H,q,v1,B,j,M,O,J,L,N,b2,k3,o3,t3,v3,s3,b3,rfl,h1,h2,h3⟩:=hv;simp only [lC,lN]at I;have e3:=n3 (x:=.node C H q v1 B j) (y:=.node M O J L N b2) (z:=.node k3 o3 t3 v3 s3 b3);have e4:=g3 (x:=.node C H q v1 B j) (y:=.node M O J L N b2) (z:=.node k3 o3 t3 v3 s3 b3)
  refine .of (t:=LO) rfl ?_
  conv=>arg 3;reduce
  refine NN 6 1 ?_
  refine NN 6 3 ?_
  refine NN 6 4 ?_
  refine NN 6 5 ?_
  refine Bg 6 6 ?_
  refine Bg ln 3 ?_
  refine el (j':=0) rfl ?_
  obtain ⟨_,rfl,a9⟩:=ih 3 j C H q v1 ((E.Ab j).length:Int) 4 2 al fl bl 1 id wa wo wv wx V st sl sn sv sr vt vv m0 m1 m2 m3 m4 m5 m6 m7 m8 m9 X Q P Z Y U B R tg vm (E.Ab j) Ar Fs Bd Sl Ev asm rfl kn
  refine ch a9 ?_
  refine el (j':=1) rfl ?_
  obtain ⟨_,rfl,aW⟩:=ih t b2 M O J L ((E.Ab b2).length:Int) 4 2 al fl bl 1 id wa wo wv wx V st sl sn sv sr vt vv m0 m1 m2 m3 m4 m5 m6 m7 m8 m9 X Q P Z Y U N R tg vm (E.Ab b2) Ar Fs Bd Sl Ev asm rfl kn
  refine ch aW ?_
  refine el (j':=2) rfl ?_
  obtain ⟨_,rfl,aV⟩:=ih t b3 k3 o3 t3 v3 ((E.Ab b3).length:Int) 4 2 al fl bl 1 id wa wo wv wx V st sl sn sv sr vt vv m0 m1 m2 m3 m4 m5 m6 m7 m8 m9 X Q P Z Y U s3 R tg vm (E.Ab b3) Ar Fs Bd Sl Ev asm rfl kn
  refine ch aV ?_
  refine ne ((E.node C H q v1 B j).val id) 0 (fun aY=>?_) fun aY=>?_
  ·first|exact Ah ⟨[((E.node M O J L N b2).val id),t],[],[],[]⟩ ((HP (by rw [GW,if_pos asm]))) |(exfalso;omega)
  first|exact Ah ⟨[((E.node k3 o3 t3 v3 s3 b3).val id),t],[],[],[]⟩ ((HP (by rw [GW,if_neg asm]))) |(exfalso;omega)
 ·obtain ⟨rfl,rfl,rfl,rfl,hs,C,H,q,v1,B,j,ii,rfl,r1,r2,hg,h1⟩:=hv;simp only [lC,lN]at I;have e3:=n1 (x:=.node C H q v1 B j);have e4:=g1 (x:=.node C H q v1 B j);exact hg.elim
 ·obtain ⟨rfl,rfl,rfl,rfl,rfl,C,H,q,v1,B,j,M,O,J,L,N,b2,ii,rfl,rfl,hg,h1,h2⟩:=hv;simp only [lC,lN]at I;have e3:=n2 (x:=.node C H q v1 B j) (y:=.node M O J L N b2);have e4:=g2 (x:=.node C H q v1 B j) (y:=.node M O J L N b2);exact hg.elim
 ·obtain ⟨rfl,rfl,rfl,rfl,rfl,hs,⟨r1,r2⟩,hg⟩:=hv;simp only [lC,lN]at I;have e3:E.Ad []=0:=rfl;exact (hg [] (0,0,0)).elim
 ·obtain ⟨rfl,rfl,rfl,rfl,hs,C,H,q,v1,B,j,rfl,⟨r1,r2⟩,hg,h1⟩:=hv;simp only [lC,lN]at I;have e3:=n1 (x:=.node C H q v1 B j);have e4:=g1 (x:=.node C H q v1 B j);exact (hg [] (0,0,0)).elim
theorem Nv:Ams 207:=fun t a k o ty v ln g sub al fl M N id wa P wv V q st sl sn sv R vt vv m0 m1 m2 m3 m4 m5 J Y m8 O z C x H B j s I Z vm A Ar L U Sl Ev Q X h=>AiE ((E.node k o ty v s a).high+1) t a k o ty v ln g sub al fl M N id wa P wv V q st sl sn sv R vt vv m0 m1 m2 m3 m4 m5 J Y m8 O z C x H B j s I Z vm A Ar L U Sl Ev Q X ⟨h.1,h.2.1,h.2.2.1,h.2.2.2.1,h.2.2.2.2.1,h.2.2.2.2.2,Nat.lt_succ_self _⟩
end
end Go.Proofs.YtaolbokoijfhnaaGreatDoor.Am
