/- Part 28 of TypesFunctions. -/
import Derived.Test.YtbmofjdmgjpfoaaGreatDoorF17
import Derived.Test.YtbmofjdmgjpfoaaGreatDoorF19
import Derived.Test.YtbmofjdmgjpfoaaGreatDoorF21
import Derived.Test.YtbmofjdmgjpfoaaGreatDoorF23
import Derived.Test.YtbmofjdmgjpfoaaGreatDoorF27
set_option linter.all false
namespace Go.Proofs.YtbmofjdmgjpfoaaGreatDoor.Am
section
set_option maxHeartbeats 4000000
set_option maxRecDepth 100000
open Go.AM Go.AM.K
theorem Ao6 {kk:Int} (q:kk=9∨kk=10):Ok trees 83 ⟨[1,1,0],[],[S.Aa [A9 kk]],[]⟩ fun j=>j=(0,(⟨[0],[],[],[]⟩:Aj)):=by
 refine .of (t:=Ac9) rfl ?_
 conv=>arg 3;reduce
 refine B8 0 1 ?_
 refine CO 0 0 ?_
 refine B8 0 1 ?_
 refine el (j':=0) rfl ?_
 refine Az kk 1 ?_
 refine Az kk 2 ?_
 refine Az kk 5 ?_
 refine Az kk 6 ?_
 refine Az kk 7 ?_
 refine Az kk 8 ?_
 exact Ag ⟨[0],[],[],[]⟩ rfl
theorem Ao7 {kk:Int} (ln:Int) (L:Rs) (x:kk=9∨kk=10) (v:L=S.Aa [A9 kk]) (h:ln=1:=by exact kn):Ok trees 81 ⟨[ln],[],[L],[]⟩ fun j=>j=(0,v0):=by
 subst v;subst h
 refine .of (t:=AcB) rfl ?_
 conv=>arg 3;reduce
 have q:Ok trees 82 ⟨[1],[],[S.Aa [A9 kk]],[]⟩ fun j=>j=(0,(⟨[0],[],[],[]⟩:Aj)):=by
  refine .of (t:=AcA) rfl ?_
  conv=>arg 3;reduce
  obtain ⟨_,rfl,G⟩:=Ao6 x
  refine ch G ?_
  exact Ag ⟨[0],[],[],[]⟩ rfl
 obtain ⟨_,rfl,G⟩:=q
 refine ch G ?_
 refine CO 0 0 ?_
 exact Ag v0 rfl
theorem Alz (ln g sub A pl fl B lo:Int) (q:List Nat) (L C P z R:Rs) (j:LD) (H:L=S.Aa [A9 7]) (h:ln=1/\lo=0:=by exact kn):Ok trees 130 ⟨[ln,g,sub,A,pl,fl,B,lo],[q],[L,C,P,z,R],[j]⟩ fun v=>v=(0,(⟨[31,0],[],[],[j]⟩:Aj)):=by
 subst H
 obtain ⟨rfl,rfl⟩:=h
 refine .of (t:=VA) rfl ?_
 conv=>arg 3;reduce
 have x:Ok trees 135 ⟨[1,1,0,g,sub,A,pl,fl,B,0],[q],[S.Aa [A9 7],C,P,z,R],[j]⟩ fun v=>v=(0,(⟨[31,0],[],[],[j]⟩:Aj)):=by
  refine .of (t:=V8) rfl ?_
  conv=>arg 3;reduce
  refine B8 0 1 ?_
  refine CO 0 0 ?_
  refine B8 0 1 ?_
  refine el (j':=0) rfl ?_
  refine Az 7 1 ?_
  refine Az 7 2 ?_
  refine Az 7 5 ?_
  refine Az 7 6 ?_
  refine AH 7 7 ?_
  refine AH 0 0 ?_
  exact Ag ⟨[31,0],[],[],[j]⟩ rfl
 obtain ⟨_,rfl,G⟩:=x
 refine ch G ?_
 exact Ag ⟨[31,0],[],[],[j]⟩ rfl
namespace B1
def Xc (N:Nat) (Γ:Ctx) (X fl:Int) (Ar V:Rs) (mp:Mp) (n:Nat):Prop:=∀(v ln:Int) (len j:Int) (H sub:Int) (pl U:Int) (lo B:Int) (q J:Int) (Q L:Int) (O rv Y:Int) (z I A:List Nat) (T C:Rs) (P R:Rs) (x Z RA:Rs) (hT:T=[1].map Bb) (hF:C=Ai [⟨[113,113,56],1⟩]) (h:v=1/\ln=1/\len=1/\0<=j/\j<=1/\(1-j).toNat<n),Ok trees N ⟨[v,ln,len,j,H,sub,X,pl,fl,U,lo,B,q,J,Q,L,O,rv,Y],[z,I,A],[T,C,Ar,P,V,R,x,Z,RA],[mp]⟩ fun M=>(M=(1,v0))
def WZ (N:Nat):Prop:=∀{Γ:Ctx} {C fl:Int} {M B:Rs} {Q:Mp} (hC:Ck Γ C fl M B Q) (v ln:Int) (len j:Int) (J sub:Int) (pl Z:Int) (lo H:Int) (q O:Int) (Y U:Int) (X rv rl:Int) (z L A:List Nat) (T I:Rs) (P R:Rs) (x FB RA:Rs) (hT:T=[1].map Bb) (hF:I=Ai [⟨[113,113,56],1⟩]) (h:v=1/\ln=1/\len=1/\0<=j/\j<=1:=by exact kn),Ok trees N ⟨[v,ln,len,j,J,sub,C,pl,fl,Z,lo,H,q,O,Y,U,X,rv,rl],[z,L,A],[T,I,M,P,B,R,x,FB,RA],[Q]⟩ fun V=>(V=(1,v0))
theorem AaB {Γ:Ctx} {M fl:Int} {Ar Z:Rs} {U:Mp} (hC:Ck Γ M fl Ar Z U) (n:Nat):Xc 136 Γ M fl Ar Z U n:=by
 induction n with
 |zero=>intro tl ln len j z sub pl Y lo H q B X V L Q N x A C T FP P R v O RA I hF h;exact absurd h.2.2.2.2.2 (Nat.not_lt_zero _)
 |succ n ih=>
 intro tl ln len j z sub pl Y lo H q B X V L Q N x A C T FP P R v O RA I hF h
 subst I;subst hF;obtain ⟨rfl,rfl,rfl,ah,ag,af⟩:=h
 rcases (by omega:j=0∨j=1)with rfl|rfl
 ·refine .of (t:=RN) rfl ?_
  conv=>arg 3;reduce
  refine B8 0 1 ?_
  refine CO 0 0 ?_
  refine B8 0 1 ?_
  refine el (j':=0) rfl ?_
  refine B8 0 1 ?_
  refine el (j':=0) rfl ?_
  refine BB 1 1 ?_
  obtain ⟨_,rfl,J⟩:=ih 1 1 1 (0+1) z sub pl Y lo H q B X V L Q N x A C ([1].map Bb) (Ai [⟨[113,113,56],1⟩]) P R v O RA rfl rfl kn
  refine cm J ?_
  refine ch J ?_
  exact Ag v0 (rfl)
 ·refine .of (t:=RN) rfl ?_
  conv=>arg 3;reduce
  refine Hl 1 1 ?_
  exact Ag v0 (rfl)
theorem AbF:WZ 136:=fun {Γ} {al} {fl} {Ar} {Fs} {mp} hC tl ln len j grp sub pl bl lo fpl fty fbl rk ro ry rv rl knm fnm rnm T FP P R FP2 FB RA hT hF h=>AaB hC ((1-j).toNat+1) tl ln len j grp sub pl bl lo fpl fty fbl rk ro ry rv rl knm fnm rnm T FP P R FP2 FB RA hT hF ⟨h.1,h.2.1,h.2.2.1,h.2.2.2.1,h.2.2.2.2,Nat.lt_succ_self _⟩
def Pz (N:Nat):Prop:=∀{Γ:Ctx} {z fl:Int} {I v:Rs} {L:Mp} (hC:Ck Γ z fl I v L) (q j:Int) (J rk:Int) (O V:Int) (Y Q:Int) (x C:Int) (sub pl:Int) (bl lo:Int) (H M B:List Nat) (A X:Rs) (Z T:Rs) (P R:Rs) (hT:T=[1].map Bb) (hF:A=Ai [⟨[113,113,56],1⟩]) (h:x=1/\q=1/\j=1:=by exact kn),Ok trees N ⟨[q,j,J,rk,O,V,Y,Q,x,C,sub,z,pl,fl,bl,lo],[H,M,B],[A,X,Z,T,I,P,v,R],[L]⟩ fun U=>(U=(0,(⟨[1,0],[],[],[]⟩:Aj)))
theorem Th:Pz 133:=by
 intro Γ al fl Ar Fs mp J Y X B L H I Q N Z z sub pl M lo A v q x O U T P R C V h
 obtain ⟨rfl,rfl,rfl⟩:=h
 refine .of (t:=RO) rfl ?_
 conv=>arg 3;reduce
 refine BB 1 1 ?_
 obtain ⟨_,rfl,j⟩:=AbF J 1 1 1 0 z sub pl M lo 1 1 B L H I Q N q A v T x P R x O U C V
 refine cm j ?_
 refine ch j ?_
 exact Ag ⟨[1,0],[],[],[]⟩ (rfl)
end B1
namespace B0
def Pz (N:Nat):Prop:=∀{Γ:Ctx} {z fl:Int} {H q:Rs} {J:Mp} (hC:Ck Γ z fl H q J) (j v:Int) (I rk:Int) (M U:Int) (Y O:Int) (x B:Int) (sub pl:Int) (bl lo:Int) (C L A:List Nat) (V X:Rs) (Z T:Rs) (P R:Rs) (h:x=0/\j=1:=by exact kn),Ok trees N ⟨[j,v,I,rk,M,U,Y,O,x,B,sub,z,pl,fl,bl,lo],[C,L,A],[V,X,Z,T,H,P,q,R],[J]⟩ fun Q=>(Q=(0,(⟨[0,31],[],[],[]⟩:Aj)))
theorem Th:Pz 133:=by
 intro Γ O fl Z N mp J x j B L H I X Q C z sub pl M lo A v q U V Y T P R h
 obtain ⟨rfl,rfl⟩:=h
 refine .of (t:=RO) rfl ?_
 conv=>arg 3;reduce
 refine NM 0 1 ?_
 exact Ag ⟨[0,31],[],[],[]⟩ (rfl)
end B0
namespace B1
def JO (N:Nat):Prop:=∀{Γ:Ctx} {x fl:Int} {C j:Rs} {q:Mp} (M:Ck Γ x fl C j q) (k o:Int) (ty v:Int) (ln B:Int) (sub pl:Int) (I lo:Int) (s z:List Nat) (A P R:Rs) (O:k=8/\o=0/\ty=0/\v=0) (hs:s=[113,113,57]) (J:A=E.Aa [.node 1 0 1 3 [] []]) (Q:AR q [113,113,57]=some [PV.int .i64 1,PV.int .i64 1,PV.int .i64 0]) (L:j[(0:Int).toNat]?=some (Si (B4 []))) (h:ln=1/\0<fl:=by exact kn),Ok trees N ⟨[k,o,ty,v,ln,B,sub,x,pl,fl,I,lo],[s,z],[A,C,P,j,R],[q]⟩ fun H=>(H=(0,(⟨[1,0],[],[],[]⟩:Aj)))
theorem FV:JO 124:=by
 intro Γ al fl Ar Z mp j k o ty v ln x sub pl z lo s q A P R M hs C N J h
 obtain ⟨rfl,rfl,rfl,rfl⟩:=M;subst hs;subst C;obtain ⟨rfl,Q⟩:=h;have X:=j.hf;have Y:((E.Aa [.node 1 0 1 3 [] []]).length:Int)=1:=rfl;have V:E.BL [.node 1 0 1 3 [] []]<=5:=(by decide);have U:((Ai [⟨[113,113,56],1⟩]).length:Int)=1:=rfl;have O:(([1]:List Int).length:Int)=1:=rfl
 refine .of (t:=F8) rfl ?_
 conv=>arg 3;reduce
 obtain ⟨_,⟨B,I,rfl,rfl,rfl⟩,H⟩:=HJ j (Am.HM.of j (n:=100) @Am.FV) [1] 1 x sub pl z lo q (E.Aa [.node 1 0 1 3 [] []]) P R (by exact .cons (.num (by decide) (by decide) (fun h=>absurd h (by decide)) (fun h=>absurd h (by decide)) (by decide)) .nil) rfl
 refine ch H ?_
 refine BB 0 0 ?_
 refine Az 8 1 ?_
 refine Az 8 3 ?_
 refine Az 8 4 ?_
 refine Az 8 5 ?_
 refine Az 8 6 ?_
 refine Az 8 2 ?_
 refine Az 8 7 ?_
 refine AH 8 8 ?_
 refine lh N ?_
 refine AH 1 1 ?_
 refine CO 0 0 ?_
 refine B8 0 fl ?_
 refine el J ?_
 obtain ⟨_,rfl,L⟩:=Th j ((Ai [⟨[113,113,56],1⟩]).length:Int) 1 ((S.Aa []).length:Int) 2 0 0 0 ((E.Aa []).length:Int) ([1].length:Int) x sub pl z lo [113,113,57] [113,113,56] q (Ai [⟨[113,113,56],1⟩]) (S.Aa []) (E.Aa []) ([1].map Bb) P R rfl rfl
 refine ch L ?_
 exact Ag ⟨[1,0],[],[],[]⟩ (rfl)
end B1
namespace B0
def JO (N:Nat):Prop:=∀{Γ:Ctx} {x fl:Int} {C j:Rs} {q:Mp} (M:Ck Γ x fl C j q) (k o:Int) (ty v:Int) (ln B:Int) (sub pl:Int) (I lo:Int) (s z:List Nat) (A P R:Rs) (O:k=8/\o=0/\ty=0/\v=0) (hs:s=[113,113,57]) (J:A=E.Aa []) (Q:AR q [113,113,57]=some [PV.int .i64 1,PV.int .i64 1,PV.int .i64 0]) (L:j[(0:Int).toNat]?=some (Si (B4 []))) (h:ln=0/\0<fl:=by exact kn),Ok trees N ⟨[k,o,ty,v,ln,B,sub,x,pl,fl,I,lo],[s,z],[A,C,P,j,R],[q]⟩ fun H=>(H=(0,(⟨[0,31],[],[],[]⟩:Aj)))
theorem FV:JO 124:=by
 intro Γ al fl Ar Z mp j k o ty v ln x sub pl z lo s q A P R M hs C N J h
 obtain ⟨rfl,rfl,rfl,rfl⟩:=M;subst hs;subst C;obtain ⟨rfl,Q⟩:=h;have X:=j.hf;have Y:((E.Aa []).length:Int)=0:=rfl;have V:E.BL []<=5:=(by decide);have U:((Ai [⟨[113,113,56],1⟩]).length:Int)=1:=rfl;have O:(([]:List Int).length:Int)=0:=rfl
 refine .of (t:=F8) rfl ?_
 conv=>arg 3;reduce
 obtain ⟨_,⟨B,I,rfl,rfl,rfl⟩,H⟩:=HJ j (Am.HM.of j (n:=100) @Am.FV) [] 0 x sub pl z lo q (E.Aa []) P R (by exact .nil) rfl
 refine ch H ?_
 refine BB 0 0 ?_
 refine Az 8 1 ?_
 refine Az 8 3 ?_
 refine Az 8 4 ?_
 refine Az 8 5 ?_
 refine Az 8 6 ?_
 refine Az 8 2 ?_
 refine Az 8 7 ?_
 refine AH 8 8 ?_
 refine lh N ?_
 refine AH 1 1 ?_
 refine CO 0 0 ?_
 refine B8 0 fl ?_
 refine el J ?_
 obtain ⟨_,rfl,L⟩:=Th j ((Ai [⟨[113,113,56],1⟩]).length:Int) 1 ((S.Aa []).length:Int) 2 0 0 0 ((E.Aa []).length:Int) ([].length:Int) x sub pl z lo [113,113,57] [113,113,56] q (Ai [⟨[113,113,56],1⟩]) (S.Aa []) (E.Aa []) ([].map Bb) P R
 refine ch L ?_
 exact Ag ⟨[0,31],[],[],[]⟩ (rfl)
end B0
namespace Bn
def JO (N:Nat):Prop:=∀{Γ:Ctx} {x fl:Int} {C q:Rs} {j:Mp} (L:Ck Γ x fl C q j) (k o:Int) (ty v:Int) (ln B:Int) (sub pl:Int) (I lo:Int) (s z:List Nat) (A P R:Rs) (M:k=8/\o=0/\ty=0/\v=0) (hs:s=[113,113,57]) (J:A=E.Aa [.node 1 0 1 3 [] []]) (O:AR j [113,113,57]=none) (h:ln=1:=by exact kn),Ok trees N ⟨[k,o,ty,v,ln,B,sub,x,pl,fl,I,lo],[s,z],[A,C,P,q,R],[j]⟩ fun H=>(H=(0,(⟨[0,30],[],[],[]⟩:Aj)))
theorem FV:JO 124:=by
 intro Γ V fl X U Y j k o ty v ln x sub pl H lo s q A P R J hs B L h
 obtain ⟨rfl,rfl,rfl,rfl⟩:=J;subst hs;subst B;subst h;have Q:((E.Aa [.node 1 0 1 3 [] []]).length:Int)=1:=rfl;have O:E.BL [.node 1 0 1 3 [] []]<=5:=(by decide);have N:((Ai [⟨[113,113,56],1⟩]).length:Int)=1:=rfl;have M:(([1]:List Int).length:Int)=1:=rfl
 refine .of (t:=F8) rfl ?_
 conv=>arg 3;reduce
 obtain ⟨_,⟨z,I,rfl,rfl,rfl⟩,C⟩:=HJ j (Am.HM.of j (n:=100) @Am.FV) [1] 1 x sub pl H lo q (E.Aa [.node 1 0 1 3 [] []]) P R (by exact .cons (.num (by decide) (by decide) (fun h=>absurd h (by decide)) (fun h=>absurd h (by decide)) (by decide)) .nil) rfl
 refine ch C ?_
 refine BB 0 0 ?_
 refine Az 8 1 ?_
 refine Az 8 3 ?_
 refine Az 8 4 ?_
 refine Az 8 5 ?_
 refine Az 8 6 ?_
 refine Az 8 2 ?_
 refine Az 8 7 ?_
 refine AH 8 8 ?_
 refine lm L ?_
 exact Ag ⟨[0,30],[],[],[]⟩ (rfl)
end Bn
namespace Ba
def Acv (N n:Nat):Prop:=∀(v q:Int) (j g:Int) (sub C:Int) (pl fl:Int) (I g2:Int) (B a2:Int) (V O:Int) (Q lo:Int) (x Y:List Nat) (U P:Rs) (z R:Rs) (L M:Rs) (H A:Rs) (X:Mp) (h:v≠0/\0<=j/\q<=8/\(q-j).toNat<n),Ok trees N ⟨[v,q,j,g,sub,C,pl,fl,I,g2,B,a2,V,O,Q,lo],[x,Y],[U,P,z,R,L,M,H,A],[X]⟩ fun J=>(J=(0,(⟨[v],[],[],[]⟩:Aj)))
def Tx (N:Nat):Prop:=∀(q v:Int) (j g:Int) (sub C:Int) (pl fl:Int) (I g2:Int) (B a2:Int) (V O:Int) (Q lo:Int) (x Y:List Nat) (U P:Rs) (z R:Rs) (L M:Rs) (H A:Rs) (X:Mp) (h:q≠0/\0<=j/\v<=8:=by exact kn),Ok trees N ⟨[q,v,j,g,sub,C,pl,fl,I,g2,B,a2,V,O,Q,lo],[x,Y],[U,P,z,R,L,M,H,A],[X]⟩ fun J=>(J=(0,(⟨[q],[],[],[]⟩:Aj)))
theorem AaC (n:Nat):Acv 109 n:=by
 induction n with
 |zero=>intro q x j g sub H pl fl J g2 C a2 Q M N lo v z O P A R V L I B U h;exact absurd h.2.2.2 (Nat.not_lt_zero _)
 |succ n ih=>
 intro q x j g sub H pl fl J g2 C a2 Q M N lo v z O P A R V L I B U h
 refine .of (t:=RP) rfl ?_
 conv=>arg 3;reduce
 refine lt j x (fun t1=>?_) fun t1=>?_
 ·refine Az q 0 ?_
  obtain ⟨_,rfl,X⟩:=ih q x (j+1) g sub H pl fl J g2 C a2 Q M N lo v z O P A R V L I B U kn
  refine ch X ?_
  exact Ag ⟨[q],[],[],[]⟩ (rfl)
 exact Ag ⟨[q],[],[],[]⟩ (rfl)
theorem Ti:Tx 109:=fun x v j g sub H pl fl J g2 C a2 Q M N lo q z O P A R V L I B U h=>AaC ((v-j).toNat+1) x v j g sub H pl fl J g2 C a2 Q M N lo q z O P A R V L I B U ⟨h.1,h.2.1,h.2.2,Nat.lt_succ_self _⟩
end Ba
namespace Bk
def Aco (N:Nat):Prop:=∀{r:List Fe} (g sub:Int) (v pl:Int) (fl z n:Int) (x:List Nat) (q P:Rs) (j R:Rs) (C:q=Aq BG) (B:j=Ak (B4 [A9 7]::r)) (h:n=0/\v=q.length/\fl=j.length/\fl<=2:=by exact kn),Ok trees N ⟨[g,sub,v,pl,fl,z,n],[x],[q,P,j,R],[]⟩ fun A=>(A=(0,(⟨[31],[],[],[]⟩:Aj)))
theorem AbH:Aco 111:=by
 intro r g sub al pl fl v n q Ar P Fs R z A h
 subst z;subst A;obtain ⟨rfl,rfl,rfl,X⟩:=h;have Y:((Ak (B4 [A9 7]::r)).length:Int)=r.length+1:=(by rw [BW];simp);have U:((Aq BG).length:Int)=5:=rfl;have V:((Ai [⟨[113,113,56],1⟩]).length:Int)=1:=rfl;have Z:((S.Aa [A9 7]).length:Int)=1:=rfl
 refine .of (t:=VC) rfl ?_
 conv=>arg 3;reduce
 refine md [] ?_
 obtain ⟨_,⟨I,rfl,rfl⟩,H⟩:=Aeg BG 0 ((Aq BG).length:Int) ((Aq BG).length:Int) 0 g sub ((Aq BG).length:Int) pl ((Ak (B4 [A9 7]::r)).length:Int) v g sub ((Aq BG).length:Int) pl ((Ak (B4 [A9 7]::r)).length:Int) v 0 q q (Aq BG) (Aq BG) P (Ak (B4 [A9 7]::r)) R (Aq BG) P (Ak (B4 [A9 7]::r)) R [] rfl rfl R3
 refine ch H ?_
 refine dL ((Ak (B4 [A9 7]::r)).take (0:Int).toNat) (fun L Q=>?_) (CE (pt 0 (Ak (B4 [A9 7]::r))))
 have O:=cL Q;try simp only [lA,lC,lN,lT']at O
 obtain ⟨_,⟨M,rfl,rfl⟩,N⟩:=Aef [] (am BG) 0 0 0 0 g sub ((Aq BG).length:Int) pl ((Ak (B4 [A9 7]::r)).length:Int) v g sub ((Aq BG).length:Int) pl ((Ak (B4 [A9 7]::r)).length:Int) v 0 q q L (Aq BG) P (Ak (B4 [A9 7]::r)) R (Aq BG) P (Ak (B4 [A9 7]::r)) R (am BG) (by subst_vars;rfl) (Rb _ []) (fun j x h=>by simp at h)
 refine ch N ?_
 refine CO 0 0 ?_
 refine B8 0 ((Ak (B4 [A9 7]::r)).length:Int) ?_
 refine el (j':=0) rfl ?_
 obtain ⟨_,⟨J,rfl,rfl⟩,B⟩:=Aed [⟨[113,113,56],1⟩] (am BG++fm []) ((Ai [⟨[113,113,56],1⟩]).length:Int) ((Ai [⟨[113,113,56],1⟩]).length:Int) 0 g sub ((Aq BG).length:Int) pl ((Ak (B4 [A9 7]::r)).length:Int) v 0 ((Ai [⟨[113,113,56],1⟩]).length:Int) 1 ((S.Aa [A9 7]).length:Int) 2 0 0 0 ((E.Aa []).length:Int) q [113,113,57] [113,113,56] (Ai [⟨[113,113,56],1⟩]) (Aq BG) P (Ak (B4 [A9 7]::r)) R (Ai [⟨[113,113,56],1⟩]) (S.Aa [A9 7]) (E.Aa []) ((am BG)++fm []) rfl (Qv _ _) (BZ (by rfl))
 refine cm B ?_
 refine ch B ?_
 obtain ⟨_,rfl,C⟩:=Alz ((S.Aa [A9 7]).length:Int) g sub ((Aq BG).length:Int) pl ((Ak (B4 [A9 7]::r)).length:Int) v 0 q (S.Aa [A9 7]) (Aq BG) P (Ak (B4 [A9 7]::r)) R ((am BG++fm [])++pm [⟨[113,113,56],1⟩]) rfl
 refine ch C ?_
 refine NM 31 0 ?_
 exact Ag ⟨[31],[],[],[]⟩ (rfl)
def Tx (N:Nat):Prop:=∀{r:List Fe} (A q:Int) (j g:Int) (sub z:Int) (pl fl:Int) (J g2:Int) (H a2:Int) (V Q:Int) (U lo:Int) (B Y:List Nat) (x P:Rs) (v R:Rs) (M O:Rs) (I C:Rs) (X:Mp) (Z:x=Aq BG) (aa:v=Ak (B4 [A9 7]::r)) (h:A=0/\j=0/\q=v.length/\fl=q/\q<=2/\z=x.length:=by exact kn),Ok trees N ⟨[A,q,j,g,sub,z,pl,fl,J,g2,H,a2,V,Q,U,lo],[B,Y],[x,P,v,R,M,O,I,C],[X]⟩ fun L=>(L=(0,(⟨[31],[],[],[]⟩:Aj)))
theorem Ti:Tx 109:=by
 intro r e0 A j g sub B pl fl C g2 L a2 X Q V lo v I H P x R Z O N J Y z q h
 obtain ⟨rfl,rfl,h1,h2,h3,h4⟩:=h;have aa:(x.length:Int)=r.length+1:=(by rw [q,BW];simp)
 refine .of (t:=RP) rfl ?_
 conv=>arg 3;reduce
 refine lt 0 A (fun t1=>?_) fun t1=>?_
 ·refine AH 0 0 ?_
  obtain ⟨_,rfl,U⟩:=AbH g sub B pl fl C 0 v H P x R z q
  refine ch U ?_
  obtain ⟨_,rfl,M⟩:=Ba.Ti 31 A (0+1) g sub B pl fl C g2 L a2 X Q V lo v I H P x R Z O N J Y
  refine ch M ?_
  first|exact Ag ⟨[31],[],[],[]⟩ (rfl) |(exfalso;omega)
 first|exact Ag ⟨[0],[],[],[]⟩ (rfl) |(exfalso;omega)
def Acg (N:Nat):Prop:=∀{r:List Fe} {l:List S} (g sub:Int) (v pl:Int) (fl z:Int) (j:List Nat) (x P:Rs) (q R:Rs) (L:Nm j) (H:x=Aq BG) (Q:P=Ai Dv) (I:q=Ak (B4 [A9 7]::r)) (O:NQ (B4 [A9 7]::r)) (M:R=S.Aa l) (J:PL l) (B:FsU (B4 [A9 7]::r)) (hs:BJ g sub) (C:Xb (am BG++pm Dv) (B4 [A9 7]::r)) (h:v=x.length/\v<=8/\pl=P.length/\pl<=8/\fl=q.length/\fl<=2/\z=R.length/\S.Ad l<=700/\S.Ay l<=10/\(g=4∨g=1∨g=2∨g=8∨g=6)/\0<=sub/\sub<=32:=by exact kn),Ok trees N ⟨[g,sub,v,pl,fl,z],[j],[x,P,q,R],[]⟩ fun A=>(A=(1,(⟨[31,g,sub,v,pl,fl,z,0],[j],[x,P,q,R],[(am BG++pm Dv++fm (B4 [A9 7]::r))]⟩:Aj)))
theorem XT:Acg 46:=by
 intro r l g sub x pl fl z j A P v R J q N B Q O M C hs H h
 refine .of (t:=Y4) rfl ?_
 conv=>arg 3;reduce
 obtain ⟨_,rfl,I⟩:=AbD g sub x pl fl z j A P v R J q N B KH Kj Q C O M
 refine cm I ?_
 refine ch I ?_
 obtain ⟨_,rfl,L⟩:=Aei g sub x pl fl z j A P v R q KH hs
 refine cm L ?_
 refine ch L ?_
 obtain ⟨_,⟨U,rfl,rfl⟩,V⟩:=Aeh BG Dv (B4 [A9 7]::r) g sub x pl fl z j A P v R q N B R3 Ul H
 refine ch V ?_
 obtain ⟨_,rfl,X⟩:=Ti 0 fl 0 g sub x pl fl z g sub x pl fl z 0 j j A P v R A P v R (am BG++pm Dv++fm (B4 [A9 7]::r)) q B
 refine ch X ?_
 refine Az 31 0 ?_
 exact Ag ⟨[31,g,sub,x,pl,fl,z,0],[j],[A,P,v,R],[(am BG++pm Dv++fm (B4 [A9 7]::r))]⟩ (rfl)
def Ach (N:Nat):Prop:=∀{r:List Fe} {l:List S} (g sub:Int) (v pl:Int) (fl z:Int) (j:List Nat) (x P:Rs) (q R:Rs) (L:Nm j) (H:x=Aq BG) (Q:P=Ai Dv) (I:q=Ak (B4 [A9 7]::r)) (O:NQ (B4 [A9 7]::r)) (M:R=S.Aa l) (J:PL l) (B:FsU (B4 [A9 7]::r)) (hs:BJ g sub) (C:Xb (am BG++pm Dv) (B4 [A9 7]::r)) (h:v=x.length/\v<=8/\pl=P.length/\pl<=8/\fl=q.length/\fl<=2/\z=R.length/\S.Ad l<=700/\S.Ay l<=10/\(g=4∨g=1∨g=2∨g=8∨g=6)/\0<=sub/\sub<=32:=by exact kn),Ok trees N ⟨[g,sub,v,pl,fl,z],[j],[x,P,q,R],[]⟩ fun A=>(A=(0,(⟨[31],[],[],[]⟩:Aj)))
theorem AbE:Ach 44:=by
 intro r l g sub L pl fl M A N P J R B x O z I H C j hs q h
 refine .of (t:=Y5) rfl ?_
 conv=>arg 3;reduce
 obtain ⟨_,rfl,v⟩:=XT g sub L pl fl M A N P J R B x O z I H C j hs q
 refine cm v ?_
 refine ch v ?_
 exact Ag ⟨[31],[],[],[]⟩ (rfl)
end Bk
namespace Bi
def Ahz (N:Nat):Prop:=∀{kk:Int} {r:List Fe} (ln len:Int) (j g:Int) (sub A:Int) (pl fl:Int) (B v:Int) (x:List Nat) (L H:Rs) (P z R:Rs) (J:kk=9∨kk=10) (I:L=Ak (B4 [A9 kk]::r)) (M:NQ (B4 [A9 kk]::r)) (h:ln=L.length/\len=ln/\j=0/\ln<=2/\0<=v/\v<=30000:=by exact kn),Ok trees N ⟨[ln,len,j,g,sub,A,pl,fl,B,v],[x],[L,H,P,z,R],[]⟩ fun C=>(∃(q:Int),C=(2,(⟨[q],[],[],[]⟩:Aj))/\(q<=300000)/\(v<=q))
theorem Ry:Ahz 80:=by
 intro kk r ln len j g sub O pl fl Q H A L Y P M R X J v h
 subst J;obtain ⟨h1,h2,rfl,h3,h4,h5⟩:=h;have ab:((Ak (B4 [A9 kk]::r)).length:Int)=r.length+1:=(by rw [BW];simp);have aa:((Ai [⟨[113,113,56],1⟩]).length:Int)=1:=rfl;have Z:((S.Aa [A9 kk]).length:Int)=1:=rfl;have hq:=AaD (v 0 _ rfl)
 refine .of (t:=AcC) rfl ?_
 conv=>arg 3;reduce
 refine lt 0 len (fun t1=>?_) fun t1=>?_
 ·refine CO 0 0 ?_
  refine B8 0 ln ?_
  refine el (j':=0) rfl ?_
  obtain ⟨_,rfl,V⟩:=Ao7 ((S.Aa [A9 kk]).length:Int) (S.Aa [A9 kk]) X rfl
  refine ch V ?_
  obtain ⟨_,⟨q,rfl,I,U⟩,N⟩:=AdZ ((Ai [⟨[113,113,56],1⟩]).length:Int) 1 ((S.Aa [A9 kk]).length:Int) 2 0 0 0 ((E.Aa []).length:Int) H [113,113,57] [113,113,56] (Ai [⟨[113,113,56],1⟩]) (S.Aa [A9 kk]) (E.Aa []) rfl ((v 0 _ rfl).ps) ((v 0 _ rfl).nm) rfl rfl ((v 0 _ rfl).fb) qT
  refine ch N ?_
  obtain ⟨_,(rfl|⟨x,rfl,B,C⟩),z⟩:=AkH ln len (0+1) g sub O pl fl Q q A (Ak (B4 [A9 kk]::r)) Y P M R rfl v
  ·refine ch z ?_
   exact Ag ⟨[q],[],[],[]⟩ (⟨_,rfl,kn,kn⟩)
  refine cm z ?_
  refine ch z ?_
  exact Ag ⟨[x],[],[],[]⟩ (⟨_,rfl,kn,kn⟩)
 exact dead
def Ah0 (N:Nat):Prop:=∀{kk:Int} {r:List Fe} {l:List S} (g sub:Int) (v pl:Int) (fl z:Int) (j:List Nat) (x P:Rs) (q R:Rs) (L:kk=9∨kk=10) (I:Nm j) (B:x=Aq BG) (O:P=Ai Dv) (C:q=Ak (B4 [A9 kk]::r)) (M:NQ (B4 [A9 kk]::r)) (J:R=S.Aa l) (H:PL l) (h:v=x.length/\v<=8/\pl=P.length/\pl<=8/\fl=q.length/\fl<=2/\z=R.length/\S.Ad l<=700/\S.Ay l<=10/\(g=4∨g=1∨g=2∨g=8∨g=6)/\0<=sub/\sub<=32:=by exact kn),Ok trees N ⟨[g,sub,v,pl,fl,z],[j],[x,P,q,R],[]⟩ fun A=>(A=(2,v0))
theorem Ahi:Ah0 49:=by
 intro kk r l g sub v pl fl q j Ar P Fs R N Q ae hP af C hR x h
 subst ae;subst hP;subst af;subst hR;have aP:=S.len l;have aQ:=S.A0 l;have aR:([]:List Nat).length=0:=rfl;have aU:=Q.len
 refine .of (t:=AcE) rfl ?_
 conv=>arg 3;reduce
 obtain ⟨_,rfl,G1⟩:=AkD g sub v pl fl q j (Aq BG) (Ai Dv) (Ak (B4 [A9 kk]::r)) (S.Aa l) rfl C rfl x
 refine ch G1 ?_
 obtain ⟨_,rfl,G2⟩:=FU j Q
 refine ch G2 ?_
 refine sl j ?_
 refine CO g (-9223372036854775808) ?_
 refine Er g 9223372036854775807 ?_
 refine CO sub (-9223372036854775808) ?_
 refine Er sub 9223372036854775807 ?_
 obtain ⟨_,(rfl|⟨z,rfl,ax,aq⟩),G3⟩:=Ak4 v v 0 g sub v pl fl q 126 j (Aq BG) (Aq BG) (Ai Dv) (Ak (B4 [A9 kk]::r)) (S.Aa l) rfl KH
 ·refine ch G3 ?_
  obtain ⟨_,(rfl|⟨J,rfl,ai,ao⟩),G4⟩:=Adz pl pl 0 g sub v pl fl q 126 j (Ai Dv) (Aq BG) (Ai Dv) (Ak (B4 [A9 kk]::r)) (S.Aa l) rfl Kj
  ·refine ch G4 ?_
   obtain ⟨_,⟨Z,rfl,aJ,aL⟩,V⟩:=Ry fl fl 0 g sub v pl fl q 126 j (Ak (B4 [A9 kk]::r)) (Aq BG) (Ai Dv) (Ak (B4 [A9 kk]::r)) (S.Aa l) N rfl C
   refine cm V ?_
   refine cm V ?_
   refine ch V ?_
   obtain ⟨_,⟨ad,rfl,aF,aN⟩,G6⟩:=Fq q Z [] (S.Aa l) x rfl
   refine ch G6 ?_
   refine bu ad 1 ?_
   exact Ag v0 (rfl)
  refine cm G4 ?_
  refine ch G4 ?_
  obtain ⟨_,⟨X,rfl,aI,aH⟩,U⟩:=Ry fl fl 0 g sub v pl fl q J j (Ak (B4 [A9 kk]::r)) (Aq BG) (Ai Dv) (Ak (B4 [A9 kk]::r)) (S.Aa l) N rfl C
  refine cm U ?_
  refine cm U ?_
  refine ch U ?_
  obtain ⟨_,⟨Y,rfl,aK,aB⟩,G8⟩:=Fq q X [] (S.Aa l) x rfl
  refine ch G8 ?_
  refine bu Y 1 ?_
  exact Ag v0 (rfl)
 refine cm G3 ?_
 refine ch G3 ?_
 obtain ⟨_,(rfl|⟨O,rfl,ap,aA⟩),G9⟩:=Adz pl pl 0 g sub v pl fl q z j (Ai Dv) (Aq BG) (Ai Dv) (Ak (B4 [A9 kk]::r)) (S.Aa l) rfl Kj
 ·refine ch G9 ?_
  obtain ⟨_,⟨I,rfl,av,ay⟩,B⟩:=Ry fl fl 0 g sub v pl fl q z j (Ak (B4 [A9 kk]::r)) (Aq BG) (Ai Dv) (Ak (B4 [A9 kk]::r)) (S.Aa l) N rfl C
  refine cm B ?_
  refine cm B ?_
  refine ch B ?_
  obtain ⟨_,⟨M,rfl,aj,ak⟩,ah⟩:=Fq q I [] (S.Aa l) x rfl
  refine ch ah ?_
  refine bu M 1 ?_
  exact Ag v0 (rfl)
 refine cm G9 ?_
 refine ch G9 ?_
 obtain ⟨_,⟨L,rfl,au,an⟩,A⟩:=Ry fl fl 0 g sub v pl fl q O j (Ak (B4 [A9 kk]::r)) (Aq BG) (Ai Dv) (Ak (B4 [A9 kk]::r)) (S.Aa l) N rfl C
 refine cm A ?_
 refine cm A ?_
 refine ch A ?_
 obtain ⟨_,⟨H,rfl,aw,az⟩,ag⟩:=Fq q L [] (S.Aa l) x rfl
 refine ch ag ?_
 refine bu H 1 ?_
 exact Ag v0 (rfl)
def Ah1 (N:Nat):Prop:=∀{kk:Int} {r:List Fe} {l:List S} (g sub:Int) (v pl:Int) (fl z:Int) (j:List Nat) (x P:Rs) (q R:Rs) (L:kk=9∨kk=10) (I:Nm j) (B:x=Aq BG) (O:P=Ai Dv) (C:q=Ak (B4 [A9 kk]::r)) (M:NQ (B4 [A9 kk]::r)) (J:R=S.Aa l) (H:PL l) (h:v=x.length/\v<=8/\pl=P.length/\pl<=8/\fl=q.length/\fl<=2/\z=R.length/\S.Ad l<=700/\S.Ay l<=10/\(g=4∨g=1∨g=2∨g=8∨g=6)/\0<=sub/\sub<=32:=by exact kn),Ok trees N ⟨[g,sub,v,pl,fl,z],[j],[x,P,q,R],[]⟩ fun A=>(A=(0,v0))
theorem AbD:Ah1 48:=by
 intro kk r l g sub H pl fl I z V P U R J j v L x C B A h
 subst v;subst L;subst x;subst B;have M:=S.len l;have N:=S.A0 l;have O:([]:List Nat).length=0:=rfl;have Q:=j.len
 refine .of (t:=AcF) rfl ?_
 conv=>arg 3;reduce
 obtain ⟨_,rfl,q⟩:=Ahi g sub H pl fl I z (Aq BG) (Ai Dv) (Ak (B4 [A9 kk]::r)) (S.Aa l) J j rfl rfl rfl C rfl A
 refine cm q ?_
 refine cm q ?_
 refine ch q ?_
 exact Ag v0 (rfl)
def Acg (N:Nat):Prop:=∀{kk:Int} {r:List Fe} {l:List S} (g sub:Int) (v pl:Int) (fl z:Int) (j:List Nat) (x P:Rs) (q R:Rs) (L:kk=9∨kk=10) (I:Nm j) (B:x=Aq BG) (O:P=Ai Dv) (C:q=Ak (B4 [A9 kk]::r)) (M:NQ (B4 [A9 kk]::r)) (J:R=S.Aa l) (H:PL l) (h:v=x.length/\v<=8/\pl=P.length/\pl<=8/\fl=q.length/\fl<=2/\z=R.length/\S.Ad l<=700/\S.Ay l<=10/\(g=4∨g=1∨g=2∨g=8∨g=6)/\0<=sub/\sub<=32:=by exact kn),Ok trees N ⟨[g,sub,v,pl,fl,z],[j],[x,P,q,R],[]⟩ fun A=>(A=(0,(⟨[1],[],[],[]⟩:Aj)))
theorem XT:Acg 46:=by
 intro kk r l g sub H pl fl I x V P U R J j q L v C B z h
 subst q;subst L;subst v;subst B;have M:=S.len l;have N:=S.A0 l;have O:([]:List Nat).length=0:=rfl;have Q:=j.len
 refine .of (t:=Y4) rfl ?_
 conv=>arg 3;reduce
 obtain ⟨_,rfl,A⟩:=AbD g sub H pl fl I x (Aq BG) (Ai Dv) (Ak (B4 [A9 kk]::r)) (S.Aa l) J j rfl rfl rfl C rfl z
 refine ch A ?_
 exact Ag ⟨[1],[],[],[]⟩ (rfl)
def Ach (N:Nat):Prop:=∀{kk:Int} {r:List Fe} {l:List S} (g sub:Int) (v pl:Int) (fl z:Int) (j:List Nat) (x P:Rs) (q R:Rs) (L:kk=9∨kk=10) (I:Nm j) (B:x=Aq BG) (O:P=Ai Dv) (C:q=Ak (B4 [A9 kk]::r)) (M:NQ (B4 [A9 kk]::r)) (J:R=S.Aa l) (H:PL l) (h:v=x.length/\v<=8/\pl=P.length/\pl<=8/\fl=q.length/\fl<=2/\z=R.length/\S.Ad l<=700/\S.Ay l<=10/\(g=4∨g=1∨g=2∨g=8∨g=6)/\0<=sub/\sub<=32:=by exact kn),Ok trees N ⟨[g,sub,v,pl,fl,z],[j],[x,P,q,R],[]⟩ fun A=>(A=(0,(⟨[1],[],[],[]⟩:Aj)))
theorem AbE:Ach 44:=by
 intro kk r l g sub H pl fl I x V P U R J j q L v C B z h
 subst q;subst L;subst v;subst B;have M:=S.len l;have N:=S.A0 l;have O:([]:List Nat).length=0:=rfl;have Q:=j.len
 refine .of (t:=Y5) rfl ?_
 conv=>arg 3;reduce
 obtain ⟨_,rfl,A⟩:=XT g sub H pl fl I x (Aq BG) (Ai Dv) (Ak (B4 [A9 kk]::r)) (S.Aa l) J j rfl rfl rfl C rfl z
 refine ch A ?_
 exact Ag ⟨[1],[],[],[]⟩ (rfl)
end Bi
end
section
set_option maxHeartbeats 4000000
set_option maxRecDepth 100000
open Go.AM Go.AM.K
section
variable {g sub:Int} {fs:List Fe} {b:List S} {c:Int}
theorem Tu:Nm [107]:=by decide
theorem Abh {fs:List Fe} (hl:fs.length<=2) (hd:S.Ad b<=680/\S.Ay b<=4) (hg:g=4∨g=1∨g=2∨g=8∨g=6) (hs:BJ g sub):(5:Int)=(Aq BG).length/\(5:Int)<=8/\(3:Int)=(Ai Dv).length/\(3:Int)<=8/\((Ak fs).length:Int)=(Ak fs).length/\((Ak fs).length:Int)<=2/\((S.Aa b).length:Int)=(S.Aa b).length/\S.Ad b<=1600/\S.Ay b<=10/\(g=4∨g=1∨g=2∨g=8∨g=6)/\0<=sub/\sub<=32:=
 ⟨rfl,by decide,rfl,by decide,rfl,by rw [BW];omega,rfl,by omega,by omega,hg,hs.Ty.1,hs.Ty.2⟩
theorem k46 {q z:Ctx} {fs:List Fe} (j:Xa fs q) (hl:fs.length<=2) (v:Ew 0 0 q b z) (hd:S.Ad b<=680/\S.Ay b<=4) (hg:g=4∨g=1∨g=2∨g=8∨g=6) (hs:BJ g sub):
  Ok trees 46 ⟨[g,sub,5,3,((Ak fs).length:Int),((S.Aa b).length:Int)],[[107]],[Aq BG,Ai Dv,Ak fs,S.Aa b],[]⟩ fun x=>x=(1,(⟨[0,g,sub,5,3,((Ak fs).length:Int),((S.Aa b).length:Int),0],[[107]],[Aq BG,Ai Dv,Ak fs,S.Aa b],[am BG++pm Dv++fm fs]⟩:Aj)):=
 XT BG Dv fs g sub 5 3 _ _ [107] _ _ _ _ Tu rfl rfl rfl KH Kj j.p j.u rfl hs j.g R3 Ul j.fr v j.ck (Abh hl hd hg hs)
theorem k44 {q z:Ctx} {fs:List Fe} (j:Xa fs q) (hl:fs.length<=2) (v:Ew 0 0 q b z) (hd:S.Ad b<=680/\S.Ay b<=4) (hg:g=4∨g=1∨g=2∨g=8∨g=6) (hs:BJ g sub):
  Ok trees 44 ⟨[g,sub,5,3,((Ak fs).length:Int),((S.Aa b).length:Int)],[[107]],[Aq BG,Ai Dv,Ak fs,S.Aa b],[]⟩ fun x=>x=(0,(⟨[0],[],[],[]⟩:Aj)):=
 AbE BG Dv fs g sub 5 3 _ _ [107] _ _ _ _ Tu rfl rfl rfl KH Kj j.p j.u rfl hs j.g R3 Ul j.fr v j.ck (Abh hl hd hg hs)
theorem k48 {v:Ctx} {fs:List Fe} {a:List E} (j:Xa fs v) (hl:fs.length<=2) (ha:a=[]∨a=[Lw]) (hg:g=4∨g=1∨g=2∨g=8∨g=6) (hs:BJ g sub):
  Ok trees 48 ⟨[g,sub,5,3,((Ak fs).length:Int),1],[[107]],[Aq BG,Ai Dv,Ak fs,S.Aa [ifS a]],[]⟩ fun q=>q=(1,v0):=
 AbD (av:=BG) (pv:=Dv) (fs:=fs) (l:=[ifS a]) g sub 5 3 _ 1 [107] _ _ _ _ Tu rfl rfl rfl KH Kj j.p j.u rfl (Abl ha).1 ⟨rfl,by decide,rfl,by decide,rfl,by rw [BW];omega,rfl,(Abl ha).2.1,(Abl ha).2.2,hg,hs.Ty.1,hs.Ty.2⟩
theorem Ae2 {n:Nat} (M:n=153∨n=154) {J L:Ctx} {fs:List Fe} {a:List E} {j t x:Int} (A:Xa fs J) (hl:fs.length<=2) (I:Ew 0 0 J b L) (hd:S.Ad b<=680/\S.Ay b<=4) (hg:g=4∨g=1∨g=2∨g=8∨g=6) (hs:BJ g sub) (ha:a=[]∨a=[Lw]) (N:j=(E.Aa a).length)
  (H:Ok trees 124 ⟨[8,0,0,0,j,g,sub,5,3,((Ak fs).length:Int),((S.Aa b).length:Int),0],[qn,[107]],[E.Aa a,Aq BG,Ai Dv,Ak fs,S.Aa b],[am BG++pm Dv++fm fs]⟩ fun q=>q=(0,(⟨[t,x],[],[],[]⟩:Aj))):
  Ok trees n ⟨[g,sub,5,3,((Ak fs).length:Int),((S.Aa b).length:Int),0,8,0,0,0,j],[[107],qn],[Aq BG,Ai Dv,Ak fs,S.Aa b,[],E.Aa a],[]⟩ fun q=>q=(0,(⟨[t,x],[],[],[]⟩:Aj)):=by
 have v:Ok trees 157 ⟨[0,0,0,8,0,0,0,j,g,sub,5,3,((Ak fs).length:Int),((S.Aa b).length:Int),0],[qn,[107]],[[],E.Aa a,Aq BG,Ai Dv,Ak fs,S.Aa b],[[],am BG++pm Dv++fm fs]⟩ fun q=>q=(0,v0):=by
  refine .of (t:=YM) rfl ?_
  conv=>arg 3;reduce
  refine Hl 0 0 ?_
  exact Ag v0 rfl
 rcases M with rfl|rfl
 ·refine .of (t:=YP) rfl ?_
  conv=>arg 3;reduce
  obtain ⟨_,rfl,G⟩:=k46 A hl I hd hg hs
  refine cm G ?_
  refine ch G ?_
  refine BB 0 0 ?_
  refine ll j (E.Aa a) ?_
  refine de (S.Aa [ifS a]) ?_
  refine ll 1 (S.Aa [ifS a]) ?_
  refine fr ?_
  obtain ⟨_,rfl,z⟩:=k48 A hl ha hg hs
  refine cm z ?_
  refine ch z ?_
  refine md [] ?_
  obtain ⟨_,rfl,B⟩:=v
  refine ch B ?_
  obtain ⟨_,rfl,C⟩:=H
  refine ch C ?_
  exact Ag ⟨[t,x],[],[],[]⟩ rfl
 ·refine .of (t:=YO) rfl ?_
  conv=>arg 3;reduce
  obtain ⟨_,rfl,G⟩:=k46 A hl I hd hg hs
  refine cm G ?_
  refine ch G ?_
  refine BB 0 0 ?_
  refine ll j (E.Aa a) ?_
  refine de (S.Aa [ifS a]) ?_
  refine ll 1 (S.Aa [ifS a]) ?_
  refine fr ?_
  obtain ⟨_,rfl,z⟩:=k48 A hl ha hg hs
  refine cm z ?_
  refine ch z ?_
  refine md [] ?_
  obtain ⟨_,rfl,B⟩:=v
  refine ch B ?_
  obtain ⟨_,rfl,C⟩:=H
  refine ch C ?_
  exact Ag ⟨[t,x],[],[],[]⟩ rfl
theorem X7 {k:Int} (q:k=7∨k=9∨k=10) (K:Kf g sub fs b c):Ok trees 44 ⟨[g,sub,5,3,((Ak (B4 [A9 k]::fs)).length:Int),((S.Aa b).length:Int)],[[107]],[Aq BG,Ai Dv,Ak (B4 [A9 k]::fs),S.Aa b],[]⟩ fun A=>∃e:Int,A=(0,(⟨[e],[],[],[]⟩:Aj))/\e≠0:=by
 have z:=K.bp k q
 obtain ⟨B,x⟩:=K.ok
 have hl:(B4 [A9 k]::fs).length<=2:=by have:=K.fl;simp only [lC];omega
 have j:=Abh hl ⟨K.nd,K.dp⟩ K.hg K.hs
 have v:(5:Int)=(Aq BG).length/\(5:Int)<=8/\(3:Int)=(Ai Dv).length/\(3:Int)<=8/\((Ak (B4 [A9 k]::fs)).length:Int)=(Ak (B4 [A9 k]::fs)).length/\((Ak (B4 [A9 k]::fs)).length:Int)<=2/\((S.Aa b).length:Int)=(S.Aa b).length/\S.Ad b<=700/\S.Ay b<=10/\(g=4∨g=1∨g=2∨g=8∨g=6)/\0<=sub/\sub<=32:=
  ⟨j.1,j.2.1,j.2.2.1,j.2.2.2.1,j.2.2.2.2.1,j.2.2.2.2.2.1,j.2.2.2.2.2.2.1,by have:=K.nd;omega,j.2.2.2.2.2.2.2.2.1,K.hg,K.hs.Ty.1,K.hs.Ty.2⟩
 rcases q with rfl|q
 ·obtain ⟨_,rfl,G⟩:=Bk.AbE (r:=fs) (l:=b) g sub 5 3 _ _ [107] _ _ _ _ Tu rfl rfl rfl z rfl x.loose.pl K.bu K.hs K.bf v
  exact ⟨_,⟨31,rfl,by decide⟩,G⟩
 ·obtain ⟨_,rfl,G⟩:=Bi.AbE (r:=fs) (l:=b) g sub 5 3 _ _ [107] _ _ _ _ q Tu rfl rfl rfl z rfl x.loose.pl v
  exact ⟨_,⟨1,rfl,by decide⟩,G⟩
theorem Ao8 {s:List Nat}:Ok trees 150 ⟨[],[s],[],[]⟩ fun j=>j=(0,(⟨[0],[s],[[]],[]⟩:Aj)):=by
 refine .of (t:=YS) rfl ?_
 conv=>arg 3;reduce
 refine de [] ?_
 refine ll 0 [] ?_
 exact Ag ⟨[0],[s],[[]],[]⟩ rfl
section
variable (K:Kf g sub fs b c)
include K
theorem AgO (q:Fe):(q::fs).length<=2:=by have:=K.fl;simp only [lC];omega
theorem t1 {n:Nat} (q:n=153∨n=154):Ok trees n ⟨[g,sub,5,3,((Ak (B4 []::fs)).length:Int),((S.Aa b).length:Int),0,8,0,0,0,1],[[107],qn],[Aq BG,Ai Dv,Ak (B4 []::fs),S.Aa b,[],E.Aa [Lw]],[]⟩ fun v=>v=(0,(⟨[1,0],[],[],[]⟩:Aj)):=by
 obtain ⟨z,x⟩:=K.ok
 obtain ⟨A,j⟩:=Vr K.hc x
 refine Ae2 q K.k1 (AgO K _) j ⟨K.nd,K.dp⟩ K.hg K.hs (.inr rfl) rfl ?_
 exact B1.FV K.k1.ck 8 0 0 0 1 g sub 3 _ 0 qn [107] _ _ _ ⟨rfl,rfl,rfl,rfl⟩ rfl rfl rfl rfl ⟨rfl,by rw [BW];simp only [lC];omega⟩
theorem t0 {n:Nat} (q:n=153∨n=154):Ok trees n ⟨[g,sub,5,3,((Ak (B4 []::fs)).length:Int),((S.Aa b).length:Int),0,8,0,0,0,0],[[107],qn],[Aq BG,Ai Dv,Ak (B4 []::fs),S.Aa b,[],E.Aa []],[]⟩ fun v=>v=(0,(⟨[0,31],[],[],[]⟩:Aj)):=by
 obtain ⟨z,x⟩:=K.ok
 obtain ⟨A,j⟩:=Vr K.hc x
 refine Ae2 q K.k1 (AgO K _) j ⟨K.nd,K.dp⟩ K.hg K.hs (.inl rfl) rfl ?_
 exact B0.FV K.k1.ck 8 0 0 0 0 g sub 3 _ 0 qn [107] _ _ _ ⟨rfl,rfl,rfl,rfl⟩ rfl rfl rfl rfl ⟨rfl,by rw [BW];simp only [lC];omega⟩
theorem tn {n:Nat} (j:n=153∨n=154):Ok trees n ⟨[g,sub,5,3,((Ak fs).length:Int),((S.Aa b).length:Int),0,8,0,0,0,1],[[107],qn],[Aq BG,Ai Dv,Ak fs,S.Aa b,[],E.Aa [Lw]],[]⟩ fun q=>q=(0,(⟨[0,30],[],[],[]⟩:Aj)):=by
 obtain ⟨x,v⟩:=K.ok
 refine Ae2 j K.k0 (by have:=K.fl;omega) v.loose ⟨K.nd,K.dp⟩ K.hg K.hs (.inr rfl) rfl ?_
 exact Bn.FV K.k0.ck 8 0 0 0 1 g sub 3 _ 0 qn [107] _ _ _ ⟨rfl,rfl,rfl,rfl⟩ rfl rfl K.nq rfl
theorem AdQ:Ok trees 44 ⟨[g,sub,5,3,((Ak (B4 []::fs)).length:Int),((S.Aa b).length:Int)],[[107]],[Aq BG,Ai Dv,Ak (B4 []::fs),S.Aa b],[]⟩ fun q=>q=(0,(⟨[0],[],[],[]⟩:Aj)):=by
 obtain ⟨x,v⟩:=K.ok
 obtain ⟨z,j⟩:=Vr K.hc v
 exact k44 K.k1 (AgO K _) j ⟨K.nd,K.dp⟩ K.hg K.hs
end
end
theorem XD {q kind:Int} {B:Rs} (hB:Dl B) (hl:q=B.length) (h:q<=140737488355328) (ab:0<=kind/\kind<=255):Ok trees 3 ⟨[q,kind],[],[B],[]⟩ fun U=>U=(0,v0):=by
 refine .of (t:=t_3) rfl ?_
 conv=>arg 3;reduce
 obtain ⟨_,⟨g,sub,X,pl,fl,rl,Ar,P,Fs,R,rfl,Z,ha,V,hf,Y⟩,G⟩:=c_4 hB hl h
 refine ch G ?_
 obtain ⟨rfl,rfl,fs,b,c,rfl,rfl,K⟩:=Kf.of Z
 have Q:X=5:=ha
 have O:pl=3:=V
 subst Q;subst O;subst hf;subst Y
 have ad:((Ak fs).length:Int)<=1:=by rw [BW];have:=K.fl;omega
 have A:∀x:List S,((Ak (B4 x::fs)).length:Int)=(Ak fs).length+1:=fun x=>by rw [BW,BW];simp only [lC];omega
 refine IG ((Ak fs).length:Int) 8 ?_
 obtain ⟨_,rfl,G0⟩:=Ao8 (s:=[113,113,56])
 refine ch G0 ?_
 refine nv ⟨[q,kind,g,sub,5,3,((Ak fs).length:Int),((S.Aa b).length:Int),0],[[113,113,56]],[B,Aq BG,Ai Dv,Ak fs,S.Aa b,[]],[]⟩ ?_
 refine le ((Ak fs).length:Int) 0 (fun v=>?_) fun v=>?_
 ·have e:fs=[]:=by cases fs with|nil=>rfl|cons x r=>rw [BW]at v;simp only [lC]at v;omega
  subst e
  refine de (Ai [⟨[113,113,56],1⟩]) ?_
  refine ll 1 (Ai [⟨[113,113,56],1⟩]) ?_
  refine fr ?_
  refine ll 0 [] ?_
  refine de (Ak [B4 []]) ?_
  refine ll 1 (Ak [B4 []]) ?_
  refine fr ?_
  obtain ⟨_,rfl,I⟩:=AdQ K
  refine ch I ?_
  refine nv ⟨[q,kind,g,sub,5,3,((Ak []).length:Int),((S.Aa b).length:Int),0,1,((Ak [B4 []]).length:Int),0],[[113,113,56]],[B,Aq BG,Ai Dv,Ak [],S.Aa b,[],Ai [⟨[113,113,56],1⟩],Ak [B4 []]],[]⟩ ?_
  refine Az 0 1 ?_
  refine de [] ?_
  refine ll 0 [] ?_
  refine de (E.Aa [Lw]) ?_
  refine ll 1 (E.Aa [Lw]) ?_
  refine fr ?_
  obtain ⟨_,rfl,N⟩:=t1 K (.inl rfl)
  refine ch N ?_
  obtain ⟨_,rfl,L⟩:=t0 K (.inl rfl)
  refine ch L ?_
  obtain ⟨_,rfl,M⟩:=tn K (.inr rfl)
  refine ch M ?_
  refine nv ⟨[q,kind,g,sub,5,3,((Ak []).length:Int),((S.Aa b).length:Int),0,1,((Ak [B4 []]).length:Int),0,0,1,1,0,0,31,0,30],[[113,113,56]],[B,Aq BG,Ai Dv,Ak [],S.Aa b,[],Ai [⟨[113,113,56],1⟩],Ak [B4 []],[],E.Aa [Lw]],[]⟩ ?_
  refine eq (kind%3) 0 (fun H=>?_) fun H=>?_
  ·refine AH 0 0 ?_
   refine AH 1 1 ?_
   refine AH 0 0 ?_
   refine AH 31 31 ?_
   refine AH 30 30 ?_
   refine de (S.Aa [A9 10]) ?_
   refine ll 1 (S.Aa [A9 10]) ?_
   refine fr ?_
   refine de (Ak [B4 [A9 10]]) ?_
   refine ll 1 (Ak [B4 [A9 10]]) ?_
   refine fr ?_
   obtain ⟨_,⟨e,rfl,z⟩,j⟩:=X7 (.inr (.inr rfl)) K
   refine ch j ?_
   refine NM e 0 ?_
   exact Ag v0 rfl
  refine eq (kind%3) 1 (fun J=>?_) fun J=>?_
  ·refine AH 0 0 ?_
   refine AH 1 1 ?_
   refine AH 0 0 ?_
   refine AH 31 31 ?_
   refine AH 30 30 ?_
   refine de (S.Aa [A9 9]) ?_
   refine ll 1 (S.Aa [A9 9]) ?_
   refine fr ?_
   refine de (Ak [B4 [A9 9]]) ?_
   refine ll 1 (Ak [B4 [A9 9]]) ?_
   refine fr ?_
   obtain ⟨_,⟨e,rfl,z⟩,j⟩:=X7 (.inr (.inl rfl)) K
   refine ch j ?_
   refine NM e 0 ?_
   exact Ag v0 rfl
  refine AH (kind%3) 2 ?_
  refine AH 0 0 ?_
  refine AH 1 1 ?_
  refine AH 0 0 ?_
  refine AH 31 31 ?_
  refine AH 30 30 ?_
  refine de (S.Aa [A9 7]) ?_
  refine ll 1 (S.Aa [A9 7]) ?_
  refine fr ?_
  refine de (Ak [B4 [A9 7]]) ?_
  refine ll 1 (Ak [B4 [A9 7]]) ?_
  refine fr ?_
  obtain ⟨_,⟨e,rfl,z⟩,j⟩:=X7 (.inl rfl) K
  refine ch j ?_
  refine NM e 0 ?_
  exact Ag v0 rfl
 ·have ac:=A []
  refine gtY ((Ak fs).length:Int) 0 ?_
  refine de [[.str [113,113,56],.int .i64 1]] ?_
  refine ll 1 [[.str [113,113,56],.int .i64 1]] ?_
  refine fr ?_
  refine ll 0 [] ?_
  refine de (Ak (B4 []::fs)) ?_ (Bq (l:=[Si (B4 [])]) pe rfl)
  refine Er ((Ak (B4 []::fs)).length:Int) 1048576 ?_
  refine fr ?_
  obtain ⟨_,rfl,I⟩:=AdQ K
  refine ch I ?_
  refine nv ⟨[q,kind,g,sub,5,3,((Ak fs).length:Int),((S.Aa b).length:Int),0,1,((Ak (B4 []::fs)).length:Int),0],[[113,113,56]],[B,Aq BG,Ai Dv,Ak fs,S.Aa b,[],Ai [⟨[113,113,56],1⟩],Ak (B4 []::fs)],[]⟩ ?_
  refine Az 0 1 ?_
  refine de [] ?_
  refine ll 0 [] ?_
  refine de (E.Aa [Lw]) ?_
  refine ll 1 (E.Aa [Lw]) ?_
  refine fr ?_
  obtain ⟨_,rfl,N⟩:=t1 K (.inr rfl)
  refine ch N ?_
  obtain ⟨_,rfl,L⟩:=t0 K (.inr rfl)
  refine ch L ?_
  obtain ⟨_,rfl,M⟩:=tn K (.inr rfl)
  refine ch M ?_
  refine nv ⟨[q,kind,g,sub,5,3,((Ak fs).length:Int),((S.Aa b).length:Int),0,1,((Ak (B4 []::fs)).length:Int),0,0,1,1,0,0,31,0,30],[[113,113,56]],[B,Aq BG,Ai Dv,Ak fs,S.Aa b,[],Ai [⟨[113,113,56],1⟩],Ak (B4 []::fs),[],E.Aa [Lw]],[]⟩ ?_
  refine eq (kind%3) 0 (fun H=>?_) fun H=>?_
  ·refine de (S.Aa [A9 10]) ?_
   refine ll 1 (S.Aa [A9 10]) ?_
   refine fr ?_
   have C:=A [A9 10]
   refine de (Ak (B4 [A9 10]::fs)) ?_ (Bq (l:=[Si (B4 [A9 10])]) pe rfl)
   refine Er ((Ak (B4 [A9 10]::fs)).length:Int) 1048576 ?_
   refine AH 0 0 ?_
   refine AH 1 1 ?_
   refine AH 0 0 ?_
   refine AH 31 31 ?_
   refine AH 30 30 ?_
   refine fr ?_
   obtain ⟨_,⟨e,rfl,z⟩,j⟩:=X7 (.inr (.inr rfl)) K
   refine ch j ?_
   refine NM e 0 ?_
   exact Ag v0 rfl
  refine eq (kind%3) 1 (fun J=>?_) fun J=>?_
  ·refine de (S.Aa [A9 9]) ?_
   refine ll 1 (S.Aa [A9 9]) ?_
   refine fr ?_
   have C:=A [A9 9]
   refine de (Ak (B4 [A9 9]::fs)) ?_ (Bq (l:=[Si (B4 [A9 9])]) pe rfl)
   refine Er ((Ak (B4 [A9 9]::fs)).length:Int) 1048576 ?_
   refine AH 0 0 ?_
   refine AH 1 1 ?_
   refine AH 0 0 ?_
   refine AH 31 31 ?_
   refine AH 30 30 ?_
   refine fr ?_
   obtain ⟨_,⟨e,rfl,z⟩,j⟩:=X7 (.inr (.inl rfl)) K
   refine ch j ?_
   refine NM e 0 ?_
   exact Ag v0 rfl
  refine AH (kind%3) 2 ?_
  refine de (S.Aa [A9 7]) ?_
  refine ll 1 (S.Aa [A9 7]) ?_
  refine fr ?_
  have C:=A [A9 7]
  refine de (Ak (B4 [A9 7]::fs)) ?_ (Bq (l:=[Si (B4 [A9 7])]) pe rfl)
  refine Er ((Ak (B4 [A9 7]::fs)).length:Int) 1048576 ?_
  refine AH 0 0 ?_
  refine AH 1 1 ?_
  refine AH 0 0 ?_
  refine AH 31 31 ?_
  refine AH 30 30 ?_
  refine fr ?_
  obtain ⟨_,⟨e,rfl,z⟩,j⟩:=X7 (.inl rfl) K
  refine ch j ?_
  refine NM e 0 ?_
  exact Ag v0 rfl
end
end Go.Proofs.YtbmofjdmgjpfoaaGreatDoor.Am
