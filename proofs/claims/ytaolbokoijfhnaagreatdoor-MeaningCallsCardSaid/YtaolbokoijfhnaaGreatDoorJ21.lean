/- Part 21 of MeaningCalls. -/
import Derived.Test.YtaolbokoijfhnaaGreatDoorJ16
set_option linter.all false
namespace Go.Proofs.YtaolbokoijfhnaaGreatDoor.Am
section
set_option maxHeartbeats 4000000
set_option maxRecDepth 100000
open Go.AM Go.AM.K
def AhR (N n:Nat):Prop:=∀{Δ:Rl} {t:Int} {a:List E} (k o:Int) (ty v:Int) (ln depth j:Int) (s:List Nat) (A:Rs) (z:TR Δ t (.node k o ty v s a)) (B:A=E.Ab a) (h:ln=A.length/\0<=depth/\depth+(E.node k o ty v s a).high<=31/\0<=j/\j+(E.node k o ty v s a).nodes<=100000/\(E.node k o ty v s a).high<n),Ok trees N ⟨[k,o,ty,v,ln,depth,j],[s],[A],[]⟩ fun x=>(∃(q:Int),x=(0,(⟨[q],[],[],[]⟩:Aj))/\(q=j+(E.node k o ty v s a).nodes))
def ApW (N:Nat):Prop:=∀{Δ:Rl} {t:Int} {a:List E} (k o:Int) (ty v:Int) (ln depth j:Int) (s:List Nat) (A:Rs) (z:TR Δ t (.node k o ty v s a)) (B:A=E.Ab a) (h:ln=A.length/\0<=depth/\depth+(E.node k o ty v s a).high<=31/\0<=j/\j+(E.node k o ty v s a).nodes<=100000:=by exact kn),Ok trees N ⟨[k,o,ty,v,ln,depth,j],[s],[A],[]⟩ fun x=>(∃(q:Int),x=(0,(⟨[q],[],[],[]⟩:Aj))/\(q=j+(E.node k o ty v s a).nodes))
def Aqz (B N:Nat) (m n:Nat):Prop:=∀{Δ:Rl} {a:List E} (x ln:Int) (len j q:Int) (L:Rs) (C:TL Δ a) (A:L=E.Ab a) (h:ln=L.length/\ln<=1000/\len=ln/\0<=j/\0<=x/\x+1+E.BA a<=31/\0<=q/\q+E.Ad (a.drop j.toNat)<=100000/\E.BA a<m/\(len-j).toNat<n),Ok trees N ⟨[x,ln,len,j,q],[],[L],[]⟩ fun z=>(∃(v:Int),z=(0,(⟨[v],[],[],[]⟩:Aj))/\(v=q+E.Ad (a.drop j.toNat)))
def ApV (z N:Nat):Prop:=∀{m:Nat} (B:AhR z m) {Δ:Rl} {a:List E} (x ln:Int) (len j q:Int) (L:Rs) (H:TL Δ a) (C:L=E.Ab a) (h:ln=L.length/\ln<=1000/\len=ln/\0<=j/\0<=x/\x+1+E.BA a<=31/\0<=q/\q+E.Ad (a.drop j.toNat)<=100000/\E.BA a<m:=by exact kn),Ok trees N ⟨[x,ln,len,j,q],[],[L],[]⟩ fun A=>(∃(v:Int),A=(0,(⟨[v],[],[],[]⟩:Aj))/\(v=q+E.Ad (a.drop j.toNat)))
theorem Aod {m:Nat} (z:AhR 55 m) (n:Nat):Aqz 55 56 m n:=by
 induction n with
 |zero=>intro Δ a C ln len j I L v q h;exact absurd h.2.2.2.2.2.2.2.2.2 (Nat.not_lt_zero _)
 |succ n ih=>
 intro Δ a C ln len j I L v q h
 subst q;have hz:=JN (a:=a) (j:=j)
 refine .of (t:=Afz) rfl ?_
 conv=>arg 3;reduce
 refine lt j len (fun U=>?_) fun U=>?_
 ·refine Dv j 0 ?_
  refine CF j ln ?_
  obtain ⟨M,N,P,J,O,x,ac,H,Y,Z,Q,V⟩:=v.get j om om
  refine el H ?_
  obtain ⟨_,⟨B,rfl,R⟩,G3⟩:=z M N P J ((E.Ab x).length:Int) (C+1) I O (E.Ab x) asm rfl kn
  refine ch G3 ?_
  obtain ⟨_,⟨A,rfl,aa⟩,X⟩:=ih C ln len (j+1) B (E.Ab a) asm rfl kn
  refine ch X ?_
  exact Ah ⟨[A],[],[],[]⟩ (⟨_,rfl,kn⟩)
 exact Ah ⟨[I],[],[],[]⟩ (⟨_,rfl,kn⟩)
theorem Alm:ApV 55 56:=fun {m} hC55 {Δ} {a} dd ln len j nn L hTL hLa h=>Aod @hC55 ((len-j).toNat+1) dd ln len j nn L hTL hLa ⟨h.1,h.2.1,h.2.2.1,h.2.2.2.1,h.2.2.2.2.1,h.2.2.2.2.2.1,h.2.2.2.2.2.2.1,h.2.2.2.2.2.2.2.1,h.2.2.2.2.2.2.2.2,Nat.lt_succ_self _⟩
theorem Aoe (n:Nat):AhR 55 n:=by
 induction n with
 |zero=>intro Δ t a k o ty v ln depth x s A j B h;exact absurd h.2.2.2.2.2 (Nat.not_lt_zero _)
 |succ n ih=>
 intro Δ t a k o ty v ln depth x s A j B h
 subst B;have ⟨M,O,N⟩:=j.kind;have U:=j.nodes;have R:=Fu (k:=k) (o:=o) (ty:=ty) (v:=v) (s:=s) (a:=a);have hl:=TR.len j.args;have P:=E.A7 a;have Q:E.Ad (a.drop (0:Int).toNat)=E.Ad a:=rfl
 refine .of (t:=Af0) rfl ?_
 conv=>arg 3;reduce
 refine gtN depth 30 ?_
 refine eq k 8 (fun C=>?_) fun C=>?_
 ·refine gtN ln 8 ?_
  obtain ⟨_,⟨z,rfl,J⟩,I⟩:=Alm @ih depth ln ln 0 (x+1) (E.Ab a) j.args rfl
  refine ch I ?_
  exact Ah ⟨[z],[],[],[]⟩ (⟨_,rfl,kn⟩)
 obtain ⟨_,⟨q,rfl,H⟩,L⟩:=Alm @ih depth ln ln 0 (x+1) (E.Ab a) j.args rfl
 refine ch L ?_
 exact Ah ⟨[q],[],[],[]⟩ (⟨_,rfl,kn⟩)
theorem Aln:ApW 55:=fun {Δ} {t} {a} k o ty v ln depth nn s A hT hA h=>Aoe ((E.node k o ty v s a).high+1) k o ty v ln depth nn s A hT hA ⟨h.1,h.2.1,h.2.2.1,h.2.2.2.1,h.2.2.2.2,Nat.lt_succ_self _⟩
def fxB:Bool:=(List.range 256).all fun x=>match E7 [(x:Int)*16384-100000] Kd with|some (0,[])=>true|some (1,[])=>true|_=>false
theorem Ahu:fxB=true:=by kernel_rfl
def Ap0 (N:Nat):Prop:=∀(v:Int) (j:Fx v),Ok trees N ⟨[v],[],[],[]⟩ fun o=>o=(0,v0)∨o=(1,v0)
theorem AoB:Ap0 99:=by
 intro v ⟨x,hx,hv⟩
 subst hv
 have h:=List.all_eq_true.1 Ahu x (List.mem_range.2 hx)
 split at h
 ·rename_i e;exact Ok.num (t:=Kd) rfl e (.inl rfl)
 ·rename_i e;exact Ok.num (t:=Kd) rfl e (.inr rfl)
 ·cases h
noncomputable def nmB:Bool:=names.all fun s=>match Na s Adj with|some 0=>true|_=>false
theorem Ahh:nmB=true:=by kernel_rfl
def ApO (N:Nat):Prop:=∀(s:List Nat) (hs:Nm s),Ok trees N ⟨[],[s],[],[]⟩ fun o=>o=(0,v0)
theorem Gz:ApO 69:=by
 intro s hs
 have h:=List.all_eq_true.1 Ahh s hs
 split at h
 ·rename_i e;exact Ok.str (t:=Adj) rfl e rfl
 ·cases h
def KO (N n:Nat):Prop:=∀{Δ:Rl} {t:Int} {a:List E} (k o:Int) (ty v:Int) (ln j:Int) (s:List Nat) (A:Rs) (z:TR Δ t (.node k o ty v s a)) (B:A=E.Ab a) (h:ln=A.length/\0<=j/\j+100*(E.node k o ty v s a).nodes<=1000000/\(E.node k o ty v s a).high<n),Ok trees N ⟨[k,o,ty,v,ln,j],[s],[A],[]⟩ fun x=>(∃(q:Int),x=(0,(⟨[q],[],[],[]⟩:Aj))/\(q+2<=j+100*(E.node k o ty v s a).nodes)/\(j<=q))
def Amq (N:Nat):Prop:=∀{Δ:Rl} {t:Int} {a:List E} (k o:Int) (ty v:Int) (ln j:Int) (s:List Nat) (A:Rs) (z:TR Δ t (.node k o ty v s a)) (B:A=E.Ab a) (h:ln=A.length/\0<=j/\j+100*(E.node k o ty v s a).nodes<=1000000:=by exact kn),Ok trees N ⟨[k,o,ty,v,ln,j],[s],[A],[]⟩ fun x=>(∃(q:Int),x=(0,(⟨[q],[],[],[]⟩:Aj))/\(q+2<=j+100*(E.node k o ty v s a).nodes)/\(j<=q))
theorem KO.of {N n:Nat} (H:Amq N):KO N n:=fun {Δ} {t} {a} k o ty v ln sz s A hT hA h=>H k o ty v ln sz s A hT hA (by have:=h;omega)
def AnA (A N:Nat) (m n:Nat):Prop:=∀{Δ:Rl} {a:List E} (ln len:Int) (j q:Int) (L:Rs) (B:TL Δ a) (z:L=E.Ab a) (h:ln=L.length/\ln<=1000/\len=ln/\0<=j/\j<=ln/\0<=q/\q+100*E.Ad (a.drop j.toNat)<=999970/\E.BA a<m/\(len-j).toNat<n),Ok trees N ⟨[ln,len,j,q],[],[L],[]⟩ fun x=>(x=(0,v0)/\(E.Ad (a.drop j.toNat)=0))∨(∃(v:Int),x=(1,(⟨[v],[],[],[]⟩:Aj))/\(v<=q+100*E.Ad (a.drop j.toNat))/\(q<=v))
def Ann (z N:Nat):Prop:=∀{m:Nat} (A:KO z m) {Δ:Rl} {a:List E} (ln len:Int) (j q:Int) (L:Rs) (C:TL Δ a) (B:L=E.Ab a) (h:ln=L.length/\ln<=1000/\len=ln/\0<=j/\j<=ln/\0<=q/\q+100*E.Ad (a.drop j.toNat)<=999970/\E.BA a<m:=by exact kn),Ok trees N ⟨[ln,len,j,q],[],[L],[]⟩ fun x=>(x=(0,v0)/\(E.Ad (a.drop j.toNat)=0))∨(∃(v:Int),x=(1,(⟨[v],[],[],[]⟩:Aj))/\(v<=q+100*E.Ad (a.drop j.toNat))/\(q<=v))
theorem Ajh {m:Nat} (x:KO 97 m) (n:Nat):AnA 97 100 m n:=by
 induction n with
 |zero=>intro Δ a ln len j A L J M h;exact absurd h.2.2.2.2.2.2.2.2 (Nat.not_lt_zero _)
 |succ n ih=>
 intro Δ a ln len j A L J M h
 subst M;have hz:=JN (a:=a) (j:=j)
 refine .of (t:=ZM) rfl ?_
 conv=>arg 3;reduce
 refine lt j len (fun t1=>?_) fun t1=>?_
 ·refine Dv j 0 ?_
  refine CF j ln ?_
  obtain ⟨O,H,P,N,I,q,ap,Q,ag,al,ab,ae⟩:=J.get j om om
  refine el Q ?_
  refine gt j 0 (fun t3=>?_) fun t3=>?_
  ·refine bu A 2 ?_
   obtain ⟨_,⟨v,rfl,an,ao⟩,G4⟩:=x O H P N ((E.Ab q).length:Int) (A+2) I (E.Ab q) asm rfl kn
   refine ch G4 ?_
   obtain ⟨_,(⟨rfl,Y⟩|⟨C,rfl,Z,ac⟩),U⟩:=ih ln len (j+1) v (E.Ab a) asm rfl kn
   ·refine ch U ?_
    exact Ah ⟨[v],[],[],[]⟩ (.inr ((⟨_,rfl,kn,kn⟩)))
   refine cm U ?_
   refine ch U ?_
   exact Ah ⟨[C],[],[],[]⟩ (.inr ((⟨_,rfl,kn,kn⟩)))
  obtain ⟨_,⟨z,rfl,ai,ak⟩,G6⟩:=x O H P N ((E.Ab q).length:Int) A I (E.Ab q) asm rfl kn
  refine ch G6 ?_
  obtain ⟨_,(⟨rfl,X⟩|⟨B,rfl,V,aa⟩),R⟩:=ih ln len (j+1) z (E.Ab a) asm rfl kn
  ·refine ch R ?_
   exact Ah ⟨[z],[],[],[]⟩ (.inr ((⟨_,rfl,kn,kn⟩)))
  refine cm R ?_
  refine ch R ?_
  exact Ah ⟨[B],[],[],[]⟩ (.inr ((⟨_,rfl,kn,kn⟩)))
 exact Ah v0 (.inl (⟨rfl,kn⟩))
theorem Ame:Ann 97 100:=fun {m} hC97 {Δ} {a} ln len j sz L hTL hLa h=>Ajh @hC97 ((len-j).toNat+1) ln len j sz L hTL hLa ⟨h.1,h.2.1,h.2.2.1,h.2.2.2.1,h.2.2.2.2.1,h.2.2.2.2.2.1,h.2.2.2.2.2.2.1,h.2.2.2.2.2.2.2,Nat.lt_succ_self _⟩
def Ap1 (v N:Nat):Prop:=∀{m:Nat} (z:KO v m) {Δ:Rl} {a:List E} (ln j:Int) (L:Rs) (B:TL Δ a) (A:L=E.Ab a) (h:ln=L.length/\ln<=1000/\0<=j/\j+2+100*E.Ad a<=999970/\E.BA a<m:=by exact kn),Ok trees N ⟨[ln,j],[],[L],[]⟩ fun x=>(∃(q:Int),x=(0,(⟨[q],[],[],[]⟩:Aj))/\(q<=j+2+100*E.Ad a)/\(j<=q))
theorem HL:Ap1 97 98:=by
 intro m x Δ a ln q L v A h
 subst A;have J:=TR.len v;have I:E.Ad (a.drop (0:Int).toNat)=E.Ad a:=rfl
 refine .of (t:=AeU) rfl ?_
 conv=>arg 3;reduce
 refine bu q 1 ?_
 obtain ⟨_,(⟨rfl,C⟩|⟨j,rfl,B,H⟩),z⟩:=Ame @x ln ln 0 (q+1) (E.Ab a) v rfl
 ·refine ch z ?_
  refine bu (q+1) 1 ?_
  exact Ah ⟨[((q+1)+1)],[],[],[]⟩ (⟨_,rfl,kn,kn⟩)
 refine cm z ?_
 refine ch z ?_
 refine bu j 1 ?_
 exact Ah ⟨[(j+1)],[],[],[]⟩ (⟨_,rfl,kn,kn⟩)
theorem AnR (n:Nat):KO 97 n:=by
 induction n with
 |zero=>intro Δ t a k o ty v ln q s A U hA h;exact absurd h.2.2.2 (Nat.not_lt_zero _)
 |succ n ih=>
 intro Δ t a k o ty v ln q s A U hA h
 subst hA;have ⟨dH,dJ,dF⟩:=U.kind;have e1:=U.nodes;have e2:=Fu (k:=k) (o:=o) (ty:=ty) (v:=v) (s:=s) (a:=a);have hl:=TR.len U.args;have dG:=E.A7 a;have e0:E.Ad (a.drop (0:Int).toNat)=E.Ad a:=rfl;have R:ln=(a.length:Int):=by have:=h.1;rw [E.A7]at this;exact this
 rcases U.inv with hv|hv|hv|hv|hv|hv|hv|hv|hv|hv
 ·obtain ⟨rfl,rfl,rfl,rfl,rfl,r1,r2,r3,r4,r5,r6⟩:=hv;simp only [lC,lN]at R;have V:E.Ad []=0:=rfl;have Q:TL Δ []:=U.args
  refine .of (t:=Ly) rfl ?_
  conv=>arg 3;reduce
  refine Bw 1 1 ?_
  refine BJ ln 0 ?_
  refine BJ 0 0 ?_
  refine seY [] [] ?_
  refine eq ty 1 (fun C=>?_) fun C=>?_
  ·refine bu q 21 ?_
   exact Ah ⟨[(q+21)],[],[],[]⟩ (⟨_,rfl,kn,kn⟩)
  refine eq ty 2 (fun L=>?_) fun L=>?_
  ·obtain ⟨_,(rfl|rfl),G3⟩:=AoB v (r4 om)
   ·refine ch G3 ?_
    refine bu q 34 ?_
    exact Ah ⟨[(q+34)],[],[],[]⟩ (⟨_,rfl,kn,kn⟩)
   refine cm G3 ?_
   refine ch G3 ?_
   refine bu q 33 ?_
   exact Ah ⟨[(q+33)],[],[],[]⟩ (⟨_,rfl,kn,kn⟩)
  refine Bw ty 3 ?_
  refine eq v 0 (fun t4=>?_) fun t4=>?_
  ·refine AB v 1 ?_
   refine bu q 5 ?_
   exact Ah ⟨[(q+5)],[],[],[]⟩ (⟨_,rfl,kn,kn⟩)
  refine Bw v 1 ?_
  refine bu q 4 ?_
  exact Ah ⟨[(q+4)],[],[],[]⟩ (⟨_,rfl,kn,kn⟩)
 ·obtain ⟨rfl,rfl,rfl,rfl,rfl,rfl,r1,r2⟩:=hv;simp only [lC,lN]at R;have V:E.Ad []=0:=rfl;have Q:TL Δ []:=U.args
  refine .of (t:=Ly) rfl ?_
  conv=>arg 3;reduce
  refine AB 3 1 ?_
  refine AB 3 2 ?_
  refine Bw 3 3 ?_
  refine BJ ln 0 ?_
  refine BJ 0 0 ?_
  refine seY [] [] ?_
  refine JY (o-1) 0 ?_
  refine LA (o-1) 7 ?_
  refine eq (o-1) 0 (fun t5=>?_) fun t5=>?_
  ·refine bu q 5 ?_
   refine BJ 0 0 ?_
   exact Ah ⟨[(q+5)],[],[],[]⟩ (⟨_,rfl,kn,kn⟩)
  refine eq (o-1) 1 (fun t6=>?_) fun t6=>?_
  ·refine bu q 6 ?_
   refine BJ 0 0 ?_
   exact Ah ⟨[(q+6)],[],[],[]⟩ (⟨_,rfl,kn,kn⟩)
  refine eq (o-1) 2 (fun t7=>?_) fun t7=>?_
  ·refine bu q 6 ?_
   refine BJ 0 0 ?_
   exact Ah ⟨[(q+6)],[],[],[]⟩ (⟨_,rfl,kn,kn⟩)
  refine eq (o-1) 3 (fun t8=>?_) fun t8=>?_
  ·refine bu q 6 ?_
   refine BJ 0 0 ?_
   exact Ah ⟨[(q+6)],[],[],[]⟩ (⟨_,rfl,kn,kn⟩)
  refine eq (o-1) 4 (fun t9=>?_) fun t9=>?_
  ·refine bu q 5 ?_
   refine BJ 0 0 ?_
   exact Ah ⟨[(q+5)],[],[],[]⟩ (⟨_,rfl,kn,kn⟩)
  refine eq (o-1) 5 (fun bj=>?_) fun bj=>?_
  ·refine bu q 5 ?_
   refine BJ 0 0 ?_
   exact Ah ⟨[(q+5)],[],[],[]⟩ (⟨_,rfl,kn,kn⟩)
  refine Bw (o-1) 6 ?_
  refine bu q 4 ?_
  refine BJ 0 0 ?_
  exact Ah ⟨[(q+4)],[],[],[]⟩ (⟨_,rfl,kn,kn⟩)
 ·obtain ⟨rfl,rfl,rfl,rfl,rfl,hs,kk,ii,hk,r1,r2,hg⟩:=hv;simp only [lC,lN]at R;have V:E.Ad []=0:=rfl;have Q:TL Δ []:=U.args;have ak:=Nm.len (s:=s) asm
  refine .of (t:=Ly) rfl ?_
  conv=>arg 3;reduce
  refine AB 2 1 ?_
  refine Bw 2 2 ?_
  refine BJ ln 0 ?_
  refine BJ 0 0 ?_
  refine BJ 0 0 ?_
  refine BJ 0 0 ?_
  obtain ⟨_,rfl,ba⟩:=Gz s (by first|assumption|decide)
  refine ch ba ?_
  refine sl s ?_
  refine bu q 64 ?_
  exact Ah ⟨[(q+64)],[],[],[]⟩ (⟨_,rfl,kn,kn⟩)
 ·obtain ⟨rfl,rfl,rfl,rfl,J,H,C,v1,I,B,w,rfl,hu,h1⟩:=hv;simp only [lC,lN]at R;have V:=n1 (x:=.node J H C v1 I B);have e4:=g1 (x:=.node J H C v1 I B);have Q:TL Δ [.node J H C v1 I B]:=U.args;have hr:=hu.X2
  refine .of (t:=Ly) rfl ?_
  conv=>arg 3;reduce
  refine AB 4 1 ?_
  refine AB 4 2 ?_
  refine AB 4 3 ?_
  refine Bw 4 4 ?_
  refine BJ ln 1 ?_
  refine BJ 0 0 ?_
  refine seY [] [] ?_
  refine JY (o-1) 0 ?_
  refine LA (o-1) 5 ?_
  refine eq (o-1) 0 (fun bF=>?_) fun bF=>?_
  ·refine bu q 3 ?_
   refine BJ 0 0 ?_
   obtain ⟨_,⟨aR,rfl,dj,cX⟩,bk⟩:=HL @ih ln (q+3) (E.Ab [.node J H C v1 I B]) Q rfl
   refine ch bk ?_
   exact Ah ⟨[aR],[],[],[]⟩ (⟨_,rfl,kn,kn⟩)
  refine eq (o-1) 1 (fun bU=>?_) fun bU=>?_
  ·refine bu q 3 ?_
   refine BJ 0 0 ?_
   obtain ⟨_,⟨aE,rfl,c5,ce⟩,bo⟩:=HL @ih ln (q+3) (E.Ab [.node J H C v1 I B]) Q rfl
   refine ch bo ?_
   exact Ah ⟨[aE],[],[],[]⟩ (⟨_,rfl,kn,kn⟩)
  refine eq (o-1) 2 (fun a2=>?_) fun a2=>?_
  ·refine bu q 3 ?_
   refine BJ 0 0 ?_
   obtain ⟨_,⟨aU,rfl,cr,cR⟩,a9⟩:=HL @ih ln (q+3) (E.Ab [.node J H C v1 I B]) Q rfl
   refine ch a9 ?_
   exact Ah ⟨[aU],[],[],[]⟩ (⟨_,rfl,kn,kn⟩)
  refine eq (o-1) 3 (fun bX=>?_) fun bX=>?_
  ·refine bu q 3 ?_
   refine BJ 0 0 ?_
   obtain ⟨_,⟨aQ,rfl,dc,cB⟩,br⟩:=HL @ih ln (q+3) (E.Ab [.node J H C v1 I B]) Q rfl
   refine ch br ?_
   exact Ah ⟨[aQ],[],[],[]⟩ (⟨_,rfl,kn,kn⟩)
  refine Bw (o-1) 4 ?_
  refine bu q 3 ?_
  refine BJ 0 0 ?_
  obtain ⟨_,⟨aK,rfl,b8,cQ⟩,a5⟩:=HL @ih ln (q+3) (E.Ab [.node J H C v1 I B]) Q rfl
  refine ch a5 ?_
  exact Ah ⟨[aK],[],[],[]⟩ (⟨_,rfl,kn,kn⟩)
 ·obtain ⟨rfl,rfl,rfl,rfl,J,H,C,v1,I,B,M,N,L,O,P,b2,w,rfl,hu,h1,h2⟩:=hv;simp only [lC,lN]at R;have V:=n2 (x:=.node J H C v1 I B) (y:=.node M N L O P b2);have e4:=g2 (x:=.node J H C v1 I B) (y:=.node M N L O P b2);have Q:TL Δ [.node J H C v1 I B,.node M N L O P b2]:=U.args;have hr:=hu.X2
  refine .of (t:=Ly) rfl ?_
  conv=>arg 3;reduce
  refine AB 5 1 ?_
  refine AB 5 2 ?_
  refine AB 5 3 ?_
  refine AB 5 4 ?_
  refine Bw 5 5 ?_
  refine BJ ln 2 ?_
  refine BJ 0 0 ?_
  refine seY [] [] ?_
  refine Bw ln 2 ?_
  refine eq o 22 (fun bR=>?_) fun bR=>?_
  ·refine JY (o-22) 0 ?_
   refine LA (o-22) 2 ?_
   refine Bw (o-22) 0 ?_
   refine bu q 3 ?_
   refine BJ 0 0 ?_
   obtain ⟨_,⟨aJ,rfl,cx,db⟩,bT⟩:=HL @ih ln (q+3) (E.Ab [.node J H C v1 I B,.node M N L O P b2]) Q rfl
   refine ch bT ?_
   exact Ah ⟨[aJ],[],[],[]⟩ (⟨_,rfl,kn,kn⟩)
  refine eq o 23 (fun bZ=>?_) fun bZ=>?_
  ·refine JY (o-22) 0 ?_
   refine LA (o-22) 2 ?_
   refine AB (o-22) 0 ?_
   refine Bw (o-22) 1 ?_
   refine bu q 3 ?_
   refine BJ 0 0 ?_
   obtain ⟨_,⟨aF,rfl,dl,du⟩,bH⟩:=HL @ih ln (q+3) (E.Ab [.node J H C v1 I B,.node M N L O P b2]) Q rfl
   refine ch bH ?_
   exact Ah ⟨[aF],[],[],[]⟩ (⟨_,rfl,kn,kn⟩)
  refine bu q 1 ?_
  refine CF 0 ln ?_
  refine el (j':=0) rfl ?_
  refine BJ 0 0 ?_
  obtain ⟨_,⟨j,rfl,c6,cb⟩,a8⟩:=ih J H C v1 ((E.Ab B).length:Int) (q+1) I (E.Ab B) asm rfl kn
  refine ch a8 ?_
  refine bu j 1 ?_
  refine JY (o-10) 0 ?_
  refine LA (o-10) 20 ?_
  refine eq (o-10) 0 (fun a3=>?_) fun a3=>?_
  ·refine bu (j+1) 1 ?_
   refine bu ((j+1)+1) 1 ?_
   refine CF 1 ln ?_
   refine el (j':=1) rfl ?_
   obtain ⟨_,⟨af,rfl,cf,cj⟩,bb⟩:=ih M N L O ((E.Ab b2).length:Int) (((j+1)+1)+1) P (E.Ab b2) asm rfl kn
   refine ch bb ?_
   refine bu af 1 ?_
   exact Ah ⟨[(af+1)],[],[],[]⟩ (⟨_,rfl,kn,kn⟩)
  refine eq (o-10) 1 (fun bI=>?_) fun bI=>?_
  ·refine bu (j+1) 1 ?_
   refine bu ((j+1)+1) 1 ?_
   refine CF 1 ln ?_
   refine el (j':=1) rfl ?_
   obtain ⟨_,⟨aj,rfl,cA,cz⟩,a1⟩:=ih M N L O ((E.Ab b2).length:Int) (((j+1)+1)+1) P (E.Ab b2) asm rfl kn
   refine ch a1 ?_
   refine bu aj 1 ?_
   exact Ah ⟨[(aj+1)],[],[],[]⟩ (⟨_,rfl,kn,kn⟩)
  refine eq (o-10) 2 (fun bS=>?_) fun bS=>?_
  ·refine bu (j+1) 1 ?_
   refine bu ((j+1)+1) 1 ?_
   refine CF 1 ln ?_
   refine el (j':=1) rfl ?_
   obtain ⟨_,⟨X,rfl,cW,cu⟩,bc⟩:=ih M N L O ((E.Ab b2).length:Int) (((j+1)+1)+1) P (E.Ab b2) asm rfl kn
   refine ch bc ?_
   refine bu X 1 ?_
   exact Ah ⟨[(X+1)],[],[],[]⟩ (⟨_,rfl,kn,kn⟩)
  refine eq (o-10) 3 (fun bB=>?_) fun bB=>?_
  ·refine bu (j+1) 1 ?_
   refine bu ((j+1)+1) 1 ?_
   refine CF 1 ln ?_
   refine el (j':=1) rfl ?_
   obtain ⟨_,⟨aa,rfl,cN,cT⟩,bK⟩:=ih M N L O ((E.Ab b2).length:Int) (((j+1)+1)+1) P (E.Ab b2) asm rfl kn
   refine ch bK ?_
   refine bu aa 1 ?_
   exact Ah ⟨[(aa+1)],[],[],[]⟩ (⟨_,rfl,kn,kn⟩)
  refine eq (o-10) 4 (fun bP=>?_) fun bP=>?_
  ·refine bu (j+1) 1 ?_
   refine bu ((j+1)+1) 1 ?_
   refine CF 1 ln ?_
   refine el (j':=1) rfl ?_
   obtain ⟨_,⟨Z,rfl,dt,cV⟩,bD⟩:=ih M N L O ((E.Ab b2).length:Int) (((j+1)+1)+1) P (E.Ab b2) asm rfl kn
   refine ch bD ?_
   refine bu Z 1 ?_
   exact Ah ⟨[(Z+1)],[],[],[]⟩ (⟨_,rfl,kn,kn⟩)
  refine eq (o-10) 5 (fun b4=>?_) fun b4=>?_
  ·refine bu (j+1) 2 ?_
   refine bu ((j+1)+2) 1 ?_
   refine CF 1 ln ?_
   refine el (j':=1) rfl ?_
   obtain ⟨_,⟨an,rfl,cL,cy⟩,bM⟩:=ih M N L O ((E.Ab b2).length:Int) (((j+1)+2)+1) P (E.Ab b2) asm rfl kn
   refine ch bM ?_
   refine bu an 1 ?_
   exact Ah ⟨[(an+1)],[],[],[]⟩ (⟨_,rfl,kn,kn⟩)
  refine eq (o-10) 6 (fun bA=>?_) fun bA=>?_
  ·refine bu (j+1) 2 ?_
   refine bu ((j+1)+2) 1 ?_
   refine CF 1 ln ?_
   refine el (j':=1) rfl ?_
   obtain ⟨_,⟨au,rfl,cM,cZ⟩,bE⟩:=ih M N L O ((E.Ab b2).length:Int) (((j+1)+2)+1) P (E.Ab b2) asm rfl kn
   refine ch bE ?_
   refine bu au 1 ?_
   exact Ah ⟨[(au+1)],[],[],[]⟩ (⟨_,rfl,kn,kn⟩)
  refine eq (o-10) 7 (fun be=>?_) fun be=>?_
  ·refine bu (j+1) 1 ?_
   refine bu ((j+1)+1) 1 ?_
   refine CF 1 ln ?_
   refine el (j':=1) rfl ?_
   obtain ⟨_,⟨ap,rfl,cP,cU⟩,bl⟩:=ih M N L O ((E.Ab b2).length:Int) (((j+1)+1)+1) P (E.Ab b2) asm rfl kn
   refine ch bl ?_
   refine bu ap 1 ?_
   exact Ah ⟨[(ap+1)],[],[],[]⟩ (⟨_,rfl,kn,kn⟩)
  refine eq (o-10) 8 (fun bt=>?_) fun bt=>?_
  ·refine bu (j+1) 1 ?_
   refine bu ((j+1)+1) 1 ?_
   refine CF 1 ln ?_
   refine el (j':=1) rfl ?_
   obtain ⟨_,⟨ab,rfl,cS,cd⟩,bg⟩:=ih M N L O ((E.Ab b2).length:Int) (((j+1)+1)+1) P (E.Ab b2) asm rfl kn
   refine ch bg ?_
   refine bu ab 1 ?_
   exact Ah ⟨[(ab+1)],[],[],[]⟩ (⟨_,rfl,kn,kn⟩)
  refine eq (o-10) 9 (fun bJ=>?_) fun bJ=>?_
  ·refine bu (j+1) 1 ?_
   refine bu ((j+1)+1) 1 ?_
   refine CF 1 ln ?_
   refine el (j':=1) rfl ?_
   obtain ⟨_,⟨ax,rfl,cp,cJ⟩,bC⟩:=ih M N L O ((E.Ab b2).length:Int) (((j+1)+1)+1) P (E.Ab b2) asm rfl kn
   refine ch bC ?_
   refine bu ax 1 ?_
   exact Ah ⟨[(ax+1)],[],[],[]⟩ (⟨_,rfl,kn,kn⟩)
  refine eq (o-10) 10 (fun bG=>?_) fun bG=>?_
  ·refine bu (j+1) 2 ?_
   refine bu ((j+1)+2) 1 ?_
   refine CF 1 ln ?_
   refine el (j':=1) rfl ?_
   obtain ⟨_,⟨av,rfl,c9,c7⟩,bN⟩:=ih M N L O ((E.Ab b2).length:Int) (((j+1)+2)+1) P (E.Ab b2) asm rfl kn
   refine ch bN ?_
   refine bu av 1 ?_
   exact Ah ⟨[(av+1)],[],[],[]⟩ (⟨_,rfl,kn,kn⟩)
  refine eq (o-10) 11 (fun bp=>?_) fun bp=>?_
  ·refine bu (j+1) 2 ?_
   refine bu ((j+1)+2) 1 ?_
   refine CF 1 ln ?_
   refine el (j':=1) rfl ?_
   obtain ⟨_,⟨ai,rfl,cH,cE⟩,bh⟩:=ih M N L O ((E.Ab b2).length:Int) (((j+1)+2)+1) P (E.Ab b2) asm rfl kn
   refine ch bh ?_
   refine bu ai 1 ?_
   exact Ah ⟨[(ai+1)],[],[],[]⟩ (⟨_,rfl,kn,kn⟩)
  refine AB (o-10) 12 ?_
  refine AB (o-10) 13 ?_
  refine eq (o-10) 14 (fun bY=>?_) fun bY=>?_
  ·refine bu (j+1) 2 ?_
   refine bu ((j+1)+2) 1 ?_
   refine CF 1 ln ?_
   refine el (j':=1) rfl ?_
   obtain ⟨_,⟨ac,rfl,cv,cG⟩,aX⟩:=ih M N L O ((E.Ab b2).length:Int) (((j+1)+2)+1) P (E.Ab b2) asm rfl kn
   refine ch aX ?_
   refine bu ac 1 ?_
   exact Ah ⟨[(ac+1)],[],[],[]⟩ (⟨_,rfl,kn,kn⟩)
  refine eq (o-10) 15 (fun b0=>?_) fun b0=>?_
  ·refine bu (j+1) 2 ?_
   refine bu ((j+1)+2) 1 ?_
   refine CF 1 ln ?_
   refine el (j':=1) rfl ?_
   obtain ⟨_,⟨ah,rfl,co,cI⟩,a0⟩:=ih M N L O ((E.Ab b2).length:Int) (((j+1)+2)+1) P (E.Ab b2) asm rfl kn
   refine ch a0 ?_
   refine bu ah 1 ?_
   exact Ah ⟨[(ah+1)],[],[],[]⟩ (⟨_,rfl,kn,kn⟩)
  refine eq (o-10) 16 (fun a4=>?_) fun a4=>?_
  ·refine bu (j+1) 1 ?_
   refine bu ((j+1)+1) 1 ?_
   refine CF 1 ln ?_
   refine el (j':=1) rfl ?_
   obtain ⟨_,⟨Y,rfl,c1,cC⟩,bO⟩:=ih M N L O ((E.Ab b2).length:Int) (((j+1)+1)+1) P (E.Ab b2) asm rfl kn
   refine ch bO ?_
   refine bu Y 1 ?_
   exact Ah ⟨[(Y+1)],[],[],[]⟩ (⟨_,rfl,kn,kn⟩)
  refine eq (o-10) 17 (fun bQ=>?_) fun bQ=>?_
  ·refine bu (j+1) 2 ?_
   refine bu ((j+1)+2) 1 ?_
   refine CF 1 ln ?_
   refine el (j':=1) rfl ?_
   obtain ⟨_,⟨ao,rfl,c2,cO⟩,bi⟩:=ih M N L O ((E.Ab b2).length:Int) (((j+1)+2)+1) P (E.Ab b2) asm rfl kn
   refine ch bi ?_
   refine bu ao 1 ?_
   exact Ah ⟨[(ao+1)],[],[],[]⟩ (⟨_,rfl,kn,kn⟩)
  refine eq (o-10) 18 (fun aZ=>?_) fun aZ=>?_
  ·refine bu (j+1) 1 ?_
   refine bu ((j+1)+1) 1 ?_
   refine CF 1 ln ?_
   refine el (j':=1) rfl ?_
   obtain ⟨_,⟨ad,rfl,cg,cY⟩,bL⟩:=ih M N L O ((E.Ab b2).length:Int) (((j+1)+1)+1) P (E.Ab b2) asm rfl kn
   refine ch bL ?_
   refine bu ad 1 ?_
   exact Ah ⟨[(ad+1)],[],[],[]⟩ (⟨_,rfl,kn,kn⟩)
  refine Bw (o-10) 19 ?_
  refine bu (j+1) 2 ?_
  refine bu ((j+1)+2) 1 ?_
  refine CF 1 ln ?_
  refine el (j':=1) rfl ?_
  obtain ⟨_,⟨ae,rfl,cK,c4⟩,bW⟩:=ih M N L O ((E.Ab b2).length:Int) (((j+1)+2)+1) P (E.Ab b2) asm rfl kn
  refine ch bW ?_
  refine bu ae 1 ?_
  exact Ah ⟨[(ae+1)],[],[],[]⟩ (⟨_,rfl,kn,kn⟩)
 ·obtain ⟨rfl,rfl,rfl,rfl,rfl,J,H,C,v1,I,B,M,N,L,O,P,b2,k3,o3,t3,v3,s3,b3,rfl,h1,h2,h3⟩:=hv;simp only [lC,lN]at R;have V:=n3 (x:=.node J H C v1 I B) (y:=.node M N L O P b2) (z:=.node k3 o3 t3 v3 s3 b3);have e4:=g3 (x:=.node J H C v1 I B) (y:=.node M N L O P b2) (z:=.node k3 o3 t3 v3 s3 b3);have Q:TL Δ [.node J H C v1 I B,.node M N L O P b2,.node k3 o3 t3 v3 s3 b3]:=U.args
  refine .of (t:=Ly) rfl ?_
  conv=>arg 3;reduce
  refine AB 6 1 ?_
  refine AB 6 2 ?_
  refine AB 6 3 ?_
  refine AB 6 4 ?_
  refine AB 6 5 ?_
  refine Bw 6 6 ?_
  refine BJ ln 3 ?_
  refine BJ 0 0 ?_
  refine BJ 0 0 ?_
  refine seY [] [] ?_
  refine Bw ln 3 ?_
  refine bu q 1 ?_
  refine CF 0 ln ?_
  refine el (j':=0) rfl ?_
  refine BJ 0 0 ?_
  obtain ⟨_,⟨aw,rfl,ci,b9⟩,bV⟩:=ih J H C v1 ((E.Ab B).length:Int) (q+1) I (E.Ab B) asm rfl kn
  refine ch bV ?_
  refine bu aw 3 ?_
  refine CF 1 ln ?_
  refine el (j':=1) rfl ?_
  obtain ⟨_,⟨ag,rfl,cw,ct⟩,bf⟩:=ih M N L O ((E.Ab b2).length:Int) (aw+3) P (E.Ab b2) asm rfl kn
  refine ch bf ?_
  refine bu ag 3 ?_
  refine CF 2 ln ?_
  refine el (j':=2) rfl ?_
  obtain ⟨_,⟨aq,rfl,cc,cq⟩,a6⟩:=ih k3 o3 t3 v3 ((E.Ab b3).length:Int) (ag+3) s3 (E.Ab b3) asm rfl kn
  refine ch a6 ?_
  refine bu aq 1 ?_
  exact Ah ⟨[(aq+1)],[],[],[]⟩ (⟨_,rfl,kn,kn⟩)
 ·obtain ⟨rfl,rfl,rfl,rfl,hs,J,H,C,v1,I,B,ii,rfl,r1,r2,hg,h1⟩:=hv;simp only [lC,lN]at R;have V:=n1 (x:=.node J H C v1 I B);have e4:=g1 (x:=.node J H C v1 I B);have Q:TL Δ [.node J H C v1 I B]:=U.args;have ak:=Nm.len (s:=s) asm
  refine .of (t:=Ly) rfl ?_
  conv=>arg 3;reduce
  refine AB 7 1 ?_
  refine AB 7 2 ?_
  refine AB 7 3 ?_
  refine AB 7 4 ?_
  refine AB 7 5 ?_
  refine AB 7 6 ?_
  refine Bw 7 7 ?_
  obtain ⟨_,rfl,bw⟩:=Gz s (by first|assumption|decide)
  refine ch bw ?_
  refine sl s ?_
  refine bu q 64 ?_
  refine BJ ln 1 ?_
  refine BJ 0 0 ?_
  refine BJ 0 0 ?_
  refine Bw ln 1 ?_
  refine CF 0 ln ?_
  refine el (j':=0) rfl ?_
  refine bu (q+64) 1 ?_
  refine BJ 0 0 ?_
  obtain ⟨_,⟨al,rfl,dk,dd⟩,b6⟩:=ih J H C v1 ((E.Ab B).length:Int) ((q+64)+1) I (E.Ab B) asm rfl kn
  refine ch b6 ?_
  refine bu al 1 ?_
  exact Ah ⟨[(al+1)],[],[],[]⟩ (⟨_,rfl,kn,kn⟩)
 ·obtain ⟨rfl,rfl,rfl,rfl,rfl,J,H,C,v1,I,B,M,N,L,O,P,b2,ii,rfl,rfl,hg,h1,h2⟩:=hv;simp only [lC,lN]at R;have V:=n2 (x:=.node J H C v1 I B) (y:=.node M N L O P b2);have e4:=g2 (x:=.node J H C v1 I B) (y:=.node M N L O P b2);have Q:TL Δ [.node J H C v1 I B,.node M N L O P b2]:=U.args;have ak:=Nm.len (s:=[104]) (by decide)
  refine .of (t:=Ly) rfl ?_
  conv=>arg 3;reduce
  refine AB 8 1 ?_
  refine AB 8 2 ?_
  refine AB 8 3 ?_
  refine AB 8 4 ?_
  refine AB 8 5 ?_
  refine AB 8 6 ?_
  refine AB 8 7 ?_
  refine Bw 8 8 ?_
  refine BJ ln ln ?_
  refine BJ 0 0 ?_
  refine BJ 0 0 ?_
  refine BJ 0 0 ?_
  obtain ⟨_,rfl,bv⟩:=Gz [104] (by first|assumption|decide)
  refine ch bv ?_
  refine sl [104] ?_
  refine bu q 64 ?_
  obtain ⟨_,⟨aD,rfl,c3,cF⟩,bx⟩:=HL @ih ln (q+64) (E.Ab [.node J H C v1 I B,.node M N L O P b2]) Q rfl
  refine ch bx ?_
  exact Ah ⟨[aD],[],[],[]⟩ (⟨_,rfl,kn,kn⟩)
 ·obtain ⟨rfl,rfl,rfl,rfl,rfl,hs,⟨r1,r2⟩,hg⟩:=hv;simp only [lC,lN]at R;have V:E.Ad []=0:=rfl;have Q:TL Δ []:=U.args;have ak:=Nm.len (s:=s) asm
  refine .of (t:=Ly) rfl ?_
  conv=>arg 3;reduce
  refine AB 8 1 ?_
  refine AB 8 2 ?_
  refine AB 8 3 ?_
  refine AB 8 4 ?_
  refine AB 8 5 ?_
  refine AB 8 6 ?_
  refine AB 8 7 ?_
  refine Bw 8 8 ?_
  refine BJ ln ln ?_
  refine BJ 0 0 ?_
  refine BJ 0 0 ?_
  refine BJ 0 0 ?_
  obtain ⟨_,rfl,a7⟩:=Gz s (by first|assumption|decide)
  refine ch a7 ?_
  refine sl s ?_
  refine bu q 64 ?_
  obtain ⟨_,⟨aM,rfl,c8,di⟩,aY⟩:=HL @ih ln (q+64) (E.Ab []) Q rfl
  refine ch aY ?_
  exact Ah ⟨[aM],[],[],[]⟩ (⟨_,rfl,kn,kn⟩)
 ·obtain ⟨rfl,rfl,rfl,rfl,hs,J,H,C,v1,I,B,rfl,⟨r1,r2⟩,hg,h1⟩:=hv;simp only [lC,lN]at R;have V:=n1 (x:=.node J H C v1 I B);have e4:=g1 (x:=.node J H C v1 I B);have Q:TL Δ [.node J H C v1 I B]:=U.args;have ak:=Nm.len (s:=s) asm
  refine .of (t:=Ly) rfl ?_
  conv=>arg 3;reduce
  refine AB 8 1 ?_
  refine AB 8 2 ?_
  refine AB 8 3 ?_
  refine AB 8 4 ?_
  refine AB 8 5 ?_
  refine AB 8 6 ?_
  refine AB 8 7 ?_
  refine Bw 8 8 ?_
  refine BJ ln ln ?_
  refine BJ 0 0 ?_
  refine BJ 0 0 ?_
  refine BJ 0 0 ?_
  obtain ⟨_,rfl,b5⟩:=Gz s (by first|assumption|decide)
  refine ch b5 ?_
  refine sl s ?_
  refine bu q 64 ?_
  obtain ⟨_,⟨aL,rfl,dh,cD⟩,bn⟩:=HL @ih ln (q+64) (E.Ab [.node J H C v1 I B]) Q rfl
  refine ch bn ?_
  exact Ah ⟨[aL],[],[],[]⟩ (⟨_,rfl,kn,kn⟩)
theorem Dk:Amq 97:=fun {Δ} {t} {a} k o ty v ln sz s A hT hA h=>AnR ((E.node k o ty v s a).high+1) k o ty v ln sz s A hT hA ⟨h.1,h.2.1,h.2.2,Nat.lt_succ_self _⟩
end
end Go.Proofs.YtaolbokoijfhnaaGreatDoor.Am
