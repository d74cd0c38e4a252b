/- Part 20 of TypesFunctions. -/
import Derived.Test.YtbmofjdmgjpfoaaGreatDoorF17
set_option linter.all false
namespace Go.Proofs.YtbmofjdmgjpfoaaGreatDoor.Am
section
set_option maxHeartbeats 4000000
set_option maxRecDepth 100000
open Go.AM Go.AM.K
def Ah6 (N n:Nat):Prop:=∀{Δ:Rl} {t:Int} {a:List E} (k o:Int) (ty v:Int) (ln depth j:Int) (s:List Nat) (A:Rs) (B:TR Δ t (.node k o ty v s a)) (z:A=E.Aa a) (h:ln=A.length/\0<=depth/\depth+(E.node k o ty v s a).high<=31/\0<=j/\j+(E.node k o ty v s a).nodes<=100000/\(E.node k o ty v s a).high<n),Ok trees N ⟨[k,o,ty,v,ln,depth,j],[s],[A],[]⟩ fun x=>(∃(q:Int),x=(0,(⟨[q],[],[],[]⟩:Aj))/\(q=j+(E.node k o ty v s a).nodes))
def AoV (N:Nat):Prop:=∀{Δ:Rl} {t:Int} {a:List E} (k o:Int) (ty v:Int) (ln depth j:Int) (s:List Nat) (A:Rs) (B:TR Δ t (.node k o ty v s a)) (z:A=E.Aa a) (h:ln=A.length/\0<=depth/\depth+(E.node k o ty v s a).high<=31/\0<=j/\j+(E.node k o ty v s a).nodes<=100000:=by exact kn),Ok trees N ⟨[k,o,ty,v,ln,depth,j],[s],[A],[]⟩ fun x=>(∃(q:Int),x=(0,(⟨[q],[],[],[]⟩:Aj))/\(q=j+(E.node k o ty v s a).nodes))
def Aps (B N:Nat) (m n:Nat):Prop:=∀{Δ:Rl} {a:List E} (x ln:Int) (len j q:Int) (L:Rs) (C:TL Δ a) (A:L=E.Aa a) (h:ln=L.length/\ln<=1000/\len=ln/\0<=j/\0<=x/\x+1+E.BL a<=31/\0<=q/\q+E.Ad (a.drop j.toNat)<=100000/\E.BL a<m/\(len-j).toNat<n),Ok trees N ⟨[x,ln,len,j,q],[],[L],[]⟩ fun z=>(∃(v:Int),z=(0,(⟨[v],[],[],[]⟩:Aj))/\(v=q+E.Ad (a.drop j.toNat)))
def AoU (z N:Nat):Prop:=∀{m:Nat} (B:Ah6 z m) {Δ:Rl} {a:List E} (x ln:Int) (len j q:Int) (L:Rs) (H:TL Δ a) (C:L=E.Aa a) (h:ln=L.length/\ln<=1000/\len=ln/\0<=j/\0<=x/\x+1+E.BL a<=31/\0<=q/\q+E.Ad (a.drop j.toNat)<=100000/\E.BL a<m:=by exact kn),Ok trees N ⟨[x,ln,len,j,q],[],[L],[]⟩ fun A=>(∃(v:Int),A=(0,(⟨[v],[],[],[]⟩:Aj))/\(v=q+E.Ad (a.drop j.toNat)))
theorem An1 {m:Nat} (I:Ah6 55 m) (n:Nat):Aps 55 56 m n:=by
 induction n with
 |zero=>intro Δ a z ln len j B L v q h;exact absurd h.2.2.2.2.2.2.2.2.2 (Nat.not_lt_zero _)
 |succ n ih=>
 intro Δ a z ln len j B L v q h
 subst q;have hz:=HA (a:=a) (j:=j)
 refine .of (t:=AeX) rfl ?_
 conv=>arg 3;reduce
 refine lt j len (fun t1=>?_) fun t1=>?_
 ·refine CO j 0 ?_
  refine B8 j ln ?_
  obtain ⟨P,J,N,O,M,x,ab,H,Y,V,Q,aa⟩:=v.get j om om
  refine el H ?_
  obtain ⟨_,⟨C,rfl,Z⟩,U⟩:=I P J N O ((E.Aa x).length:Int) (z+1) B M (E.Aa x) asm rfl kn
  refine ch U ?_
  obtain ⟨_,⟨A,rfl,R⟩,X⟩:=ih z ln len (j+1) C (E.Aa a) asm rfl kn
  refine ch X ?_
  exact Ag ⟨[A],[],[],[]⟩ (⟨_,rfl,kn⟩)
 exact Ag ⟨[B],[],[],[]⟩ (⟨_,rfl,kn⟩)
theorem AkA:AoU 55 56:=fun {m} hC55 {Δ} {a} dd ln len j nn L hTL hLa h=>An1 @hC55 ((len-j).toNat+1) dd ln len j nn L hTL hLa ⟨h.1,h.2.1,h.2.2.1,h.2.2.2.1,h.2.2.2.2.1,h.2.2.2.2.2.1,h.2.2.2.2.2.2.1,h.2.2.2.2.2.2.2.1,h.2.2.2.2.2.2.2.2,Nat.lt_succ_self _⟩
theorem An2 (n:Nat):Ah6 55 n:=by
 induction n with
 |zero=>intro Δ t a k o ty v ln depth z s A j B h;exact absurd h.2.2.2.2.2 (Nat.not_lt_zero _)
 |succ n ih=>
 intro Δ t a k o ty v ln depth z s A j B h
 subst B;have ⟨O,N,M⟩:=j.kind;have P:=j.nodes;have R:=J3 (k:=k) (o:=o) (ty:=ty) (v:=v) (s:=s) (a:=a);have hl:=TR.len j.args;have L:=E.A0 a;have Q:E.Ad (a.drop (0:Int).toNat)=E.Ad a:=rfl
 refine .of (t:=AeY) rfl ?_
 conv=>arg 3;reduce
 refine gtN depth 30 ?_
 refine eq k 8 (fun t1=>?_) fun t1=>?_
 ·refine gtN ln 8 ?_
  obtain ⟨_,⟨q,rfl,J⟩,I⟩:=AkA @ih depth ln ln 0 (z+1) (E.Aa a) j.args rfl
  refine ch I ?_
  exact Ag ⟨[q],[],[],[]⟩ (⟨_,rfl,kn⟩)
 obtain ⟨_,⟨x,rfl,H⟩,C⟩:=AkA @ih depth ln ln 0 (z+1) (E.Aa a) j.args rfl
 refine ch C ?_
 exact Ag ⟨[x],[],[],[]⟩ (⟨_,rfl,kn⟩)
theorem AkB:AoV 55:=fun {Δ} {t} {a} k o ty v ln depth nn s A hT hA h=>An2 ((E.node k o ty v s a).high+1) k o ty v ln depth nn s A hT hA ⟨h.1,h.2.1,h.2.2.1,h.2.2.2.1,h.2.2.2.2,Nat.lt_succ_self _⟩
def Apt (N n:Nat):Prop:=∀{Δ:Rl} (a:List E) (V c1:Int) (c2 Z:Int) (x j:Int) (q M:Int) (q2 X:Int) (O Y:Int) (q6 q7:Int) (R q9:Int) (H L:Int) (J A:Int) (B C I:Int) (u1 u2 u3:List Nat) (D1 z:Rs) (D2 P:Rs) (D4 Q:Rs) (hE:∀e∈a,EOR Δ e) (ak:z=E.Aa a) (h:x=z.length/\x=2/\0<=j/\0<=q/\q+E.Ad (a.drop j.toNat)<=100000/\(2-j).toNat<n),Ok trees N ⟨[V,c1,c2,Z,x,j,q,M,q2,X,O,Y,q6,q7,R,q9,H,L,J,A,B,C,I],[u1,u2,u3],[D1,z,D2,P,D4,Q],[]⟩ fun U=>(∃(v:Int),U=(0,(⟨[v],[],[],[]⟩:Aj))/\(v=q+E.Ad (a.drop j.toNat)))
def AoW (N:Nat):Prop:=∀{Δ:Rl} (a:List E) (V c1:Int) (c2 Z:Int) (x j:Int) (q M:Int) (q2 X:Int) (O Y:Int) (q6 q7:Int) (R q9:Int) (H L:Int) (J A:Int) (B C I:Int) (u1 u2 u3:List Nat) (D1 z:Rs) (D2 P:Rs) (D4 Q:Rs) (hE:∀e∈a,EOR Δ e) (ak:z=E.Aa a) (h:x=z.length/\x=2/\0<=j/\0<=q/\q+E.Ad (a.drop j.toNat)<=100000:=by exact kn),Ok trees N ⟨[V,c1,c2,Z,x,j,q,M,q2,X,O,Y,q6,q7,R,q9,H,L,J,A,B,C,I],[u1,u2,u3],[D1,z,D2,P,D4,Q],[]⟩ fun U=>(∃(v:Int),U=(0,(⟨[v],[],[],[]⟩:Aj))/\(v=q+E.Ad (a.drop j.toNat)))
theorem Xq (n:Nat):Apt 54 n:=by
 induction n with
 |zero=>intro Δ a X c1 c2 c3 I j L P q2 Y Q Z q6 q7 V q9 z H C q v x A u1 u2 u3 D1 XY D2 R D4 U J O h;exact absurd h.2.2.2.2.2 (Nat.not_lt_zero _)
 |succ n ih=>
 intro Δ a X c1 c2 c3 I j L P q2 Y Q Z q6 q7 V q9 z H C q v x A u1 u2 u3 D1 XY D2 R D4 U J O h
 subst O;have hz:=HA (a:=a) (j:=j)
 refine .of (t:=AeZ) rfl ?_
 conv=>arg 3;reduce
 refine lt j 2 (fun t1=>?_) fun t1=>?_
 ·refine CO j 0 ?_
  refine B8 j I ?_
  obtain ⟨N,av,au,ax,aw,M,aK,ap,aj,B,az,aI⟩:=EL.get J j om om
  refine el ap ?_
  have ay:=B
  refine ne N 0 (fun t3=>?_) fun t3=>?_
  ·have aJ:=B om
   obtain ⟨_,⟨ab,rfl,aA⟩,G4⟩:=AkB N av au ax ((E.Aa M).length:Int) 1 L aw (E.Aa M) (by exact aj om) rfl
   refine ch G4 ?_
   obtain ⟨_,⟨an,rfl,aF⟩,G5⟩:=ih a X c1 c2 c3 I (j+1) ab P q2 Y Q Z q6 q7 V q9 z H C q v x A u1 u2 u3 D1 (E.Aa a) D2 R D4 U J rfl kn
   refine ch G5 ?_
   exact Ag ⟨[an],[],[],[]⟩ (⟨_,rfl,kn⟩)
  obtain ⟨_,⟨ac,rfl,aC⟩,G6⟩:=ih a X c1 c2 c3 I (j+1) L P q2 Y Q Z q6 q7 V q9 z H C q v x A u1 u2 u3 D1 (E.Aa a) D2 R D4 U J rfl kn
  refine ch G6 ?_
  exact Ag ⟨[ac],[],[],[]⟩ (⟨_,rfl,kn⟩)
 exact Ag ⟨[L],[],[],[]⟩ (⟨_,rfl,kn⟩)
theorem Aoi:AoW 54:=fun {Δ} a dd c1 c2 c3 xl j nn q1 q2 q3 q4 q5 q6 q7 q8 q9 q10 q11 q12 q13 q14 q15 q16 u1 u2 u3 D1 XY D2 D3 D4 D5 hE hXY h=>Xq ((2-j).toNat+1) a dd c1 c2 c3 xl j nn q1 q2 q3 q4 q5 q6 q7 q8 q9 q10 q11 q12 q13 q14 q15 q16 u1 u2 u3 D1 XY D2 D3 D4 D5 hE hXY ⟨h.1,h.2.1,h.2.2.1,h.2.2.2.1,h.2.2.2.2,Nat.lt_succ_self _⟩
def Ah7 (N n:Nat):Prop:=∀{l:List S} (ln v j:Int) (L:Rs) (A:PL l) (z:L=S.Aa l) (h:ln=L.length/\0<=v/\v+S.Ay l<=31/\0<=j/\j+S.Ad l<=100000/\S.Ay l<n),Ok trees N ⟨[ln,v,j],[],[L],[]⟩ fun x=>(∃(q:Int),x=(0,(⟨[q],[],[],[]⟩:Aj))/\(q=j+S.Ad l))
def AoY (N:Nat):Prop:=∀{l:List S} (ln v j:Int) (L:Rs) (A:PL l) (z:L=S.Aa l) (h:ln=L.length/\0<=v/\v+S.Ay l<=31/\0<=j/\j+S.Ad l<=100000:=by exact kn),Ok trees N ⟨[ln,v,j],[],[L],[]⟩ fun x=>(∃(q:Int),x=(0,(⟨[q],[],[],[]⟩:Aj))/\(q=j+S.Ad l))
def Apu (A N:Nat) (m n:Nat):Prop:=∀{l:List S} (x ln:Int) (len j q:Int) (L:Rs) (C:PL (l.drop j.toNat)) (B:L=S.Aa l) (h:ln=L.length/\ln<=200000/\len=ln/\0<=j/\0<=x/\x+S.Ay (l.drop j.toNat)<=31/\0<=q/\q+S.Ad (l.drop j.toNat)<=100000/\S.Ay (l.drop j.toNat)<=m/\(len-j).toNat<n),Ok trees N ⟨[x,ln,len,j,q],[],[L],[]⟩ fun z=>(∃(v:Int),z=(0,(⟨[v],[],[],[]⟩:Aj))/\(v=q+S.Ad (l.drop j.toNat)))
def AoX (z N:Nat):Prop:=∀{m:Nat} (B:Ah7 z m) {l:List S} (x ln:Int) (len j q:Int) (L:Rs) (H:PL (l.drop j.toNat)) (C:L=S.Aa l) (h:ln=L.length/\ln<=200000/\len=ln/\0<=j/\0<=x/\x+S.Ay (l.drop j.toNat)<=31/\0<=q/\q+S.Ad (l.drop j.toNat)<=100000/\S.Ay (l.drop j.toNat)<=m:=by exact kn),Ok trees N ⟨[x,ln,len,j,q],[],[L],[]⟩ fun A=>(∃(v:Int),A=(0,(⟨[v],[],[],[]⟩:Aj))/\(v=q+S.Ad (l.drop j.toNat)))
theorem An3 {m:Nat} (U:Ah7 52 m) (n:Nat):Apu 52 53 m n:=by
 induction n with
 |zero=>intro l R ln len j nn L hO V h;exact absurd h.2.2.2.2.2.2.2.2.2 (Nat.not_lt_zero _)
 |succ n ih=>
 intro l R ln len j nn L hO V h
 subst V;have hz:=Bd (l:=l) (j:=j)
 refine .of (t:=Afa) rfl ?_
 conv=>arg 3;reduce
 refine lt j len (fun t1=>?_) fun t1=>?_
 ·refine CO j 0 ?_
  refine B8 j ln ?_
  obtain ⟨ak,aj,t_1,ai,X,O,z,J,H,C,v,M,N,A,I,B,q,P,Q,af,Y,aC,aF,aE⟩:=PL.get j hO om om
  refine el af ?_
  obtain ⟨au,ap,aw,az⟩:=Y.parts;have Z:=n2 (x:=.node O z J H C v) (y:=.node M N A I B q)
  refine gtN R 30 ?_
  refine dL [[.int .i64 O,.int .i64 z,.int .i64 J,.str C,.int .i32 H,.list 6 (E.Aa v)],[.int .i64 M,.int .i64 N,.int .i64 A,.str B,.int .i32 I,.list 6 (E.Aa q)]] (fun W3 e3=>?_)
  have f3:=cL e3;try simp only [lA,lC,lN,lT']at f3
  refine ll 2 W3 ?_
  refine fr ?_
  have e0:E.Ad ([E.node O z J H C v,.node M N A I B q].drop (0:Int).toNat)=_:=Z
  obtain ⟨_,⟨aa,rfl,an⟩,G4⟩:=Aoi [.node O z J H C v,.node M N A I B q] R ln len j 2 0 (nn+1) ak aj t_1 ai O z J H ((E.Aa v).length:Int) M N A I ((E.Aa q).length:Int) ((S.Aa P).length:Int) ((S.Aa Q).length:Int) X C B (S.Aa l) W3 (E.Aa v) (E.Aa q) (S.Aa P) (S.Aa Q) asm (by subst_vars;rfl)
  refine ch G4 ?_
  obtain ⟨_,⟨ae,rfl,aB⟩,G5⟩:=U ((S.Aa P).length:Int) (R+1) aa (S.Aa P) asm rfl kn
  refine ch G5 ?_
  obtain ⟨_,⟨ab,rfl,av⟩,G6⟩:=U ((S.Aa Q).length:Int) (R+1) ae (S.Aa Q) asm rfl kn
  refine ch G6 ?_
  obtain ⟨_,⟨ac,rfl,ay⟩,G7⟩:=ih R ln len (j+1) ab (S.Aa l) asm rfl kn
  refine ch G7 ?_
  exact Ag ⟨[ac],[],[],[]⟩ (⟨_,rfl,kn⟩)
 exact Ag ⟨[nn],[],[],[]⟩ (⟨_,rfl,kn⟩)
theorem Aoj:AoX 52 53:=fun {m} hC52 {l} dd ln len j nn L hO hLs h=>An3 @hC52 ((len-j).toNat+1) dd ln len j nn L hO hLs ⟨h.1,h.2.1,h.2.2.1,h.2.2.2.1,h.2.2.2.2.1,h.2.2.2.2.2.1,h.2.2.2.2.2.2.1,h.2.2.2.2.2.2.2.1,h.2.2.2.2.2.2.2.2,Nat.lt_succ_self _⟩
theorem An4 (n:Nat):Ah7 52 n:=by
 induction n with
 |zero=>intro l ln z x L v j h;exact absurd h.2.2.2.2.2 (Nat.not_lt_zero _)
 |succ n ih=>
 intro l ln z x L v j h
 subst j;have I:=S.len l;have H:=S.A0 l
 refine .of (t:=Afb) rfl ?_
 conv=>arg 3;reduce
 have C:S.Ad (l.drop (0:Int).toNat)=S.Ad l:=rfl;have J:S.Ay (l.drop (0:Int).toNat)=S.Ay l:=rfl
 obtain ⟨_,⟨q,rfl,A⟩,B⟩:=Aoj @ih z ln ln 0 x (S.Aa l) v rfl
 refine ch B ?_
 exact Ag ⟨[q],[],[],[]⟩ (⟨_,rfl,(by have C:S.Ad (l.drop (0:Int).toNat)=S.Ad l:=rfl;omega)⟩)
theorem AkC:AoY 52:=fun {l} ln dd nn L hO hLs h=>An4 (S.Ay l+1) ln dd nn L hO hLs ⟨h.1,h.2.1,h.2.2.1,h.2.2.2.1,h.2.2.2.2,Nat.lt_succ_self _⟩
def fxB:Bool:=(List.range 256).all fun x=>match E7 [(x:Int)*16384-100000] JV with|some (0,[])=>true|some (1,[])=>true|_=>false
theorem AgW:fxB=true:=by kernel_rfl
def AoC (N:Nat):Prop:=∀(v:Int) (j:Fx v),Ok trees N ⟨[v],[],[],[]⟩ fun o=>o=(0,v0)∨o=(1,v0)
theorem Ak2:AoC 99:=by
 intro v ⟨x,hx,hv⟩
 subst hv
 have h:=List.all_eq_true.1 AgW x (List.mem_range.2 hx)
 split at h
 ·rename_i e;exact Ok.num (t:=JV) rfl e (.inl rfl)
 ·rename_i e;exact Ok.num (t:=JV) rfl e (.inr rfl)
 ·cases h
noncomputable def nmB:Bool:=names.all fun s=>match Nj s AcD with|some 0=>true|_=>false
theorem AgG:nmB=true:=by kernel_rfl
def AoN (N:Nat):Prop:=∀(s:List Nat) (hs:Nm s),Ok trees N ⟨[],[s],[],[]⟩ fun o=>o=(0,v0)
theorem FU:AoN 69:=by
 intro s hs
 have h:=List.all_eq_true.1 AgG s hs
 split at h
 ·rename_i e;exact Ok.str (t:=AcD) rfl e rfl
 ·cases h
def IW (N n:Nat):Prop:=∀{Δ:Rl} {t:Int} {a:List E} (k o:Int) (ty v:Int) (ln j:Int) (s:List Nat) (A:Rs) (B:TR Δ t (.node k o ty v s a)) (z:A=E.Aa a) (h:ln=A.length/\0<=j/\j+100*(E.node k o ty v s a).nodes<=1000000/\(E.node k o ty v s a).high<n),Ok trees N ⟨[k,o,ty,v,ln,j],[s],[A],[]⟩ fun x=>(∃(q:Int),x=(0,(⟨[q],[],[],[]⟩:Aj))/\(q+2<=j+100*(E.node k o ty v s a).nodes)/\(j<=q))
def Ahx (N:Nat):Prop:=∀{Δ:Rl} {t:Int} {a:List E} (k o:Int) (ty v:Int) (ln j:Int) (s:List Nat) (A:Rs) (B:TR Δ t (.node k o ty v s a)) (z:A=E.Aa a) (h:ln=A.length/\0<=j/\j+100*(E.node k o ty v s a).nodes<=1000000:=by exact kn),Ok trees N ⟨[k,o,ty,v,ln,j],[s],[A],[]⟩ fun x=>(∃(q:Int),x=(0,(⟨[q],[],[],[]⟩:Aj))/\(q+2<=j+100*(E.node k o ty v s a).nodes)/\(j<=q))
theorem IW.of {N n:Nat} (H:Ahx N):IW N n:=fun {Δ} {t} {a} k o ty v ln sz s A hT hA h=>H k o ty v ln sz s A hT hA (by have:=h;omega)
def Acw (B N:Nat) (m n:Nat):Prop:=∀{Δ:Rl} {a:List E} (ln len:Int) (j q:Int) (L:Rs) (A:TL Δ a) (z:L=E.Aa a) (h:ln=L.length/\ln<=1000/\len=ln/\0<=j/\j<=ln/\0<=q/\q+100*E.Ad (a.drop j.toNat)<=999970/\E.BL a<m/\(len-j).toNat<n),Ok trees N ⟨[ln,len,j,q],[],[L],[]⟩ fun x=>(x=(0,v0)/\(E.Ad (a.drop j.toNat)=0))∨(∃(v:Int),x=(1,(⟨[v],[],[],[]⟩:Aj))/\(v<=q+100*E.Ad (a.drop j.toNat))/\(q<=v))
def Acp (x N:Nat):Prop:=∀{m:Nat} (A:IW x m) {Δ:Rl} {a:List E} (ln len:Int) (j q:Int) (L:Rs) (C:TL Δ a) (B:L=E.Aa a) (h:ln=L.length/\ln<=1000/\len=ln/\0<=j/\j<=ln/\0<=q/\q+100*E.Ad (a.drop j.toNat)<=999970/\E.BL a<m:=by exact kn),Ok trees N ⟨[ln,len,j,q],[],[L],[]⟩ fun z=>(z=(0,v0)/\(E.Ad (a.drop j.toNat)=0))∨(∃(v:Int),z=(1,(⟨[v],[],[],[]⟩:Aj))/\(v<=q+100*E.Ad (a.drop j.toNat))/\(q<=v))
theorem AiA {m:Nat} (v:IW 97 m) (n:Nat):Acw 97 100 m n:=by
 induction n with
 |zero=>intro Δ a ln len j A L N M h;exact absurd h.2.2.2.2.2.2.2.2 (Nat.not_lt_zero _)
 |succ n ih=>
 intro Δ a ln len j A L N M h
 subst M;have hz:=HA (a:=a) (j:=j)
 refine .of (t:=Z3) rfl ?_
 conv=>arg 3;reduce
 refine lt j len (fun t1=>?_) fun t1=>?_
 ·refine CO j 0 ?_
  refine B8 j ln ?_
  obtain ⟨P,I,H,O,J,q,ao,U,aj,ah,Z,al⟩:=N.get j om om
  refine el U ?_
  refine gt j 0 (fun t3=>?_) fun t3=>?_
  ·refine bu A 2 ?_
   obtain ⟨_,⟨x,rfl,ad,an⟩,G4⟩:=v P I H O ((E.Aa q).length:Int) (A+2) J (E.Aa q) asm rfl kn
   refine ch G4 ?_
   obtain ⟨_,(⟨rfl,ac⟩|⟨C,rfl,Y,V⟩),R⟩:=ih ln len (j+1) x (E.Aa a) asm rfl kn
   ·refine ch R ?_
    exact Ag ⟨[x],[],[],[]⟩ (.inr ((⟨_,rfl,kn,kn⟩)))
   refine cm R ?_
   refine ch R ?_
   exact Ag ⟨[C],[],[],[]⟩ (.inr ((⟨_,rfl,kn,kn⟩)))
  obtain ⟨_,⟨z,rfl,ae,ak⟩,G6⟩:=v P I H O ((E.Aa q).length:Int) A J (E.Aa q) asm rfl kn
  refine ch G6 ?_
  obtain ⟨_,(⟨rfl,aa⟩|⟨B,rfl,ab,X⟩),Q⟩:=ih ln len (j+1) z (E.Aa a) asm rfl kn
  ·refine ch Q ?_
   exact Ag ⟨[z],[],[],[]⟩ (.inr ((⟨_,rfl,kn,kn⟩)))
  refine cm Q ?_
  refine ch Q ?_
  exact Ag ⟨[B],[],[],[]⟩ (.inr ((⟨_,rfl,kn,kn⟩)))
 exact Ag v0 (.inl (⟨rfl,kn⟩))
theorem Aly:Acp 97 100:=fun {m} hC97 {Δ} {a} ln len j sz L hTL hLa h=>AiA @hC97 ((len-j).toNat+1) ln len j sz L hTL hLa ⟨h.1,h.2.1,h.2.2.1,h.2.2.2.1,h.2.2.2.2.1,h.2.2.2.2.2.1,h.2.2.2.2.2.2.1,h.2.2.2.2.2.2.2,Nat.lt_succ_self _⟩
def Ahw (v N:Nat):Prop:=∀{m:Nat} (z:IW v m) {Δ:Rl} {a:List E} (ln j:Int) (L:Rs) (B:TL Δ a) (A:L=E.Aa a) (h:ln=L.length/\ln<=1000/\0<=j/\j+2+100*E.Ad a<=999970/\E.BL a<m:=by exact kn),Ok trees N ⟨[ln,j],[],[L],[]⟩ fun x=>(∃(q:Int),x=(0,(⟨[q],[],[],[]⟩:Aj))/\(q<=j+2+100*E.Ad a)/\(j<=q))
theorem HG:Ahw 97 98:=by
 intro m z Δ a ln q L v A h
 subst A;have J:=TR.len v;have I:E.Ad (a.drop (0:Int).toNat)=E.Ad a:=rfl
 refine .of (t:=Ae6) rfl ?_
 conv=>arg 3;reduce
 refine bu q 1 ?_
 obtain ⟨_,(⟨rfl,C⟩|⟨j,rfl,B,H⟩),x⟩:=Aly @z ln ln 0 (q+1) (E.Aa a) v rfl
 ·refine ch x ?_
  refine bu (q+1) 1 ?_
  exact Ag ⟨[((q+1)+1)],[],[],[]⟩ (⟨_,rfl,kn,kn⟩)
 refine cm x ?_
 refine ch x ?_
 refine bu j 1 ?_
 exact Ag ⟨[(j+1)],[],[],[]⟩ (⟨_,rfl,kn,kn⟩)
theorem Ano (n:Nat):IW 97 n:=by
 induction n with
 |zero=>intro Δ t a k o ty v ln q s A R hA h;exact absurd h.2.2.2 (Nat.not_lt_zero _)
 |succ n ih=>
 intro Δ t a k o ty v ln q s A R hA h
 subst hA;have ⟨dH,dF,dE⟩:=R.kind;have e1:=R.nodes;have e2:=J3 (k:=k) (o:=o) (ty:=ty) (v:=v) (s:=s) (a:=a);have hl:=TR.len R.args;have dG:=E.A0 a;have e0:E.Ad (a.drop (0:Int).toNat)=E.Ad a:=rfl;have Q:ln=(a.length:Int):=by have:=h.1;rw [E.A0]at this;exact this
 rcases R.inv with hv|hv|hv|hv|hv|hv|hv|hv|hv|hv
 ·obtain ⟨rfl,rfl,rfl,rfl,rfl,r1,r2,r3,r4,r5,r6⟩:=hv;simp only [lC,lN]at Q;have U:E.Ad []=0:=rfl;have P:TL Δ []:=R.args
  refine .of (t:=Lu) rfl ?_
  conv=>arg 3;reduce
  refine AH 1 1 ?_
  refine BB ln 0 ?_
  refine BB 0 0 ?_
  refine seY [] [] ?_
  refine eq ty 1 (fun t1=>?_) fun t1=>?_
  ·refine bu q 21 ?_
   exact Ag ⟨[(q+21)],[],[],[]⟩ (⟨_,rfl,kn,kn⟩)
  refine eq ty 2 (fun J=>?_) fun J=>?_
  ·obtain ⟨_,(rfl|rfl),G3⟩:=Ak2 v (r4 om)
   ·refine ch G3 ?_
    refine bu q 34 ?_
    exact Ag ⟨[(q+34)],[],[],[]⟩ (⟨_,rfl,kn,kn⟩)
   refine cm G3 ?_
   refine ch G3 ?_
   refine bu q 33 ?_
   exact Ag ⟨[(q+33)],[],[],[]⟩ (⟨_,rfl,kn,kn⟩)
  refine AH ty 3 ?_
  refine eq v 0 (fun t4=>?_) fun t4=>?_
  ·refine Az v 1 ?_
   refine bu q 5 ?_
   exact Ag ⟨[(q+5)],[],[],[]⟩ (⟨_,rfl,kn,kn⟩)
  refine AH v 1 ?_
  refine bu q 4 ?_
  exact Ag ⟨[(q+4)],[],[],[]⟩ (⟨_,rfl,kn,kn⟩)
 ·obtain ⟨rfl,rfl,rfl,rfl,rfl,rfl,r1,r2⟩:=hv;simp only [lC,lN]at Q;have U:E.Ad []=0:=rfl;have P:TL Δ []:=R.args
  refine .of (t:=Lu) rfl ?_
  conv=>arg 3;reduce
  refine Az 3 1 ?_
  refine Az 3 2 ?_
  refine AH 3 3 ?_
  refine BB ln 0 ?_
  refine BB 0 0 ?_
  refine seY [] [] ?_
  refine Hl (o-1) 0 ?_
  refine IG (o-1) 7 ?_
  refine eq (o-1) 0 (fun t5=>?_) fun t5=>?_
  ·refine bu q 5 ?_
   refine BB 0 0 ?_
   exact Ag ⟨[(q+5)],[],[],[]⟩ (⟨_,rfl,kn,kn⟩)
  refine eq (o-1) 1 (fun t6=>?_) fun t6=>?_
  ·refine bu q 6 ?_
   refine BB 0 0 ?_
   exact Ag ⟨[(q+6)],[],[],[]⟩ (⟨_,rfl,kn,kn⟩)
  refine eq (o-1) 2 (fun t7=>?_) fun t7=>?_
  ·refine bu q 6 ?_
   refine BB 0 0 ?_
   exact Ag ⟨[(q+6)],[],[],[]⟩ (⟨_,rfl,kn,kn⟩)
  refine eq (o-1) 3 (fun t8=>?_) fun t8=>?_
  ·refine bu q 6 ?_
   refine BB 0 0 ?_
   exact Ag ⟨[(q+6)],[],[],[]⟩ (⟨_,rfl,kn,kn⟩)
  refine eq (o-1) 4 (fun t9=>?_) fun t9=>?_
  ·refine bu q 5 ?_
   refine BB 0 0 ?_
   exact Ag ⟨[(q+5)],[],[],[]⟩ (⟨_,rfl,kn,kn⟩)
  refine eq (o-1) 5 (fun bz=>?_) fun bz=>?_
  ·refine bu q 5 ?_
   refine BB 0 0 ?_
   exact Ag ⟨[(q+5)],[],[],[]⟩ (⟨_,rfl,kn,kn⟩)
  refine AH (o-1) 6 ?_
  refine bu q 4 ?_
  refine BB 0 0 ?_
  exact Ag ⟨[(q+4)],[],[],[]⟩ (⟨_,rfl,kn,kn⟩)
 ·obtain ⟨rfl,rfl,rfl,rfl,rfl,hs,kk,ii,hk,r1,r2,hg⟩:=hv;simp only [lC,lN]at Q;have U:E.Ad []=0:=rfl;have P:TL Δ []:=R.args;have aq:=Nm.len (s:=s) asm
  refine .of (t:=Lu) rfl ?_
  conv=>arg 3;reduce
  refine Az 2 1 ?_
  refine AH 2 2 ?_
  refine BB ln 0 ?_
  refine BB 0 0 ?_
  refine BB 0 0 ?_
  refine BB 0 0 ?_
  obtain ⟨_,rfl,bX⟩:=FU s (by first|assumption|decide)
  refine ch bX ?_
  refine sl s ?_
  refine bu q 64 ?_
  exact Ag ⟨[(q+64)],[],[],[]⟩ (⟨_,rfl,kn,kn⟩)
 ·obtain ⟨rfl,rfl,rfl,rfl,k1,H,t1,I,C,B,w,rfl,hu,h1⟩:=hv;simp only [lC,lN]at Q;have U:=n1 (x:=.node k1 H t1 I C B);have e4:=g1 (x:=.node k1 H t1 I C B);have P:TL Δ [.node k1 H t1 I C B]:=R.args;have hr:=hu.Ty
  refine .of (t:=Lu) rfl ?_
  conv=>arg 3;reduce
  refine Az 4 1 ?_
  refine Az 4 2 ?_
  refine Az 4 3 ?_
  refine AH 4 4 ?_
  refine BB ln 1 ?_
  refine BB 0 0 ?_
  refine seY [] [] ?_
  refine Hl (o-1) 0 ?_
  refine IG (o-1) 5 ?_
  refine eq (o-1) 0 (fun bD=>?_) fun bD=>?_
  ·refine bu q 3 ?_
   refine BB 0 0 ?_
   obtain ⟨_,⟨aM,rfl,cz,cE⟩,bJ⟩:=HG @ih ln (q+3) (E.Aa [.node k1 H t1 I C B]) P rfl
   refine ch bJ ?_
   exact Ag ⟨[aM],[],[],[]⟩ (⟨_,rfl,kn,kn⟩)
  refine eq (o-1) 1 (fun be=>?_) fun be=>?_
  ·refine bu q 3 ?_
   refine BB 0 0 ?_
   obtain ⟨_,⟨aE,rfl,cR,dd⟩,b0⟩:=HG @ih ln (q+3) (E.Aa [.node k1 H t1 I C B]) P rfl
   refine ch b0 ?_
   exact Ag ⟨[aE],[],[],[]⟩ (⟨_,rfl,kn,kn⟩)
  refine eq (o-1) 2 (fun aW=>?_) fun aW=>?_
  ·refine bu q 3 ?_
   refine BB 0 0 ?_
   obtain ⟨_,⟨aO,rfl,dt,ct⟩,bj⟩:=HG @ih ln (q+3) (E.Aa [.node k1 H t1 I C B]) P rfl
   refine ch bj ?_
   exact Ag ⟨[aO],[],[],[]⟩ (⟨_,rfl,kn,kn⟩)
  refine eq (o-1) 3 (fun bQ=>?_) fun bQ=>?_
  ·refine bu q 3 ?_
   refine BB 0 0 ?_
   obtain ⟨_,⟨aD,rfl,b9,b7⟩,bN⟩:=HG @ih ln (q+3) (E.Aa [.node k1 H t1 I C B]) P rfl
   refine ch bN ?_
   exact Ag ⟨[aD],[],[],[]⟩ (⟨_,rfl,kn,kn⟩)
  refine AH (o-1) 4 ?_
  refine bu q 3 ?_
  refine BB 0 0 ?_
  obtain ⟨_,⟨aP,rfl,cU,cK⟩,bm⟩:=HG @ih ln (q+3) (E.Aa [.node k1 H t1 I C B]) P rfl
  refine ch bm ?_
  exact Ag ⟨[aP],[],[],[]⟩ (⟨_,rfl,kn,kn⟩)
 ·obtain ⟨rfl,rfl,rfl,rfl,k1,H,t1,I,C,B,L,M,J,O,N,b2,w,rfl,hu,h1,h2⟩:=hv;simp only [lC,lN]at Q;have U:=n2 (x:=.node k1 H t1 I C B) (y:=.node L M J O N b2);have e4:=g2 (x:=.node k1 H t1 I C B) (y:=.node L M J O N b2);have P:TL Δ [.node k1 H t1 I C B,.node L M J O N b2]:=R.args;have hr:=hu.Ty
  refine .of (t:=Lu) rfl ?_
  conv=>arg 3;reduce
  refine Az 5 1 ?_
  refine Az 5 2 ?_
  refine Az 5 3 ?_
  refine Az 5 4 ?_
  refine AH 5 5 ?_
  refine BB ln 2 ?_
  refine BB 0 0 ?_
  refine seY [] [] ?_
  refine AH ln 2 ?_
  refine eq o 22 (fun bU=>?_) fun bU=>?_
  ·refine Hl (o-22) 0 ?_
   refine IG (o-22) 2 ?_
   refine AH (o-22) 0 ?_
   refine bu q 3 ?_
   refine BB 0 0 ?_
   obtain ⟨_,⟨aL,rfl,dj,cd⟩,bT⟩:=HG @ih ln (q+3) (E.Aa [.node k1 H t1 I C B,.node L M J O N b2]) P rfl
   refine ch bT ?_
   exact Ag ⟨[aL],[],[],[]⟩ (⟨_,rfl,kn,kn⟩)
  refine eq o 23 (fun bV=>?_) fun bV=>?_
  ·refine Hl (o-22) 0 ?_
   refine IG (o-22) 2 ?_
   refine Az (o-22) 0 ?_
   refine AH (o-22) 1 ?_
   refine bu q 3 ?_
   refine BB 0 0 ?_
   obtain ⟨_,⟨aF,rfl,cA,cD⟩,bE⟩:=HG @ih ln (q+3) (E.Aa [.node k1 H t1 I C B,.node L M J O N b2]) P rfl
   refine ch bE ?_
   exact Ag ⟨[aF],[],[],[]⟩ (⟨_,rfl,kn,kn⟩)
  refine bu q 1 ?_
  refine B8 0 ln ?_
  refine el (j':=0) rfl ?_
  refine BB 0 0 ?_
  obtain ⟨_,⟨j,rfl,cy,cq⟩,bP⟩:=ih k1 H t1 I ((E.Aa B).length:Int) (q+1) C (E.Aa B) asm rfl kn
  refine ch bP ?_
  refine bu j 1 ?_
  refine Hl (o-10) 0 ?_
  refine IG (o-10) 20 ?_
  refine eq (o-10) 0 (fun bR=>?_) fun bR=>?_
  ·refine bu (j+1) 1 ?_
   refine bu ((j+1)+1) 1 ?_
   refine B8 1 ln ?_
   refine el (j':=1) rfl ?_
   obtain ⟨_,⟨V,rfl,cZ,dl⟩,bk⟩:=ih L M J O ((E.Aa b2).length:Int) (((j+1)+1)+1) N (E.Aa b2) asm rfl kn
   refine ch bk ?_
   refine bu V 1 ?_
   exact Ag ⟨[(V+1)],[],[],[]⟩ (⟨_,rfl,kn,kn⟩)
  refine eq (o-10) 1 (fun b6=>?_) fun b6=>?_
  ·refine bu (j+1) 1 ?_
   refine bu ((j+1)+1) 1 ?_
   refine B8 1 ln ?_
   refine el (j':=1) rfl ?_
   obtain ⟨_,⟨aa,rfl,dk,b8⟩,br⟩:=ih L M J O ((E.Aa b2).length:Int) (((j+1)+1)+1) N (E.Aa b2) asm rfl kn
   refine ch br ?_
   refine bu aa 1 ?_
   exact Ag ⟨[(aa+1)],[],[],[]⟩ (⟨_,rfl,kn,kn⟩)
  refine eq (o-10) 2 (fun a9=>?_) fun a9=>?_
  ·refine bu (j+1) 1 ?_
   refine bu ((j+1)+1) 1 ?_
   refine B8 1 ln ?_
   refine el (j':=1) rfl ?_
   obtain ⟨_,⟨ap,rfl,dh,dc⟩,bF⟩:=ih L M J O ((E.Aa b2).length:Int) (((j+1)+1)+1) N (E.Aa b2) asm rfl kn
   refine ch bF ?_
   refine bu ap 1 ?_
   exact Ag ⟨[(ap+1)],[],[],[]⟩ (⟨_,rfl,kn,kn⟩)
  refine eq (o-10) 3 (fun a4=>?_) fun a4=>?_
  ·refine bu (j+1) 1 ?_
   refine bu ((j+1)+1) 1 ?_
   refine B8 1 ln ?_
   refine el (j':=1) rfl ?_
   obtain ⟨_,⟨an,rfl,cX,cj⟩,bK⟩:=ih L M J O ((E.Aa b2).length:Int) (((j+1)+1)+1) N (E.Aa b2) asm rfl kn
   refine ch bK ?_
   refine bu an 1 ?_
   exact Ag ⟨[(an+1)],[],[],[]⟩ (⟨_,rfl,kn,kn⟩)
  refine eq (o-10) 4 (fun aX=>?_) fun aX=>?_
  ·refine bu (j+1) 1 ?_
   refine bu ((j+1)+1) 1 ?_
   refine B8 1 ln ?_
   refine el (j':=1) rfl ?_
   obtain ⟨_,⟨au,rfl,co,cr⟩,a8⟩:=ih L M J O ((E.Aa b2).length:Int) (((j+1)+1)+1) N (E.Aa b2) asm rfl kn
   refine ch a8 ?_
   refine bu au 1 ?_
   exact Ag ⟨[(au+1)],[],[],[]⟩ (⟨_,rfl,kn,kn⟩)
  refine eq (o-10) 5 (fun bW=>?_) fun bW=>?_
  ·refine bu (j+1) 2 ?_
   refine bu ((j+1)+2) 1 ?_
   refine B8 1 ln ?_
   refine el (j':=1) rfl ?_
   obtain ⟨_,⟨aw,rfl,c5,cH⟩,bY⟩:=ih L M J O ((E.Aa b2).length:Int) (((j+1)+2)+1) N (E.Aa b2) asm rfl kn
   refine ch bY ?_
   refine bu aw 1 ?_
   exact Ag ⟨[(aw+1)],[],[],[]⟩ (⟨_,rfl,kn,kn⟩)
  refine eq (o-10) 6 (fun aY=>?_) fun aY=>?_
  ·refine bu (j+1) 2 ?_
   refine bu ((j+1)+2) 1 ?_
   refine B8 1 ln ?_
   refine el (j':=1) rfl ?_
   obtain ⟨_,⟨af,rfl,c9,cL⟩,a1⟩:=ih L M J O ((E.Aa b2).length:Int) (((j+1)+2)+1) N (E.Aa b2) asm rfl kn
   refine ch a1 ?_
   refine bu af 1 ?_
   exact Ag ⟨[(af+1)],[],[],[]⟩ (⟨_,rfl,kn,kn⟩)
  refine eq (o-10) 7 (fun b4=>?_) fun b4=>?_
  ·refine bu (j+1) 1 ?_
   refine bu ((j+1)+1) 1 ?_
   refine B8 1 ln ?_
   refine el (j':=1) rfl ?_
   obtain ⟨_,⟨ab,rfl,cx,cc⟩,bv⟩:=ih L M J O ((E.Aa b2).length:Int) (((j+1)+1)+1) N (E.Aa b2) asm rfl kn
   refine ch bv ?_
   refine bu ab 1 ?_
   exact Ag ⟨[(ab+1)],[],[],[]⟩ (⟨_,rfl,kn,kn⟩)
  refine eq (o-10) 8 (fun b5=>?_) fun b5=>?_
  ·refine bu (j+1) 1 ?_
   refine bu ((j+1)+1) 1 ?_
   refine B8 1 ln ?_
   refine el (j':=1) rfl ?_
   obtain ⟨_,⟨X,rfl,c2,cT⟩,bq⟩:=ih L M J O ((E.Aa b2).length:Int) (((j+1)+1)+1) N (E.Aa b2) asm rfl kn
   refine ch bq ?_
   refine bu X 1 ?_
   exact Ag ⟨[(X+1)],[],[],[]⟩ (⟨_,rfl,kn,kn⟩)
  refine eq (o-10) 9 (fun bl=>?_) fun bl=>?_
  ·refine bu (j+1) 1 ?_
   refine bu ((j+1)+1) 1 ?_
   refine B8 1 ln ?_
   refine el (j':=1) rfl ?_
   obtain ⟨_,⟨ao,rfl,cN,cF⟩,bM⟩:=ih L M J O ((E.Aa b2).length:Int) (((j+1)+1)+1) N (E.Aa b2) asm rfl kn
   refine ch bM ?_
   refine bu ao 1 ?_
   exact Ag ⟨[(ao+1)],[],[],[]⟩ (⟨_,rfl,kn,kn⟩)
  refine eq (o-10) 10 (fun a7=>?_) fun a7=>?_
  ·refine bu (j+1) 2 ?_
   refine bu ((j+1)+2) 1 ?_
   refine B8 1 ln ?_
   refine el (j':=1) rfl ?_
   obtain ⟨_,⟨Y,rfl,c3,cI⟩,bI⟩:=ih L M J O ((E.Aa b2).length:Int) (((j+1)+2)+1) N (E.Aa b2) asm rfl kn
   refine ch bI ?_
   refine bu Y 1 ?_
   exact Ag ⟨[(Y+1)],[],[],[]⟩ (⟨_,rfl,kn,kn⟩)
  refine eq (o-10) 11 (fun bH=>?_) fun bH=>?_
  ·refine bu (j+1) 2 ?_
   refine bu ((j+1)+2) 1 ?_
   refine B8 1 ln ?_
   refine el (j':=1) rfl ?_
   obtain ⟨_,⟨aj,rfl,cG,cS⟩,ba⟩:=ih L M J O ((E.Aa b2).length:Int) (((j+1)+2)+1) N (E.Aa b2) asm rfl kn
   refine ch ba ?_
   refine bu aj 1 ?_
   exact Ag ⟨[(aj+1)],[],[],[]⟩ (⟨_,rfl,kn,kn⟩)
  refine Az (o-10) 12 ?_
  refine Az (o-10) 13 ?_
  refine eq (o-10) 14 (fun bt=>?_) fun bt=>?_
  ·refine bu (j+1) 2 ?_
   refine bu ((j+1)+2) 1 ?_
   refine B8 1 ln ?_
   refine el (j':=1) rfl ?_
   obtain ⟨_,⟨ah,rfl,c1,c8⟩,bO⟩:=ih L M J O ((E.Aa b2).length:Int) (((j+1)+2)+1) N (E.Aa b2) asm rfl kn
   refine ch bO ?_
   refine bu ah 1 ?_
   exact Ag ⟨[(ah+1)],[],[],[]⟩ (⟨_,rfl,kn,kn⟩)
  refine eq (o-10) 15 (fun a6=>?_) fun a6=>?_
  ·refine bu (j+1) 2 ?_
   refine bu ((j+1)+2) 1 ?_
   refine B8 1 ln ?_
   refine el (j':=1) rfl ?_
   obtain ⟨_,⟨ai,rfl,db,cJ⟩,bA⟩:=ih L M J O ((E.Aa b2).length:Int) (((j+1)+2)+1) N (E.Aa b2) asm rfl kn
   refine ch bA ?_
   refine bu ai 1 ?_
   exact Ag ⟨[(ai+1)],[],[],[]⟩ (⟨_,rfl,kn,kn⟩)
  refine eq (o-10) 16 (fun aV=>?_) fun aV=>?_
  ·refine bu (j+1) 1 ?_
   refine bu ((j+1)+1) 1 ?_
   refine B8 1 ln ?_
   refine el (j':=1) rfl ?_
   obtain ⟨_,⟨ag,rfl,cw,cO⟩,bi⟩:=ih L M J O ((E.Aa b2).length:Int) (((j+1)+1)+1) N (E.Aa b2) asm rfl kn
   refine ch bi ?_
   refine bu ag 1 ?_
   exact Ag ⟨[(ag+1)],[],[],[]⟩ (⟨_,rfl,kn,kn⟩)
  refine eq (o-10) 17 (fun bg=>?_) fun bg=>?_
  ·refine bu (j+1) 2 ?_
   refine bu ((j+1)+2) 1 ?_
   refine B8 1 ln ?_
   refine el (j':=1) rfl ?_
   obtain ⟨_,⟨al,rfl,ce,cV⟩,bZ⟩:=ih L M J O ((E.Aa b2).length:Int) (((j+1)+2)+1) N (E.Aa b2) asm rfl kn
   refine ch bZ ?_
   refine bu al 1 ?_
   exact Ag ⟨[(al+1)],[],[],[]⟩ (⟨_,rfl,kn,kn⟩)
  refine eq (o-10) 18 (fun bC=>?_) fun bC=>?_
  ·refine bu (j+1) 1 ?_
   refine bu ((j+1)+1) 1 ?_
   refine B8 1 ln ?_
   refine el (j':=1) rfl ?_
   obtain ⟨_,⟨ad,rfl,cB,di⟩,a0⟩:=ih L M J O ((E.Aa b2).length:Int) (((j+1)+1)+1) N (E.Aa b2) asm rfl kn
   refine ch a0 ?_
   refine bu ad 1 ?_
   exact Ag ⟨[(ad+1)],[],[],[]⟩ (⟨_,rfl,kn,kn⟩)
  refine AH (o-10) 19 ?_
  refine bu (j+1) 2 ?_
  refine bu ((j+1)+2) 1 ?_
  refine B8 1 ln ?_
  refine el (j':=1) rfl ?_
  obtain ⟨_,⟨ae,rfl,c7,cf⟩,bS⟩:=ih L M J O ((E.Aa b2).length:Int) (((j+1)+2)+1) N (E.Aa b2) asm rfl kn
  refine ch bS ?_
  refine bu ae 1 ?_
  exact Ag ⟨[(ae+1)],[],[],[]⟩ (⟨_,rfl,kn,kn⟩)
 ·obtain ⟨rfl,rfl,rfl,rfl,rfl,k1,H,t1,I,C,B,L,M,J,O,N,b2,k3,o3,t3,v3,s3,b3,rfl,h1,h2,h3⟩:=hv;simp only [lC,lN]at Q;have U:=n3 (x:=.node k1 H t1 I C B) (y:=.node L M J O N b2) (z:=.node k3 o3 t3 v3 s3 b3);have e4:=g3 (x:=.node k1 H t1 I C B) (y:=.node L M J O N b2) (z:=.node k3 o3 t3 v3 s3 b3);have P:TL Δ [.node k1 H t1 I C B,.node L M J O N b2,.node k3 o3 t3 v3 s3 b3]:=R.args
  refine .of (t:=Lu) rfl ?_
  conv=>arg 3;reduce
  refine Az 6 1 ?_
  refine Az 6 2 ?_
  refine Az 6 3 ?_
  refine Az 6 4 ?_
  refine Az 6 5 ?_
  refine AH 6 6 ?_
  refine BB ln 3 ?_
  refine BB 0 0 ?_
  refine BB 0 0 ?_
  refine seY [] [] ?_
  refine AH ln 3 ?_
  refine bu q 1 ?_
  refine B8 0 ln ?_
  refine el (j':=0) rfl ?_
  refine BB 0 0 ?_
  obtain ⟨_,⟨av,rfl,cu,cC⟩,bG⟩:=ih k1 H t1 I ((E.Aa B).length:Int) (q+1) C (E.Aa B) asm rfl kn
  refine ch bG ?_
  refine bu av 3 ?_
  refine B8 1 ln ?_
  refine el (j':=1) rfl ?_
  obtain ⟨_,⟨ak,rfl,cg,cv⟩,bL⟩:=ih L M J O ((E.Aa b2).length:Int) (av+3) N (E.Aa b2) asm rfl kn
  refine ch bL ?_
  refine bu ak 3 ?_
  refine B8 2 ln ?_
  refine el (j':=2) rfl ?_
  obtain ⟨_,⟨ac,rfl,cQ,cW⟩,bw⟩:=ih k3 o3 t3 v3 ((E.Aa b3).length:Int) (ak+3) s3 (E.Aa b3) asm rfl kn
  refine ch bw ?_
  refine bu ac 1 ?_
  exact Ag ⟨[(ac+1)],[],[],[]⟩ (⟨_,rfl,kn,kn⟩)
 ·obtain ⟨rfl,rfl,rfl,rfl,hs,k1,H,t1,I,C,B,ii,rfl,r1,r2,hg,h1⟩:=hv;simp only [lC,lN]at Q;have U:=n1 (x:=.node k1 H t1 I C B);have e4:=g1 (x:=.node k1 H t1 I C B);have P:TL Δ [.node k1 H t1 I C B]:=R.args;have aq:=Nm.len (s:=s) asm
  refine .of (t:=Lu) rfl ?_
  conv=>arg 3;reduce
  refine Az 7 1 ?_
  refine Az 7 2 ?_
  refine Az 7 3 ?_
  refine Az 7 4 ?_
  refine Az 7 5 ?_
  refine Az 7 6 ?_
  refine AH 7 7 ?_
  obtain ⟨_,rfl,aZ⟩:=FU s (by first|assumption|decide)
  refine ch aZ ?_
  refine sl s ?_
  refine bu q 64 ?_
  refine BB ln 1 ?_
  refine BB 0 0 ?_
  refine BB 0 0 ?_
  refine AH ln 1 ?_
  refine B8 0 ln ?_
  refine el (j':=0) rfl ?_
  refine bu (q+64) 1 ?_
  refine BB 0 0 ?_
  obtain ⟨_,⟨Z,rfl,cP,c4⟩,a5⟩:=ih k1 H t1 I ((E.Aa B).length:Int) ((q+64)+1) C (E.Aa B) asm rfl kn
  refine ch a5 ?_
  refine bu Z 1 ?_
  exact Ag ⟨[(Z+1)],[],[],[]⟩ (⟨_,rfl,kn,kn⟩)
 ·obtain ⟨rfl,rfl,rfl,rfl,rfl,k1,H,t1,I,C,B,L,M,J,O,N,b2,ii,rfl,rfl,hg,h1,h2⟩:=hv;simp only [lC,lN]at Q;have U:=n2 (x:=.node k1 H t1 I C B) (y:=.node L M J O N b2);have e4:=g2 (x:=.node k1 H t1 I C B) (y:=.node L M J O N b2);have P:TL Δ [.node k1 H t1 I C B,.node L M J O N b2]:=R.args;have aq:=Nm.len (s:=[104]) (by decide)
  refine .of (t:=Lu) rfl ?_
  conv=>arg 3;reduce
  refine Az 8 1 ?_
  refine Az 8 2 ?_
  refine Az 8 3 ?_
  refine Az 8 4 ?_
  refine Az 8 5 ?_
  refine Az 8 6 ?_
  refine Az 8 7 ?_
  refine AH 8 8 ?_
  refine BB ln ln ?_
  refine BB 0 0 ?_
  refine BB 0 0 ?_
  refine BB 0 0 ?_
  obtain ⟨_,rfl,bn⟩:=FU [104] (by first|assumption|decide)
  refine ch bn ?_
  refine sl [104] ?_
  refine bu q 64 ?_
  obtain ⟨_,⟨aK,rfl,cb,cp⟩,bo⟩:=HG @ih ln (q+64) (E.Aa [.node k1 H t1 I C B,.node L M J O N b2]) P rfl
  refine ch bo ?_
  exact Ag ⟨[aK],[],[],[]⟩ (⟨_,rfl,kn,kn⟩)
 ·obtain ⟨rfl,rfl,rfl,rfl,rfl,hs,⟨r1,r2⟩,hg⟩:=hv;simp only [lC,lN]at Q;have U:E.Ad []=0:=rfl;have P:TL Δ []:=R.args;have aq:=Nm.len (s:=s) asm
  refine .of (t:=Lu) rfl ?_
  conv=>arg 3;reduce
  refine Az 8 1 ?_
  refine Az 8 2 ?_
  refine Az 8 3 ?_
  refine Az 8 4 ?_
  refine Az 8 5 ?_
  refine Az 8 6 ?_
  refine Az 8 7 ?_
  refine AH 8 8 ?_
  refine BB ln ln ?_
  refine BB 0 0 ?_
  refine BB 0 0 ?_
  refine BB 0 0 ?_
  obtain ⟨_,rfl,a2⟩:=FU s (by first|assumption|decide)
  refine ch a2 ?_
  refine sl s ?_
  refine bu q 64 ?_
  obtain ⟨_,⟨aG,rfl,cM,ci⟩,bc⟩:=HG @ih ln (q+64) (E.Aa []) P rfl
  refine ch bc ?_
  exact Ag ⟨[aG],[],[],[]⟩ (⟨_,rfl,kn,kn⟩)
 ·obtain ⟨rfl,rfl,rfl,rfl,hs,k1,H,t1,I,C,B,rfl,⟨r1,r2⟩,hg,h1⟩:=hv;simp only [lC,lN]at Q;have U:=n1 (x:=.node k1 H t1 I C B);have e4:=g1 (x:=.node k1 H t1 I C B);have P:TL Δ [.node k1 H t1 I C B]:=R.args;have aq:=Nm.len (s:=s) asm
  refine .of (t:=Lu) rfl ?_
  conv=>arg 3;reduce
  refine Az 8 1 ?_
  refine Az 8 2 ?_
  refine Az 8 3 ?_
  refine Az 8 4 ?_
  refine Az 8 5 ?_
  refine Az 8 6 ?_
  refine Az 8 7 ?_
  refine AH 8 8 ?_
  refine BB ln ln ?_
  refine BB 0 0 ?_
  refine BB 0 0 ?_
  refine BB 0 0 ?_
  obtain ⟨_,rfl,bb⟩:=FU s (by first|assumption|decide)
  refine ch bb ?_
  refine sl s ?_
  refine bu q 64 ?_
  obtain ⟨_,⟨aQ,rfl,c6,cY⟩,bx⟩:=HG @ih ln (q+64) (E.Aa [.node k1 H t1 I C B]) P rfl
  refine ch bx ?_
  exact Ag ⟨[aQ],[],[],[]⟩ (⟨_,rfl,kn,kn⟩)
theorem Dj:Ahx 97:=fun {Δ} {t} {a} k o ty v ln sz s A hT hA h=>Ano ((E.node k o ty v s a).high+1) k o ty v ln sz s A hT hA ⟨h.1,h.2.1,h.2.2,Nat.lt_succ_self _⟩
def AlJ (N:Nat):Prop:=∀(k o:Int) (t b:Int) (R L:Int) (Q M:Int) (C yk:Int) (A B:Int) (v z:Int) (j q I:Int) (nm P x:List Nat) (X Y:Rs) (H O:Rs) (U:x=[]) (h:o=0/\b=0/\yk=0/\A=0/\B=0/\v=0/\z=0/\j=0/\q=0:=by exact kn),Ok trees N ⟨[k,o,t,b,R,L,Q,M,C,yk,A,B,v,z,j,q,I],[nm,P,x],[X,Y,H,O],[]⟩ fun J=>(J=(0,v0))
theorem AnX:AlJ 88:=by
 intro k o t b Q O M J H yk A B v z j q I nm L x X Y N P C h
 refine .of (t:=AeF) rfl ?_
 conv=>arg 3;reduce
 refine AL o 0 ?_
 refine AL b 0 ?_
 refine AL yk 0 ?_
 refine AL A 0 ?_
 refine AL B 0 ?_
 refine KR x ?_
 refine AL v 0 ?_
 refine AL z 0 ?_
 refine AL j 0 ?_
 refine AL q 0 ?_
 exact Ag v0 (rfl)
def AlI (N:Nat):Prop:=∀(k o:Int) (t b:Int) (R L:Int) (Q M:Int) (C yk:Int) (A B:Int) (v z:Int) (j q I:Int) (nm P x:List Nat) (X Y:Rs) (H O:Rs) (U:x=[]) (h:o=0/\t=0/\b=0/\yk=0/\A=0/\B=0/\v=0/\z=0/\j=0/\q=0:=by exact kn),Ok trees N ⟨[k,o,t,b,R,L,Q,M,C,yk,A,B,v,z,j,q,I],[nm,P,x],[X,Y,H,O],[]⟩ fun J=>(J=(0,v0))
theorem AnW:AlI 89:=by
 intro k o t b Q O M J H yk A B v z j q I nm L x X Y N P C h
 refine .of (t:=AeE) rfl ?_
 conv=>arg 3;reduce
 refine AL o 0 ?_
 refine AL t 0 ?_
 refine AL b 0 ?_
 refine AL yk 0 ?_
 refine AL A 0 ?_
 refine AL B 0 ?_
 refine KR x ?_
 refine AL v 0 ?_
 refine AL z 0 ?_
 refine AL j 0 ?_
 refine AL q 0 ?_
 exact Ag v0 (rfl)
def AlH (N:Nat):Prop:=∀(k o:Int) (t b:Int) (R H:Int) (P J:Int) (v yk:Int) (M Q:Int) (x I:Int) (j q A:Int) (nm O C:List Nat) (X Y:Rs) (z L:Rs) (h:o=0/\t=0/\b=0/\j=0/\q=0:=by exact kn),Ok trees N ⟨[k,o,t,b,R,H,P,J,v,yk,M,Q,x,I,j,q,A],[nm,O,C],[X,Y,z,L],[]⟩ fun B=>(B=(0,v0))
theorem AnV:AlH 90:=by
 intro k o t b P N J C v yk H L x B j q z nm I A X Y M O h
 refine .of (t:=AeD) rfl ?_
 conv=>arg 3;reduce
 refine AL o 0 ?_
 refine AL t 0 ?_
 refine AL b 0 ?_
 refine AL j 0 ?_
 refine AL q 0 ?_
 exact Ag v0 (rfl)
def AlG (N:Nat):Prop:=∀(k o:Int) (t b:Int) (R L:Int) (Q M:Int) (C yk:Int) (z A:Int) (q x:Int) (j B I:Int) (nm P v:List Nat) (X Y:Rs) (H O:Rs) (V:nm=[]) (U:v=[]) (h:o=0/\t=0/\b=0/\yk=0/\z=0/\A=0/\q=0/\x=0:=by exact kn),Ok trees N ⟨[k,o,t,b,R,L,Q,M,C,yk,z,A,q,x,j,B,I],[nm,P,v],[X,Y,H,O],[]⟩ fun J=>(J=(0,v0))
theorem AnU:AlG 91:=by
 intro k o t b R P N L I yk x z j v A H J nm M q X Y O Q C B h
 refine .of (t:=AeC) rfl ?_
 conv=>arg 3;reduce
 refine AL o 0 ?_
 refine AL t 0 ?_
 refine AL b 0 ?_
 refine KR nm ?_
 refine AL yk 0 ?_
 refine AL x 0 ?_
 refine AL z 0 ?_
 refine KR q ?_
 refine AL j 0 ?_
 refine AL v 0 ?_
 exact Ag v0 (rfl)
def AlF (N:Nat):Prop:=∀(k o:Int) (t b:Int) (R L:Int) (Q M:Int) (C yk:Int) (A B:Int) (v z:Int) (q j I:Int) (nm P x:List Nat) (X Y:Rs) (H O:Rs) (V:nm=[]) (U:x=[]) (h:o=0/\t=0/\yk=0/\A=0/\B=0/\v=0/\z=0/\j=0:=by exact kn),Ok trees N ⟨[k,o,t,b,R,L,Q,M,C,yk,A,B,v,z,q,j,I],[nm,P,x],[X,Y,H,O],[]⟩ fun J=>(J=(0,v0))
theorem AnT:AlF 92:=by
 intro k o t b R P N L I yk z A q x B j J nm M v X Y O Q H C h
 refine .of (t:=AeB) rfl ?_
 conv=>arg 3;reduce
 refine AL o 0 ?_
 refine AL t 0 ?_
 refine KR nm ?_
 refine AL yk 0 ?_
 refine AL z 0 ?_
 refine AL A 0 ?_
 refine KR v ?_
 refine AL q 0 ?_
 refine AL x 0 ?_
 refine AL j 0 ?_
 exact Ag v0 (rfl)
def AlE (N:Nat):Prop:=∀(k o:Int) (t b:Int) (M A:Int) (J C:Int) (v yk:Int) (H L:Int) (x B:Int) (j q P:Int) (nm I z:List Nat) (X Y:Rs) (O R:Rs) (Z:nm=[]) (U:I=[]) (V:z=[]) (h:o=0/\t=0/\b=0/\M=0/\A=0/\J=0/\C=0/\v=0/\yk=0/\H=0/\L=0/\x=0/\B=0/\j=0/\q=0:=by exact kn),Ok trees N ⟨[k,o,t,b,M,A,J,C,v,yk,H,L,x,B,j,q,P],[nm,I,z],[X,Y,O,R],[]⟩ fun Q=>(Q=(0,v0))
theorem Ady:AlE 93:=by
 intro k o t b M L I B v yk C J x A j q Q nm H z X Y R U P O N h
 refine .of (t:=AeA) rfl ?_
 conv=>arg 3;reduce
 refine AL o 0 ?_
 refine AL t 0 ?_
 refine AL b 0 ?_
 refine KR nm ?_
 refine AL M 0 ?_
 refine AL L 0 ?_
 refine AL I 0 ?_
 refine KR H ?_
 refine AL B 0 ?_
 refine AL v 0 ?_
 refine AL yk 0 ?_
 refine AL C 0 ?_
 refine AL J 0 ?_
 refine KR z ?_
 refine AL x 0 ?_
 refine AL A 0 ?_
 refine AL j 0 ?_
 refine AL q 0 ?_
 exact Ag v0 (rfl)
def AlD (N:Nat):Prop:=∀(k o:Int) (t b:Int) (M A:Int) (J C:Int) (v yk:Int) (H L:Int) (x B:Int) (j q P:Int) (nm I z:List Nat) (X Y:Rs) (O R:Rs) (Z:nm=[]) (U:I=[]) (V:z=[]) (h:t=0/\b=0/\M=0/\A=0/\J=0/\C=0/\v=0/\yk=0/\H=0/\L=0/\x=0/\B=0/\j=0/\q=0:=by exact kn),Ok trees N ⟨[k,o,t,b,M,A,J,C,v,yk,H,L,x,B,j,q,P],[nm,I,z],[X,Y,O,R],[]⟩ fun Q=>(Q=(0,v0))
theorem AnS:AlD 94:=by
 intro k o t b M L I B v yk C J x A j q Q nm H z X Y R U P O N h
 refine .of (t:=Ae9) rfl ?_
 conv=>arg 3;reduce
 refine AL t 0 ?_
 refine AL b 0 ?_
 refine KR nm ?_
 refine AL M 0 ?_
 refine AL L 0 ?_
 refine AL I 0 ?_
 refine KR H ?_
 refine AL B 0 ?_
 refine AL v 0 ?_
 refine AL yk 0 ?_
 refine AL C 0 ?_
 refine AL J 0 ?_
 refine KR z ?_
 refine AL x 0 ?_
 refine AL A 0 ?_
 refine AL j 0 ?_
 refine AL q 0 ?_
 exact Ag v0 (rfl)
def AlC (N:Nat):Prop:=∀(k o:Int) (t b:Int) (R H:Int) (P J:Int) (v yk:Int) (M Q:Int) (x I:Int) (j q A:Int) (nm O C:List Nat) (X Y:Rs) (z L:Rs) (h:t=0/\b=0/\j=0/\q=0:=by exact kn),Ok trees N ⟨[k,o,t,b,R,H,P,J,v,yk,M,Q,x,I,j,q,A],[nm,O,C],[X,Y,z,L],[]⟩ fun B=>(B=(0,v0))
theorem Ak3:AlC 95:=by
 intro k o t b P N J C v yk H L x B j q z nm I A X Y M O h
 refine .of (t:=Ae8) rfl ?_
 conv=>arg 3;reduce
 refine AL t 0 ?_
 refine AL b 0 ?_
 refine AL j 0 ?_
 refine AL q 0 ?_
 exact Ag v0 (rfl)
def AlB (N:Nat):Prop:=∀(k o:Int) (t b:Int) (R L:Int) (Q M:Int) (C yk:Int) (A B:Int) (v z:Int) (j q I:Int) (nm P x:List Nat) (X Y:Rs) (H O:Rs) (U:x=[]) (h:t=0/\b=0/\yk=0/\A=0/\B=0/\v=0/\z=0/\j=0/\q=0:=by exact kn),Ok trees N ⟨[k,o,t,b,R,L,Q,M,C,yk,A,B,v,z,j,q,I],[nm,P,x],[X,Y,H,O],[]⟩ fun J=>(J=(0,v0))
theorem AnR:AlB 96:=by
 intro k o t b Q O M J H yk A B v z j q I nm L x X Y N P C h
 refine .of (t:=Ae7) rfl ?_
 conv=>arg 3;reduce
 refine AL t 0 ?_
 refine AL b 0 ?_
 refine AL yk 0 ?_
 refine AL A 0 ?_
 refine AL B 0 ?_
 refine KR x ?_
 refine AL v 0 ?_
 refine AL z 0 ?_
 refine AL j 0 ?_
 refine AL q 0 ?_
 exact Ag v0 (rfl)
def IX (N n:Nat):Prop:=∀{l:List S} (ln j:Int) (v:List Nat) (L:Rs) (A:PL l) (z:L=S.Aa l) (h:ln=L.length/\ln<=200000/\0<=j/\j+400*S.Ad l<=999680/\v.length+2*(S.Ay l+1)<=62/\S.Ay l<n),Ok trees N ⟨[ln,j],[v],[L],[]⟩ fun x=>(∃(q:Int),x=(0,(⟨[q],[],[],[]⟩:Aj))/\(q<=j+67+400*S.Ad l)/\(j<=q))
def Ahy (N:Nat):Prop:=∀{l:List S} (ln j:Int) (v:List Nat) (L:Rs) (A:PL l) (z:L=S.Aa l) (h:ln=L.length/\ln<=200000/\0<=j/\j+400*S.Ad l<=999680/\v.length+2*(S.Ay l+1)<=62:=by exact kn),Ok trees N ⟨[ln,j],[v],[L],[]⟩ fun x=>(∃(q:Int),x=(0,(⟨[q],[],[],[]⟩:Aj))/\(q<=j+67+400*S.Ad l)/\(j<=q))
theorem IX.of {N n:Nat} (H:Ahy N):IX N n:=fun {l} ln sz ind L hO hLs h=>H ln sz ind L hO hLs (by have:=h;omega)
def AoD (ab N:Nat):Prop:=∀{m:Nat} (ad:IX ab m) {M A:List E} {j el:List S} (k o:Int) (t b:Int) (P O:Int) (J C:Int) (Z yk:Int) (H L:Int) (z yl:Int) (Q R v:Int) (nm I:List Nat) (B q:List Nat) (X Y:Rs) (U V:Rs) (hS:PS (.node k o t b nm (.node P O J C I M) (.node yk H L z B A) j el)) (hX:X=E.Aa M) (hY:Y=E.Aa A) (hB:U=S.Aa j) (hE:V=S.Aa el) (h:Z=X.length/\yl=Y.length/\Q=U.length/\R=V.length/\0<=v/\v+400*(1+(E.node P O J C I M).nodes+(E.node yk H L z B A).nodes+S.Ad j+S.Ad el)<=1000000/\q.length+2*(S.Ay j+1)<=62/\q.length+2*(S.Ay el+1)<=62/\S.Ay j<m/\S.Ay el<m:=by exact kn),Ok trees N ⟨[k,o,t,b,P,O,J,C,Z,yk,H,L,z,yl,Q,R,v],[nm,I,B,q],[X,Y,U,V],[]⟩ fun zz=>(∃(x:Int),zz=(0,(⟨[x],[],[],[]⟩:Aj))/\(x+66<=v+400*(1+(E.node P O J C I M).nodes+(E.node yk H L z B A).nodes+S.Ad j+S.Ad el))/\(v<=x))
theorem AnY:AoD 84 87:=by
 intro m aj v V bo el k o t b L I J C A yk yo Z yw B N O j nm H yn au X Y Bo El hS hX hY hB hE h
 subst hX;subst hY;subst hB;subst hE;have dW:=S.len bo;have dY:=S.len el;have dX:=S.A0 bo;have dZ:=S.A0 el;have U:=h;simp only [E.A0,S.A0]at U
 obtain ⟨⟨Δ,M⟩,d0,d1⟩:=hS.inv;rcases M with M|M|M|M|M|M|⟨rfl|rfl,M⟩|⟨rfl|rfl,M⟩|M|M|M
 ·obtain ⟨rfl,rfl,rfl,z,rfl,rfl,Q,r1,r2,R,_⟩:=M;obtain ⟨rfl,rfl,rfl,rfl,rfl,rfl⟩:=z;have ez:(E.node 0 0 0 0 [] []).nodes=0:=rfl;have es:S.Ad []=0:=rfl;have ai:=Q.len;simp only [lN]at U
  refine .of (t:=I0) rfl ?_
  conv=>arg 3;reduce
  refine AH 1 1 ?_
  obtain ⟨_,rfl,G1⟩:=AnX 1 0 t 0 L I J C A 0 0 0 0 B N O j nm H [] (E.Aa v) (E.Aa []) (S.Aa []) (S.Aa []) rfl
  refine ch G1 ?_
  refine bu j 4 ?_
  obtain ⟨_,rfl,G2⟩:=FU nm Q
  refine ch G2 ?_
  refine sl nm ?_
  refine bu (j+4) 64 ?_
  refine bu ((j+4)+64) 1 ?_
  refine Hl (t-1) 0 ?_
  refine IG (t-1) 3 ?_
  refine eq (t-1) 0 (fun t3=>?_) fun t3=>?_
  ·refine bu (((j+4)+64)+1) 3 ?_
   refine bu ((((j+4)+64)+1)+3) 3 ?_
   obtain ⟨_,⟨aQ,rfl,dC,dJ⟩,G4⟩:=Dj L I J C A (((((j+4)+64)+1)+3)+3) H (E.Aa v) asm rfl
   refine ch G4 ?_
   exact Ag ⟨[aQ],[],[],[]⟩ (⟨_,rfl,kn,kn⟩)
  refine eq (t-1) 1 (fun t5=>?_) fun t5=>?_
  ·refine bu (((j+4)+64)+1) 3 ?_
   refine bu ((((j+4)+64)+1)+3) 3 ?_
   obtain ⟨_,⟨aR,rfl,dl,dy⟩,G6⟩:=Dj L I J C A (((((j+4)+64)+1)+3)+3) H (E.Aa v) asm rfl
   refine ch G6 ?_
   exact Ag ⟨[aR],[],[],[]⟩ (⟨_,rfl,kn,kn⟩)
  refine AH (t-1) 2 ?_
  refine bu (((j+4)+64)+1) 4 ?_
  refine bu ((((j+4)+64)+1)+4) 3 ?_
  obtain ⟨_,⟨aP,rfl,dG,dt⟩,G7⟩:=Dj L I J C A (((((j+4)+64)+1)+4)+3) H (E.Aa v) asm rfl
  refine ch G7 ?_
  exact Ag ⟨[aP],[],[],[]⟩ (⟨_,rfl,kn,kn⟩)
 ·obtain ⟨rfl,rfl,rfl,rfl,z,rfl,rfl,Q,u,R,_⟩:=M;obtain ⟨rfl,rfl,rfl,rfl,rfl,rfl⟩:=z;have ez:(E.node 0 0 0 0 [] []).nodes=0:=rfl;have es:S.Ad []=0:=rfl;have ai:=Q.len;simp only [lN]at U
  refine .of (t:=I0) rfl ?_
  conv=>arg 3;reduce
  refine Az 2 1 ?_
  refine AH 2 2 ?_
  obtain ⟨_,rfl,G8⟩:=AnW 2 0 0 0 L I J C A 0 0 0 0 B N O j nm H [] (E.Aa v) (E.Aa []) (S.Aa []) (S.Aa []) rfl
  refine ch G8 ?_
  obtain ⟨_,rfl,G9⟩:=FU nm Q
  refine ch G9 ?_
  refine sl nm ?_
  refine bu j 64 ?_
  refine bu (j+64) 3 ?_
  obtain ⟨_,⟨aK,rfl,cR,c3⟩,cd⟩:=Dj L I J C A ((j+64)+3) H (E.Aa v) asm rfl
  refine ch cd ?_
  exact Ag ⟨[aK],[],[],[]⟩ (⟨_,rfl,kn,kn⟩)
 ·obtain ⟨rfl,rfl,rfl,rfl,rfl,rfl,Q,u,R,hy,_,_⟩:=M;have ez:(E.node 0 0 0 0 [] []).nodes=0:=rfl;have es:S.Ad []=0:=rfl;have ai:=Q.len;simp only [lN]at U
  refine .of (t:=I0) rfl ?_
  conv=>arg 3;reduce
  refine Az 3 1 ?_
  refine Az 3 2 ?_
  refine AH 3 3 ?_
  obtain ⟨_,rfl,ce⟩:=AnV 3 0 0 0 L I J C A yk yo Z yw B N O j nm H yn (E.Aa v) (E.Aa V) (S.Aa []) (S.Aa [])
  refine ch ce ?_
  obtain ⟨_,rfl,bO⟩:=FU nm Q
  refine ch bO ?_
  refine sl nm ?_
  refine bu j 64 ?_
  refine bu (j+64) 1 ?_
  obtain ⟨_,⟨ag,rfl,cS,cT⟩,bQ⟩:=Dj L I J C A ((j+64)+1) H (E.Aa v) asm rfl
  refine ch bQ ?_
  refine bu ag 1 ?_
  refine bu (ag+1) 3 ?_
  obtain ⟨_,⟨az,rfl,cV,c5⟩,b3⟩:=Dj yk yo Z yw B ((ag+1)+3) yn (E.Aa V) asm rfl
  refine ch b3 ?_
  exact Ag ⟨[az],[],[],[]⟩ (⟨_,rfl,kn,kn⟩)
 ·obtain ⟨rfl,rfl,rfl,rfl,rfl,Q,ho,R,hy,_,_⟩:=M;have ez:(E.node 0 0 0 0 [] []).nodes=0:=rfl;have es:S.Ad []=0:=rfl;have ai:=Q.len;simp only [lN]at U
  refine .of (t:=I0) rfl ?_
  conv=>arg 3;reduce
  refine Az 4 1 ?_
  refine Az 4 2 ?_
  refine Az 4 3 ?_
  refine Az 4 5 ?_
  refine Az 4 6 ?_
  refine Az 4 7 ?_
  refine Az 4 8 ?_
  refine Az 4 9 ?_
  refine Az 4 10 ?_
  refine Az 4 11 ?_
  refine AH 4 4 ?_
  obtain ⟨_,rfl,ci⟩:=Ak3 4 o 0 0 L I J C A yk yo Z yw B N O j nm H yn (E.Aa v) (E.Aa V) (S.Aa []) (S.Aa [])
  refine ch ci ?_
  refine bu j 7 ?_
  obtain ⟨_,rfl,a5⟩:=FU nm Q
  refine ch a5 ?_
  refine sl nm ?_
  refine bu (j+7) 64 ?_
  refine bu ((j+7)+64) 1 ?_
  obtain ⟨_,⟨q,rfl,di,cI⟩,bz⟩:=Dj L I J C A (((j+7)+64)+1) H (E.Aa v) asm rfl
  refine ch bz ?_
  refine bu q 1 ?_
  refine bu (q+1) 1 ?_
  refine eq o 10 (fun b4=>?_) fun b4=>?_
  ·refine bu ((q+1)+1) 3 ?_
   refine bu (((q+1)+1)+3) 1 ?_
   obtain ⟨_,⟨ay,rfl,cw,cv⟩,bW⟩:=Dj yk yo Z yw B ((((q+1)+1)+3)+1) yn (E.Aa V) asm rfl
   refine ch bW ?_
   exact Ag ⟨[ay],[],[],[]⟩ (⟨_,rfl,kn,kn⟩)
  refine eq o 22 (fun aW=>?_) fun aW=>?_
  ·refine bu ((q+1)+1) 3 ?_
   refine bu (((q+1)+1)+3) 1 ?_
   obtain ⟨_,⟨aG,rfl,cO,c2⟩,bc⟩:=Dj yk yo Z yw B ((((q+1)+1)+3)+1) yn (E.Aa V) asm rfl
   refine ch bc ?_
   exact Ag ⟨[aG],[],[],[]⟩ (⟨_,rfl,kn,kn⟩)
  refine eq o 23 (fun bG=>?_) fun bG=>?_
  ·refine bu ((q+1)+1) 3 ?_
   refine bu (((q+1)+1)+3) 1 ?_
   obtain ⟨_,⟨aB,rfl,cM,cZ⟩,bk⟩:=Dj yk yo Z yw B ((((q+1)+1)+3)+1) yn (E.Aa V) asm rfl
   refine ch bk ?_
   exact Ag ⟨[aB],[],[],[]⟩ (⟨_,rfl,kn,kn⟩)
  refine eq o 17 (fun aX=>?_) fun aX=>?_
  ·refine bu ((q+1)+1) 3 ?_
   refine bu (((q+1)+1)+3) 1 ?_
   obtain ⟨_,⟨aE,rfl,cP,cF⟩,bZ⟩:=Dj yk yo Z yw B ((((q+1)+1)+3)+1) yn (E.Aa V) asm rfl
   refine ch bZ ?_
   exact Ag ⟨[aE],[],[],[]⟩ (⟨_,rfl,kn,kn⟩)
  refine eq o 18 (fun b7=>?_) fun b7=>?_
  ·refine bu ((q+1)+1) 2 ?_
   refine bu (((q+1)+1)+2) 1 ?_
   obtain ⟨_,⟨ax,rfl,c8,dh⟩,bC⟩:=Dj yk yo Z yw B ((((q+1)+1)+2)+1) yn (E.Aa V) asm rfl
   refine ch bC ?_
   exact Ag ⟨[ax],[],[],[]⟩ (⟨_,rfl,kn,kn⟩)
  refine AH o 19 ?_
  refine bu ((q+1)+1) 3 ?_
  refine bu (((q+1)+1)+3) 1 ?_
  obtain ⟨_,⟨aD,rfl,cA,cW⟩,b0⟩:=Dj yk yo Z yw B ((((q+1)+1)+3)+1) yn (E.Aa V) asm rfl
  refine ch b0 ?_
  exact Ag ⟨[aD],[],[],[]⟩ (⟨_,rfl,kn,kn⟩)
 ·obtain ⟨rfl,rfl,rfl,rfl,rfl,z,R,_⟩:=M;obtain ⟨rfl,rfl,rfl,rfl,rfl,rfl⟩:=z;have ez:(E.node 0 0 0 0 [] []).nodes=0:=rfl;have es:S.Ad []=0:=rfl;simp only [lN]at U
  refine .of (t:=I0) rfl ?_
  conv=>arg 3;reduce
  refine Az 5 1 ?_
  refine Az 5 2 ?_
  refine Az 5 3 ?_
  refine AH 5 5 ?_
  obtain ⟨_,rfl,bJ⟩:=AnU 5 0 0 0 L I J C A 0 0 0 0 B N O j [] H [] (E.Aa v) (E.Aa []) (S.Aa bo) (S.Aa el) rfl rfl
  refine ch bJ ?_
  refine bu j 3 ?_
  obtain ⟨_,⟨ak,rfl,cN,cK⟩,ct⟩:=Dj L I J C A (j+3) H (E.Aa v) asm rfl
  refine ch ct ?_
  refine bu ak 1 ?_
  obtain ⟨_,⟨ah,rfl,dd,dc⟩,bP⟩:=aj N (ak+1) au (S.Aa bo) asm rfl kn
  refine ch bP ?_
  refine gt O 0 (fun a7=>?_) fun a7=>?_
  ·refine bu ah 6 ?_
   obtain ⟨_,⟨aJ,rfl,c4,cC⟩,bS⟩:=aj O (ah+6) au (S.Aa el) asm rfl kn
   refine ch bS ?_
   exact Ag ⟨[aJ],[],[],[]⟩ (⟨_,rfl,kn,kn⟩)
  exact Ag ⟨[ah],[],[],[]⟩ (⟨_,rfl,kn,kn⟩)
 ·obtain ⟨rfl,rfl,rfl,rfl,z,rfl,R,_,b1,b2⟩:=M;obtain ⟨rfl,rfl,rfl,rfl,rfl,rfl⟩:=z;have ez:(E.node 0 0 0 0 [] []).nodes=0:=rfl;have es:S.Ad []=0:=rfl;simp only [lN]at U
  refine .of (t:=I0) rfl ?_
  conv=>arg 3;reduce
  refine Az 6 1 ?_
  refine Az 6 2 ?_
  refine Az 6 3 ?_
  refine Az 6 5 ?_
  refine AH 6 6 ?_
  obtain ⟨_,rfl,a1⟩:=AnT 6 0 0 b L I J C A 0 0 0 0 B N O j [] H [] (E.Aa v) (E.Aa []) (S.Aa bo) (S.Aa []) rfl rfl
  refine ch a1 ?_
  refine bu j 6 ?_
  obtain ⟨_,⟨af,rfl,cD,cH⟩,bl⟩:=Dj L I J C A (j+6) H (E.Aa v) asm rfl
  refine ch bl ?_
  refine CO b (-9223372036854775808) ?_
  refine Er b 9223372036854775807 ?_
  refine bu af 6 ?_
  refine bu (af+6) 21 ?_
  refine bu ((af+6)+21) 1 ?_
  obtain ⟨_,⟨aI,rfl,cz,cB⟩,be⟩:=aj N (((af+6)+21)+1) au (S.Aa bo) asm rfl kn
  refine ch be ?_
  exact Ag ⟨[aI],[],[],[]⟩ (⟨_,rfl,kn,kn⟩)
 ·obtain ⟨rfl,rfl,rfl,rfl,P,z,rfl,rfl⟩:=M;obtain ⟨rfl,rfl,rfl,rfl,rfl,rfl⟩:=z;obtain ⟨rfl,rfl,rfl,rfl,rfl,rfl⟩:=P;have ez:(E.node 0 0 0 0 [] []).nodes=0:=rfl;have es:S.Ad []=0:=rfl;simp only [lN]at U
  refine .of (t:=I0) rfl ?_
  conv=>arg 3;reduce
  refine Az 7 1 ?_
  refine Az 7 2 ?_
  refine Az 7 3 ?_
  refine Az 7 5 ?_
  refine Az 7 6 ?_
  refine AH 7 7 ?_
  obtain ⟨_,rfl,cf⟩:=Ady 7 0 0 0 0 0 0 0 A 0 0 0 0 B N O j [] [] [] (E.Aa []) (E.Aa []) (S.Aa []) (S.Aa []) rfl rfl rfl
  refine ch cf ?_
  refine Hl (7-7) 0 ?_
  refine IG (7-7) 4 ?_
  refine AH (7-7) 0 ?_
  refine bu j 5 ?_
  exact Ag ⟨[(j+5)],[],[],[]⟩ (⟨_,rfl,kn,kn⟩)
 ·obtain ⟨rfl,rfl,rfl,rfl,P,z,rfl,rfl⟩:=M;obtain ⟨rfl,rfl,rfl,rfl,rfl,rfl⟩:=z;obtain ⟨rfl,rfl,rfl,rfl,rfl,rfl⟩:=P;have ez:(E.node 0 0 0 0 [] []).nodes=0:=rfl;have es:S.Ad []=0:=rfl;simp only [lN]at U
  refine .of (t:=I0) rfl ?_
  conv=>arg 3;reduce
  refine Az 8 1 ?_
  refine Az 8 2 ?_
  refine Az 8 3 ?_
  refine Az 8 5 ?_
  refine Az 8 6 ?_
  refine Az 8 7 ?_
  refine AH 8 8 ?_
  obtain ⟨_,rfl,bt⟩:=Ady 8 0 0 0 0 0 0 0 A 0 0 0 0 B N O j [] [] [] (E.Aa []) (E.Aa []) (S.Aa []) (S.Aa []) rfl rfl rfl
  refine ch bt ?_
  refine Hl (8-7) 0 ?_
  refine IG (8-7) 4 ?_
  refine Az (8-7) 0 ?_
  refine AH (8-7) 1 ?_
  refine bu j 8 ?_
  exact Ag ⟨[(j+8)],[],[],[]⟩ (⟨_,rfl,kn,kn⟩)
 ·obtain ⟨rfl,rfl,rfl,rfl,P,z,rfl,rfl⟩:=M;obtain ⟨rfl,rfl,rfl,rfl,rfl,rfl⟩:=z;obtain ⟨rfl,rfl,rfl,rfl,rfl,rfl⟩:=P;have ez:(E.node 0 0 0 0 [] []).nodes=0:=rfl;have es:S.Ad []=0:=rfl;simp only [lN]at U
  refine .of (t:=I0) rfl ?_
  conv=>arg 3;reduce
  refine Az 9 1 ?_
  refine Az 9 2 ?_
  refine Az 9 3 ?_
  refine Az 9 5 ?_
  refine Az 9 6 ?_
  refine Az 9 7 ?_
  refine Az 9 8 ?_
  refine AH 9 9 ?_
  obtain ⟨_,rfl,a0⟩:=Ady 9 0 0 0 0 0 0 0 A 0 0 0 0 B N O j [] [] [] (E.Aa []) (E.Aa []) (S.Aa []) (S.Aa []) rfl rfl rfl
  refine ch a0 ?_
  refine Hl (9-7) 0 ?_
  refine IG (9-7) 4 ?_
  refine Az (9-7) 0 ?_
  refine Az (9-7) 1 ?_
  refine AH (9-7) 2 ?_
  refine bu j 6 ?_
  exact Ag ⟨[(j+6)],[],[],[]⟩ (⟨_,rfl,kn,kn⟩)
 ·obtain ⟨rfl,rfl,rfl,rfl,P,z,rfl,rfl⟩:=M;obtain ⟨rfl,rfl,rfl,rfl,rfl,rfl⟩:=z;obtain ⟨rfl,rfl,rfl,rfl,rfl,rfl⟩:=P;have ez:(E.node 0 0 0 0 [] []).nodes=0:=rfl;have es:S.Ad []=0:=rfl;simp only [lN]at U
  refine .of (t:=I0) rfl ?_
  conv=>arg 3;reduce
  refine Az 10 1 ?_
  refine Az 10 2 ?_
  refine Az 10 3 ?_
  refine Az 10 5 ?_
  refine Az 10 6 ?_
  refine Az 10 7 ?_
  refine Az 10 8 ?_
  refine Az 10 9 ?_
  refine AH 10 10 ?_
  obtain ⟨_,rfl,cr⟩:=Ady 10 0 0 0 0 0 0 0 A 0 0 0 0 B N O j [] [] [] (E.Aa []) (E.Aa []) (S.Aa []) (S.Aa []) rfl rfl rfl
  refine ch cr ?_
  refine Hl (10-7) 0 ?_
  refine IG (10-7) 4 ?_
  refine Az (10-7) 0 ?_
  refine Az (10-7) 1 ?_
  refine Az (10-7) 2 ?_
  refine AH (10-7) 3 ?_
  refine bu j 7 ?_
  exact Ag ⟨[(j+7)],[],[],[]⟩ (⟨_,rfl,kn,kn⟩)
 ·obtain ⟨rfl,ho,rfl,rfl,rfl,P,z,rfl,rfl⟩:=M;obtain ⟨rfl,rfl,rfl,rfl,rfl,rfl⟩:=z;obtain ⟨rfl,rfl,rfl,rfl,rfl,rfl⟩:=P;have ez:(E.node 0 0 0 0 [] []).nodes=0:=rfl;have es:S.Ad []=0:=rfl;simp only [lN]at U
  refine .of (t:=I0) rfl ?_
  conv=>arg 3;reduce
  refine Az 11 1 ?_
  refine Az 11 2 ?_
  refine Az 11 3 ?_
  refine Az 11 5 ?_
  refine Az 11 6 ?_
  refine Az 11 7 ?_
  refine Az 11 8 ?_
  refine Az 11 9 ?_
  refine Az 11 10 ?_
  refine AH 11 11 ?_
  obtain ⟨_,rfl,bK⟩:=AnS 11 o 0 0 0 0 0 0 A 0 0 0 0 B N O j [] [] [] (E.Aa []) (E.Aa []) (S.Aa []) (S.Aa []) rfl rfl rfl
  refine ch bK ?_
  refine bu j 6 ?_
  refine Hl (o-1) 0 ?_
  refine IG (o-1) 2 ?_
  refine eq (o-1) 0 (fun cp=>?_) fun cp=>?_
  ·refine bu (j+6) 5 ?_
   exact Ag ⟨[((j+6)+5)],[],[],[]⟩ (⟨_,rfl,kn,kn⟩)
  refine AH (o-1) 1 ?_
  refine bu (j+6) 6 ?_
  exact Ag ⟨[((j+6)+6)],[],[],[]⟩ (⟨_,rfl,kn,kn⟩)
 ·obtain ⟨rfl,rfl,rfl,z,rfl,rfl,Q,u,w,ho,R,_⟩:=M;obtain ⟨rfl,rfl,rfl,rfl,rfl,rfl⟩:=z;have ez:(E.node 0 0 0 0 [] []).nodes=0:=rfl;have es:S.Ad []=0:=rfl;have ai:=Q.len;have e1:=n1 (x:=.node L I J C H v);have e4:=g1 (x:=.node L I J C H v);simp only [lN]at U
  refine .of (t:=I0) rfl ?_
  conv=>arg 3;reduce
  refine Az 12 1 ?_
  refine Az 12 2 ?_
  refine Az 12 3 ?_
  refine Az 12 5 ?_
  refine Az 12 6 ?_
  refine Az 12 7 ?_
  refine Az 12 8 ?_
  refine Az 12 9 ?_
  refine Az 12 10 ?_
  refine Az 12 11 ?_
  refine Az 12 4 ?_
  refine AH 12 12 ?_
  refine Az o 4 ?_
  obtain ⟨_,rfl,bH⟩:=AnR 12 o 0 0 L I J C A 0 0 0 0 B N O j nm H [] (E.Aa v) (E.Aa []) (S.Aa []) (S.Aa []) rfl
  refine ch bH ?_
  obtain ⟨_,rfl,aV⟩:=FU nm Q
  refine ch aV ?_
  refine sl nm ?_
  refine bu j 64 ?_
  refine bu (j+64) 3 ?_
  refine Hl (o-1) 0 ?_
  refine IG (o-1) 6 ?_
  refine eq (o-1) 0 (fun bU=>?_) fun bU=>?_
  ·refine bu ((j+64)+3) 6 ?_
   refine NM o 4 ?_
   refine ll A (E.Aa v) ?_
   refine ll B (E.Aa []) ?_
   refine dL [[.int .i64 L,.int .i64 I,.int .i64 J,.str H,.int .i32 C,.list 6 (E.Aa v)],[.int .i64 0,.int .i64 0,.int .i64 0,.str [],.int .i32 0,.list 6 (E.Aa [])]] (fun ao bh=>?_)
   have bI:=cL bh;try simp only [lA,lC,lN,lT']at bI
   refine ll 2 ao ?_
   refine fr ?_
   refine dL (ao.take (1:Int).toNat) (fun bi a4=>?_) (CE (pt 1 ao))
   have bj:=cL a4;try simp only [lA,lC,lN,lT']at bj
   obtain ⟨_,⟨aL,rfl,cY,cU⟩,a6⟩:=HG (IW.of (n:=10) @Dj) 1 (((j+64)+3)+6) bi R.V7 (by subst_vars;rfl)
   refine ch a6 ?_
   exact Ag ⟨[aL],[],[],[]⟩ (⟨_,rfl,kn,kn⟩)
  refine eq (o-1) 1 (fun bR=>?_) fun bR=>?_
  ·refine bu ((j+64)+3) 3 ?_
   refine NM o 4 ?_
   refine ll A (E.Aa v) ?_
   refine ll B (E.Aa []) ?_
   refine dL [[.int .i64 L,.int .i64 I,.int .i64 J,.str H,.int .i32 C,.list 6 (E.Aa v)],[.int .i64 0,.int .i64 0,.int .i64 0,.str [],.int .i32 0,.list 6 (E.Aa [])]] (fun aw cj=>?_)
   have bX:=cL cj;try simp only [lA,lC,lN,lT']at bX
   refine ll 2 aw ?_
   refine fr ?_
   refine dL (aw.take (1:Int).toNat) (fun bg bm=>?_) (CE (pt 1 aw))
   have bT:=cL bm;try simp only [lA,lC,lN,lT']at bT
   obtain ⟨_,⟨aM,rfl,cJ,cX⟩,bn⟩:=HG (IW.of (n:=10) @Dj) 1 (((j+64)+3)+3) bg R.V7 (by subst_vars;rfl)
   refine ch bn ?_
   exact Ag ⟨[aM],[],[],[]⟩ (⟨_,rfl,kn,kn⟩)
  refine eq (o-1) 2 (fun cu=>?_) fun cu=>?_
  ·refine bu ((j+64)+3) 3 ?_
   refine NM o 4 ?_
   refine ll A (E.Aa v) ?_
   refine ll B (E.Aa []) ?_
   refine dL [[.int .i64 L,.int .i64 I,.int .i64 J,.str H,.int .i32 C,.list 6 (E.Aa v)],[.int .i64 0,.int .i64 0,.int .i64 0,.str [],.int .i32 0,.list 6 (E.Aa [])]] (fun an b6=>?_)
   have b8:=cL b6;try simp only [lA,lC,lN,lT']at b8
   refine ll 2 an ?_
   refine fr ?_
   refine dL (an.take (1:Int).toNat) (fun bD bb=>?_) (CE (pt 1 an))
   have bV:=cL bb;try simp only [lA,lC,lN,lT']at bV
   obtain ⟨_,⟨aH,rfl,cG,c7⟩,bv⟩:=HG (IW.of (n:=10) @Dj) 1 (((j+64)+3)+3) bD R.V7 (by subst_vars;rfl)
   refine ch bv ?_
   exact Ag ⟨[aH],[],[],[]⟩ (⟨_,rfl,kn,kn⟩)
  refine eq (o-1) 3 (fun bY=>?_) fun bY=>?_
  ·refine bu ((j+64)+3) 7 ?_
   refine NM o 4 ?_
   refine ll A (E.Aa v) ?_
   refine ll B (E.Aa []) ?_
   refine dL [[.int .i64 L,.int .i64 I,.int .i64 J,.str H,.int .i32 C,.list 6 (E.Aa v)],[.int .i64 0,.int .i64 0,.int .i64 0,.str [],.int .i32 0,.list 6 (E.Aa [])]] (fun aq co=>?_)
   have a3:=cL co;try simp only [lA,lC,lN,lT']at a3
   refine ll 2 aq ?_
   refine fr ?_
   refine dL (aq.take (1:Int).toNat) (fun cg bL=>?_) (CE (pt 1 aq))
   have ba:=cL bL;try simp only [lA,lC,lN,lT']at ba
   obtain ⟨_,⟨aC,rfl,db,cy⟩,b9⟩:=HG (IW.of (n:=10) @Dj) 1 (((j+64)+3)+7) cg R.V7 (by subst_vars;rfl)
   refine ch b9 ?_
   exact Ag ⟨[aC],[],[],[]⟩ (⟨_,rfl,kn,kn⟩)
  refine eq (o-1) 4 (fun b5=>?_) fun b5=>?_
  ·refine bu ((j+64)+3) 4 ?_
   refine NM o 4 ?_
   refine ll A (E.Aa v) ?_
   refine ll B (E.Aa []) ?_
   refine dL [[.int .i64 L,.int .i64 I,.int .i64 J,.str H,.int .i32 C,.list 6 (E.Aa v)],[.int .i64 0,.int .i64 0,.int .i64 0,.str [],.int .i32 0,.list 6 (E.Aa [])]] (fun av cc=>?_)
   have bx:=cL cc;try simp only [lA,lC,lN,lT']at bx
   refine ll 2 av ?_
   refine fr ?_
   refine dL (av.take (1:Int).toNat) (fun bq bE=>?_) (CE (pt 1 av))
   have cq:=cL bE;try simp only [lA,lC,lN,lT']at cq
   obtain ⟨_,⟨aA,rfl,cQ,c1⟩,aY⟩:=HG (IW.of (n:=10) @Dj) 1 (((j+64)+3)+4) bq R.V7 (by subst_vars;rfl)
   refine ch aY ?_
   exact Ag ⟨[aA],[],[],[]⟩ (⟨_,rfl,kn,kn⟩)
  refine AH (o-1) 5 ?_
  refine bu ((j+64)+3) 3 ?_
  refine NM o 4 ?_
  refine ll A (E.Aa v) ?_
  refine ll B (E.Aa []) ?_
  refine dL [[.int .i64 L,.int .i64 I,.int .i64 J,.str H,.int .i32 C,.list 6 (E.Aa v)],[.int .i64 0,.int .i64 0,.int .i64 0,.str [],.int .i32 0,.list 6 (E.Aa [])]] (fun ap bw=>?_)
  have bB:=cL bw;try simp only [lA,lC,lN,lT']at bB
  refine ll 2 ap ?_
  refine fr ?_
  refine dL (ap.take (1:Int).toNat) (fun bN cb=>?_) (CE (pt 1 ap))
  have aZ:=cL cb;try simp only [lA,lC,lN,lT']at aZ
  obtain ⟨_,⟨aF,rfl,cx,cE⟩,bF⟩:=HG (IW.of (n:=10) @Dj) 1 (((j+64)+3)+3) bN R.V7 (by subst_vars;rfl)
  refine ch bF ?_
  exact Ag ⟨[aF],[],[],[]⟩ (⟨_,rfl,kn,kn⟩)
 ·obtain ⟨rfl,rfl,rfl,rfl,rfl,rfl,Q,u,R,hy,_,_⟩:=M;have ez:(E.node 0 0 0 0 [] []).nodes=0:=rfl;have es:S.Ad []=0:=rfl;have ai:=Q.len;have e1:=n2 (x:=.node L I J C H v) (y:=.node yk yo Z yw yn V);have e4:=g2 (x:=.node L I J C H v) (y:=.node yk yo Z yw yn V);simp only [lN]at U
  refine .of (t:=I0) rfl ?_
  conv=>arg 3;reduce
  refine Az 12 1 ?_
  refine Az 12 2 ?_
  refine Az 12 3 ?_
  refine Az 12 5 ?_
  refine Az 12 6 ?_
  refine Az 12 7 ?_
  refine Az 12 8 ?_
  refine Az 12 9 ?_
  refine Az 12 10 ?_
  refine Az 12 11 ?_
  refine Az 12 4 ?_
  refine AH 12 12 ?_
  refine AH 4 4 ?_
  obtain ⟨_,rfl,a2⟩:=Ak3 12 4 0 0 L I J C A yk yo Z yw B N O j nm H yn (E.Aa v) (E.Aa V) (S.Aa []) (S.Aa [])
  refine ch a2 ?_
  obtain ⟨_,rfl,br⟩:=FU nm Q
  refine ch br ?_
  refine sl nm ?_
  refine bu j 64 ?_
  refine bu (j+64) 3 ?_
  refine Hl (4-1) 0 ?_
  refine IG (4-1) 6 ?_
  refine Az (4-1) 0 ?_
  refine Az (4-1) 1 ?_
  refine Az (4-1) 2 ?_
  refine AH (4-1) 3 ?_
  refine bu ((j+64)+3) 7 ?_
  refine BB 4 4 ?_
  refine ll A (E.Aa v) ?_
  refine ll B (E.Aa V) ?_
  refine dL [[.int .i64 L,.int .i64 I,.int .i64 J,.str H,.int .i32 C,.list 6 (E.Aa v)],[.int .i64 yk,.int .i64 yo,.int .i64 Z,.str yn,.int .i32 yw,.list 6 (E.Aa V)]] (fun aO a8=>?_)
  have a9:=cL a8;try simp only [lA,lC,lN,lT']at a9
  refine ll 2 aO ?_
  refine fr ?_
  obtain ⟨_,⟨aN,rfl,c9,c6⟩,bM⟩:=HG (IW.of (n:=10) @Dj) 2 (((j+64)+3)+7) aO (R.tl2 hy) (by subst_vars;rfl)
  refine ch bM ?_
  exact Ag ⟨[aN],[],[],[]⟩ (⟨_,rfl,kn,kn⟩)
def AmG (B N:Nat) (m n:Nat):Prop:=∀{l:List S} (ln len:Int) (j q:Int) (x:List Nat) (L:Rs) (C:PL (l.drop j.toNat)) (A:L=S.Aa l) (h:ln=L.length/\ln<=200000/\len=ln/\0<=j/\0<=q/\q+400*S.Ad (l.drop j.toNat)<=999682/\x.length+2*S.Ay (l.drop j.toNat)<=62/\S.Ay (l.drop j.toNat)<=m/\(len-j).toNat<n),Ok trees N ⟨[ln,len,j,q],[x],[L],[]⟩ fun z=>(z=(0,v0))∨(∃(v:Int),z=(1,(⟨[v],[],[],[]⟩:Aj))/\(v<=q+400*S.Ad (l.drop j.toNat))/\(q<=v))
def AlK (z N:Nat):Prop:=∀{m:Nat} (B:IX z m) {l:List S} (ln len:Int) (j q:Int) (x:List Nat) (L:Rs) (H:PL (l.drop j.toNat)) (C:L=S.Aa l) (h:ln=L.length/\ln<=200000/\len=ln/\0<=j/\0<=q/\q+400*S.Ad (l.drop j.toNat)<=999682/\x.length+2*S.Ay (l.drop j.toNat)<=62/\S.Ay (l.drop j.toNat)<=m:=by exact kn),Ok trees N ⟨[ln,len,j,q],[x],[L],[]⟩ fun A=>(A=(0,v0))∨(∃(v:Int),A=(1,(⟨[v],[],[],[]⟩:Aj))/\(v<=q+400*S.Ad (l.drop j.toNat))/\(q<=v))
theorem Anp {m:Nat} (P:IX 84 m) (n:Nat):AmG 84 86 m n:=by
 induction n with
 |zero=>intro l ln len j N v L hO H h;exact absurd h.2.2.2.2.2.2.2.2 (Nat.not_lt_zero _)
 |succ n ih=>
 intro l ln len j N v L hO H h
 subst H
 refine .of (t:=AeG) rfl ?_
 conv=>arg 3;reduce
 refine lt j len (fun t1=>?_) fun t1=>?_
 ·refine CO j 0 ?_
  refine B8 j ln ?_
  obtain ⟨ag,af,t_1,ae,I,ac,J,X,U,Q,z,Y,aa,M,V,O,x,A,B,ab,R,al,ap,ao⟩:=PL.get j hO om om
  refine el ab ?_
  refine sl v ?_
  refine bu N 64 ?_
  obtain ⟨_,⟨q,rfl,aj,an⟩,G3⟩:=AnY @P ag af t_1 ae ac J X U ((E.Aa z).length:Int) Y aa M V ((E.Aa x).length:Int) ((S.Aa A).length:Int) ((S.Aa B).length:Int) (N+64) I Q O v (E.Aa z) (E.Aa x) (S.Aa A) (S.Aa B) R rfl rfl rfl rfl
  refine ch G3 ?_
  refine bu q 1 ?_
  obtain ⟨_,(rfl|⟨C,rfl,ah,ai⟩),Z⟩:=ih ln len (j+1) (q+1) v (S.Aa l) asm rfl kn
  ·refine ch Z ?_
   exact Ag ⟨[(q+1)],[],[],[]⟩ (.inr ((⟨_,rfl,kn,kn⟩)))
  refine cm Z ?_
  refine ch Z ?_
  exact Ag ⟨[C],[],[],[]⟩ (.inr ((⟨_,rfl,kn,kn⟩)))
 exact Ag v0 (.inl rfl)
theorem AnZ:AlK 84 86:=fun {m} hC84 {l} ln len j sz ind L hO hLs h=>Anp @hC84 ((len-j).toNat+1) ln len j sz ind L hO hLs ⟨h.1,h.2.1,h.2.2.1,h.2.2.2.1,h.2.2.2.2.1,h.2.2.2.2.2.1,h.2.2.2.2.2.2.1,h.2.2.2.2.2.2.2,Nat.lt_succ_self _⟩
def AlL (x N:Nat):Prop:=∀{m:Nat} (A:IX x m) {l:List S} (ln j:Int) (v:List Nat) (L:Rs) (C:PL l) (B:L=S.Aa l) (h:ln=L.length/\ln<=200000/\0<=j/\j+400*S.Ad l<=999682/\v.length+2*S.Ay l<=62/\S.Ay l<=m:=by exact kn),Ok trees N ⟨[ln,j],[v],[L],[]⟩ fun z=>(z=(0,v0))∨(∃(q:Int),z=(1,(⟨[q],[],[],[]⟩:Aj))/\(q<=j+400*S.Ad l)/\(j<=q))
theorem Vo:AlL 84 85:=by
 intro m v l ln H z L C x h
 subst x;have I:S.Ay (l.drop (0:Int).toNat)=S.Ay l:=rfl;have J:S.Ad (l.drop (0:Int).toNat)=S.Ad l:=rfl
 refine .of (t:=AeH) rfl ?_
 conv=>arg 3;reduce
 obtain ⟨_,(rfl|⟨j,rfl,A,B⟩),q⟩:=AnZ @v ln ln 0 H z (S.Aa l) C rfl
 ·refine ch q ?_
  exact Ag v0 (.inl rfl)
 refine cm q ?_
 refine ch q ?_
 exact Ag ⟨[j],[],[],[]⟩ (.inr ((⟨_,rfl,kn,kn⟩)))
theorem Anq (n:Nat):IX 84 n:=by
 induction n with
 |zero=>intro l ln v j L A x h;exact absurd h.2.2.2.2.2 (Nat.not_lt_zero _)
 |succ n ih=>
 intro l ln v j L A x h
 have H:(j++[32,32]).length=j.length+2:=by simp
 refine .of (t:=AeI) rfl ?_
 conv=>arg 3;reduce
 refine bu v 2 ?_
 refine ca j [32,32] ?_
 obtain ⟨_,(rfl|⟨q,rfl,B,C⟩),z⟩:=Vo @ih ln (v+2) (j++[32,32]) L A x
 ·refine ch z ?_
  refine sl j ?_
  refine bu (v+2) 64 ?_
  refine bu ((v+2)+64) 1 ?_
  exact Ag ⟨[(((v+2)+64)+1)],[],[],[]⟩ (⟨_,rfl,kn,kn⟩)
 refine cm z ?_
 refine ch z ?_
 refine sl j ?_
 refine bu q 64 ?_
 refine bu (q+64) 1 ?_
 exact Ag ⟨[((q+64)+1)],[],[],[]⟩ (⟨_,rfl,kn,kn⟩)
theorem JJ:Ahy 84:=fun {l} ln sz ind L hO hLs h=>Anq (S.Ay l+1) ln sz ind L hO hLs ⟨h.1,h.2.1,h.2.2.1,h.2.2.2.1,h.2.2.2.2,Nat.lt_succ_self _⟩
def Ad9 (N n:Nat):Prop:=∀{j:Int} {Γ q:Ctx} {l:List S} (ln:Int) (L:Rs) (z:Ew j 1 Γ l q) (x:L=S.Aa l) (h:ln=L.length/\ln<=200000/\S.Ad l<=200000/\S.Ay l<n),Ok trees N ⟨[ln],[],[L],[]⟩ fun v=>(v=(1,v0))
def AoG (N:Nat):Prop:=∀{j:Int} {Γ q:Ctx} {l:List S} (ln:Int) (L:Rs) (z:Ew j 1 Γ l q) (x:L=S.Aa l) (h:ln=L.length/\ln<=200000/\S.Ad l<=200000:=by exact kn),Ok trees N ⟨[ln],[],[L],[]⟩ fun v=>(v=(1,v0))
def Apj (A N:Nat) (m n:Nat):Prop:=∀{q:Int} {Γ v:Ctx} {l:List S} (ln len j:Int) (L:Rs) (B:Ew q 1 Γ (l.drop j.toNat) v) (z:L=S.Aa l) (h:ln=L.length/\ln<=200000/\len=ln/\0<=j/\S.Ay (l.drop j.toNat)<=m/\S.Ad (l.drop j.toNat)<=200000/\(len-j).toNat<n),Ok trees N ⟨[ln,len,j],[],[L],[]⟩ fun x=>(x=(1,v0))
def AoE (q N:Nat):Prop:=∀{m:Nat} (A:Ad9 q m) {v:Int} {Γ x:Ctx} {l:List S} (ln len j:Int) (L:Rs) (C:Ew v 1 Γ (l.drop j.toNat) x) (B:L=S.Aa l) (h:ln=L.length/\ln<=200000/\len=ln/\0<=j/\S.Ay (l.drop j.toNat)<=m/\S.Ad (l.drop j.toNat)<=200000:=by exact kn),Ok trees N ⟨[ln,len,j],[],[L],[]⟩ fun z=>(z=(1,v0))
theorem Anr {m:Nat} (x:Ad9 81 m) (n:Nat):Apj 81 83 m n:=by
 induction n with
 |zero=>intro lp Γ Γe l ln len j L hO B h;exact absurd h.2.2.2.2.2.2 (Nat.not_lt_zero _)
 |succ n ih=>
 intro lp Γ Γe l ln len j L hO B h
 subst B
 refine .of (t:=Ac9) rfl ?_
 conv=>arg 3;reduce
 refine lt j len (fun t1=>?_) fun t1=>?_
 ·refine CO j 0 ?_
  refine B8 j ln ?_
  obtain ⟨z,aX,t_1,aW,ay,aU,aO,av,aC,aJ,aF,aD,aR,ao,aq,aP,aA,v,q,aN,Y,A,aQ,aI,aG⟩:=Ew.get j hO om om
  refine el Y ?_
  have aE:=A.pure;have aM:=A.kinds;have ak:=S.len v;have an:=S.len q;have aj:=S.A0 v;have al:=S.A0 q;obtain ⟨_,aL,aV,ap,ax,az,au⟩:=A.parts
  refine eq z 1 (fun t3=>?_) fun t3=>?_
  ·obtain ⟨_,rfl,G4⟩:=x ((S.Aa v).length:Int) (S.Aa v) asm rfl kn
   refine cm G4 ?_
   refine ch G4 ?_
   obtain ⟨_,rfl,G5⟩:=x ((S.Aa q).length:Int) (S.Aa q) asm rfl kn
   refine cm G5 ?_
   refine ch G5 ?_
   obtain ⟨_,rfl,G6⟩:=ih ln len (j+1) (S.Aa l) asm rfl kn
   refine cm G6 ?_
   refine ch G6 ?_
   exact Ag v0 (rfl)
  refine eq z 2 (fun t7=>?_) fun t7=>?_
  ·obtain ⟨_,rfl,G8⟩:=x ((S.Aa v).length:Int) (S.Aa v) asm rfl kn
   refine cm G8 ?_
   refine ch G8 ?_
   obtain ⟨_,rfl,G9⟩:=x ((S.Aa q).length:Int) (S.Aa q) asm rfl kn
   refine cm G9 ?_
   refine ch G9 ?_
   obtain ⟨_,rfl,X⟩:=ih ln len (j+1) (S.Aa l) asm rfl kn
   refine cm X ?_
   refine ch X ?_
   exact Ag v0 (rfl)
  refine eq z 5 (fun Z=>?_) fun Z=>?_
  ·obtain ⟨_,rfl,P⟩:=x ((S.Aa v).length:Int) (S.Aa v) asm rfl kn
   refine cm P ?_
   refine ch P ?_
   obtain ⟨_,rfl,Q⟩:=x ((S.Aa q).length:Int) (S.Aa q) asm rfl kn
   refine cm Q ?_
   refine ch Q ?_
   obtain ⟨_,rfl,U⟩:=ih ln len (j+1) (S.Aa l) asm rfl kn
   refine cm U ?_
   refine ch U ?_
   exact Ag v0 (rfl)
  refine eq z 6 (fun ab=>?_) fun ab=>?_
  ·obtain ⟨_,rfl,C⟩:=x ((S.Aa v).length:Int) (S.Aa v) asm rfl kn
   refine cm C ?_
   refine ch C ?_
   obtain ⟨_,rfl,J⟩:=x ((S.Aa q).length:Int) (S.Aa q) asm rfl kn
   refine cm J ?_
   refine ch J ?_
   obtain ⟨_,rfl,N⟩:=ih ln len (j+1) (S.Aa l) asm rfl kn
   refine cm N ?_
   refine ch N ?_
   exact Ag v0 (rfl)
  refine eq z 7 (fun ag=>?_) fun ag=>?_
  ·obtain ⟨_,rfl,M⟩:=x ((S.Aa v).length:Int) (S.Aa v) asm rfl kn
   refine cm M ?_
   refine ch M ?_
   obtain ⟨_,rfl,I⟩:=x ((S.Aa q).length:Int) (S.Aa q) asm rfl kn
   refine cm I ?_
   refine ch I ?_
   obtain ⟨_,rfl,V⟩:=ih ln len (j+1) (S.Aa l) asm rfl kn
   refine cm V ?_
   refine ch V ?_
   exact Ag v0 (rfl)
  refine eq z 8 (fun ah=>?_) fun ah=>?_
  ·obtain ⟨_,rfl,O⟩:=x ((S.Aa v).length:Int) (S.Aa v) asm rfl kn
   refine cm O ?_
   refine ch O ?_
   obtain ⟨_,rfl,R⟩:=x ((S.Aa q).length:Int) (S.Aa q) asm rfl kn
   refine cm R ?_
   refine ch R ?_
   obtain ⟨_,rfl,H⟩:=ih ln len (j+1) (S.Aa l) asm rfl kn
   refine cm H ?_
   refine ch H ?_
   exact Ag v0 (rfl)
  exact dead
 exact Ag v0 (rfl)
theorem Aoa:AoE 81 83:=fun {m} hC81 {lp} {Γ} {Γe} {l} ln len j L hO hLs h=>Anr @hC81 ((len-j).toNat+1) ln len j L hO hLs ⟨h.1,h.2.1,h.2.2.1,h.2.2.2.1,h.2.2.2.2.1,h.2.2.2.2.2,Nat.lt_succ_self _⟩
def AoF (j N:Nat):Prop:=∀{m:Nat} (z:Ad9 j m) {q:Int} {Γ v:Ctx} {l:List S} (ln:Int) (L:Rs) (B:Ew q 1 Γ l v) (A:L=S.Aa l) (h:ln=L.length/\ln<=200000/\S.Ad l<=200000/\S.Ay l<=m:=by exact kn),Ok trees N ⟨[ln],[],[L],[]⟩ fun x=>(x=(0,(⟨[(-1)],[],[],[]⟩:Aj)))
theorem Aob:AoF 81 82:=by
 intro m j z Γ A l ln L x q h
 subst q;have B:S.Ay (l.drop (0:Int).toNat)=S.Ay l:=rfl;have C:S.Ad (l.drop (0:Int).toNat)=S.Ad l:=rfl
 refine .of (t:=AcA) rfl ?_
 conv=>arg 3;reduce
 obtain ⟨_,rfl,v⟩:=Aoa @j ln ln 0 (S.Aa l) x rfl
 refine cm v ?_
 refine ch v ?_
 exact Ag ⟨[(-1)],[],[],[]⟩ (rfl)
theorem Ans (n:Nat):Ad9 81 n:=by
 induction n with
 |zero=>intro v Γ x l ln L q j h;exact absurd h.2.2.2 (Nat.not_lt_zero _)
 |succ n ih=>
 intro v Γ x l ln L q j h
 refine .of (t:=AcB) rfl ?_
 conv=>arg 3;reduce
 obtain ⟨_,rfl,z⟩:=Aob @ih ln L q j
 refine ch z ?_
 refine IG (-1) 0 ?_
 exact Ag v0 (rfl)
theorem Aoc:AoG 81:=fun {lp} {Γ} {Γe} {l} ln L hO hLs h=>Ans (S.Ay l+1) ln L hO hLs ⟨h.1,h.2.1,h.2.2,Nat.lt_succ_self _⟩
end
end Go.Proofs.YtbmofjdmgjpfoaaGreatDoor.Am
