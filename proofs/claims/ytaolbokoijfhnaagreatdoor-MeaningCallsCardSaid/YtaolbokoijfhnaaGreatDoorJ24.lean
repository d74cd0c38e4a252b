/- Part 24 of MeaningCalls. -/
import Derived.Test.YtaolbokoijfhnaaGreatDoorJ16
import Derived.Test.YtaolbokoijfhnaaGreatDoorJ18
import Derived.Test.YtaolbokoijfhnaaGreatDoorJ20
import Derived.Test.YtaolbokoijfhnaaGreatDoorJ22
import Derived.Test.YtaolbokoijfhnaaGreatDoorJ23
set_option linter.all false
namespace Go.Proofs.YtaolbokoijfhnaaGreatDoor.Am
section
set_option maxHeartbeats 40000000
set_option maxRecDepth 100000
open Go.AM Go.AM.K
def An9 (N n:Nat):Prop:=∀{l:List Pe} (ln len:Int) (j p1:Int) (C z:Int) (Q I:Int) (J R:Int) (O q:Int) (x B:List Nat) (L H:Rs) (P M:Rs) (V:L=Ax l) (U:Y9 l) (h:ln=L.length/\len=ln/\0<=j/\j<=ln/\ln<=8/\0<=q/\q+200*(ln-j)<=900000/\(ln-j).toNat<n),Ok trees N ⟨[ln,len,j,p1,C,z,Q,I,J,R,O,q],[x,B],[L,H,P,M],[]⟩ fun A=>(A=(0,v0))∨(∃(v:Int),A=(1,(⟨[v],[],[],[]⟩:Aj))/\(v<=q+200*(ln-j))/\(q<=v))
def Anl (N:Nat):Prop:=∀{l:List Pe} (ln len:Int) (j p1:Int) (C z:Int) (Q I:Int) (J R:Int) (O q:Int) (x B:List Nat) (L H:Rs) (P M:Rs) (V:L=Ax l) (U:Y9 l) (h:ln=L.length/\len=ln/\0<=j/\j<=ln/\ln<=8/\0<=q/\q+200*(ln-j)<=900000:=by exact kn),Ok trees N ⟨[ln,len,j,p1,C,z,Q,I,J,R,O,q],[x,B],[L,H,P,M],[]⟩ fun A=>(A=(0,v0))∨(∃(v:Int),A=(1,(⟨[v],[],[],[]⟩:Aj))/\(v<=q+200*(ln-j))/\(q<=v))
theorem Ajg (n:Nat):An9 102 n:=by
 induction n with
 |zero=>intro l ln len j p1 A z I H N J P q B C L M Q O hL R h;exact absurd h.2.2.2.2.2.2.2 (Nat.not_lt_zero _)
 |succ n ih=>
 intro l ln len j p1 A z I H N J P q B C L M Q O hL R h
 subst hL
 refine .of (t:=ZK) rfl ?_
 conv=>arg 3;reduce
 refine lt j len (fun t1=>?_) fun t1=>?_
 ·refine Dv j 0 ?_
  refine CF j ln ?_
  obtain ⟨x,v,ah,ai⟩:=HY (l:=l) j om om
  refine el ah ?_
  obtain ⟨X,ad,ag⟩:=R _ _ ai;simp only at X ad ag;have aA:=X.len
  refine gt j 0 (fun t3=>?_) fun t3=>?_
  ·refine bu q 2 ?_
   obtain ⟨_,rfl,G4⟩:=Gz x asm
   refine ch G4 ?_
   refine sl x ?_
   refine bu (q+2) 64 ?_
   refine nv ⟨[ln,len,j,p1,A,z,I,H,N,J,P,q,v,(q+2),(x.length:Int),((q+2)+64)],[B,C,x],[(Ax l),M,Q,O],[]⟩ ?_
   refine bu ((q+2)+64) 1 ?_
   refine JY (v-1) 0 ?_
   refine LA (v-1) 3 ?_
   refine eq (v-1) 0 (fun t5=>?_) fun t5=>?_
   ·refine bu (((q+2)+64)+1) 3 ?_
    refine nv ⟨[ln,len,j,p1,A,z,I,H,N,J,P,q,v,(q+2),(x.length:Int),((q+2)+64),(((q+2)+64)+1),((((q+2)+64)+1)+3)],[B,C,x],[(Ax l),M,Q,O],[]⟩ ?_
    obtain ⟨_,(rfl|⟨af,rfl,aF,aE⟩),G6⟩:=ih ln len (j+1) p1 A z I H N J P ((((q+2)+64)+1)+3) B C (Ax l) M Q O rfl R kn
    ·refine ch G6 ?_
     exact Ah ⟨[((((q+2)+64)+1)+3)],[],[],[]⟩ (.inr ((⟨_,rfl,kn,kn⟩)))
    refine cm G6 ?_
    refine ch G6 ?_
    exact Ah ⟨[af],[],[],[]⟩ (.inr ((⟨_,rfl,kn,kn⟩)))
   refine eq (v-1) 1 (fun t7=>?_) fun t7=>?_
   ·refine bu (((q+2)+64)+1) 3 ?_
    obtain ⟨_,(rfl|⟨ac,rfl,aC,aG⟩),G8⟩:=ih ln len (j+1) p1 A z I H N J P ((((q+2)+64)+1)+3) B C (Ax l) M Q O rfl R kn
    ·refine ch G8 ?_
     exact Ah ⟨[((((q+2)+64)+1)+3)],[],[],[]⟩ (.inr ((⟨_,rfl,kn,kn⟩)))
    refine cm G8 ?_
    refine ch G8 ?_
    exact Ah ⟨[ac],[],[],[]⟩ (.inr ((⟨_,rfl,kn,kn⟩)))
   refine Bw (v-1) 2 ?_
   refine bu (((q+2)+64)+1) 4 ?_
   refine nv ⟨[ln,len,j,p1,A,z,I,H,N,J,P,q,v,(q+2),(x.length:Int),((q+2)+64),(((q+2)+64)+1),((((q+2)+64)+1)+4)],[B,C,x],[(Ax l),M,Q,O],[]⟩ ?_
   obtain ⟨_,(rfl|⟨ae,rfl,aD,aB⟩),G9⟩:=ih ln len (j+1) p1 A z I H N J P ((((q+2)+64)+1)+4) B C (Ax l) M Q O rfl R kn
   ·refine ch G9 ?_
    exact Ah ⟨[((((q+2)+64)+1)+4)],[],[],[]⟩ (.inr ((⟨_,rfl,kn,kn⟩)))
   refine cm G9 ?_
   refine ch G9 ?_
   exact Ah ⟨[ae],[],[],[]⟩ (.inr ((⟨_,rfl,kn,kn⟩)))
  obtain ⟨_,rfl,ao⟩:=Gz x asm
  refine ch ao ?_
  refine sl x ?_
  refine bu q 64 ?_
  refine bu (q+64) 1 ?_
  refine nv ⟨[ln,len,j,p1,A,z,I,H,N,J,P,q,v,(x.length:Int),(q+64),((q+64)+1)],[B,C,x],[(Ax l),M,Q,O],[]⟩ ?_
  refine JY (v-1) 0 ?_
  refine LA (v-1) 3 ?_
  refine eq (v-1) 0 (fun ay=>?_) fun ay=>?_
  ·refine bu ((q+64)+1) 3 ?_
   obtain ⟨_,(rfl|⟨Y,rfl,au,an⟩),Z⟩:=ih ln len (j+1) p1 A z I H N J P (((q+64)+1)+3) B C (Ax l) M Q O rfl R kn
   ·refine ch Z ?_
    exact Ah ⟨[(((q+64)+1)+3)],[],[],[]⟩ (.inr ((⟨_,rfl,kn,kn⟩)))
   refine cm Z ?_
   refine ch Z ?_
   exact Ah ⟨[Y],[],[],[]⟩ (.inr ((⟨_,rfl,kn,kn⟩)))
  refine eq (v-1) 1 (fun aw=>?_) fun aw=>?_
  ·refine bu ((q+64)+1) 3 ?_
   refine nv ⟨[ln,len,j,p1,A,z,I,H,N,J,P,q,v,(x.length:Int),(q+64),((q+64)+1),(((q+64)+1)+3)],[B,C,x],[(Ax l),M,Q,O],[]⟩ ?_
   obtain ⟨_,(rfl|⟨U,rfl,aq,ax⟩),aa⟩:=ih ln len (j+1) p1 A z I H N J P (((q+64)+1)+3) B C (Ax l) M Q O rfl R kn
   ·refine ch aa ?_
    exact Ah ⟨[(((q+64)+1)+3)],[],[],[]⟩ (.inr ((⟨_,rfl,kn,kn⟩)))
   refine cm aa ?_
   refine ch aa ?_
   exact Ah ⟨[U],[],[],[]⟩ (.inr ((⟨_,rfl,kn,kn⟩)))
  refine Bw (v-1) 2 ?_
  refine bu ((q+64)+1) 4 ?_
  obtain ⟨_,(rfl|⟨ab,rfl,ap,az⟩),V⟩:=ih ln len (j+1) p1 A z I H N J P (((q+64)+1)+4) B C (Ax l) M Q O rfl R kn
  ·refine ch V ?_
   exact Ah ⟨[(((q+64)+1)+4)],[],[],[]⟩ (.inr ((⟨_,rfl,kn,kn⟩)))
  refine cm V ?_
  refine ch V ?_
  exact Ah ⟨[ab],[],[],[]⟩ (.inr ((⟨_,rfl,kn,kn⟩)))
 exact Ah v0 (.inl rfl)
theorem Amc:Anl 102:=fun {l} ln len j p1 fty fbl rk ro ry rv rl sz fnm rnm L FP FB RA hL hp h=>Ajg ((ln-j).toNat+1) ln len j p1 fty fbl rk ro ry rv rl sz fnm rnm L FP FB RA hL hp ⟨h.1,h.2.1,h.2.2.1,h.2.2.2.1,h.2.2.2.2.1,h.2.2.2.2.2.1,h.2.2.2.2.2.2,Nat.lt_succ_self _⟩
def Aqu (N n:Nat):Prop:=∀{l:List Ae} (ln len:Int) (j g:Int) (sub B:Int) (pl fl:Int) (H q:Int) (z:List Nat) (L C:Rs) (P A R:Rs) (J:L=Ay l) (I:YB l) (h:ln=L.length/\len=ln/\0<=j/\j<=ln/\ln<=8/\0<=q/\q+200*(ln-j)<=900000/\(ln-j).toNat<n),Ok trees N ⟨[ln,len,j,g,sub,B,pl,fl,H,q],[z],[L,C,P,A,R],[]⟩ fun x=>(x=(0,v0))∨(∃(v:Int),x=(1,(⟨[v],[],[],[]⟩:Aj))/\(v<=q+200*(ln-j))/\(q<=v))
def ApJ (N:Nat):Prop:=∀{l:List Ae} (ln len:Int) (j g:Int) (sub B:Int) (pl fl:Int) (H q:Int) (z:List Nat) (L C:Rs) (P A R:Rs) (J:L=Ay l) (I:YB l) (h:ln=L.length/\len=ln/\0<=j/\j<=ln/\ln<=8/\0<=q/\q+200*(ln-j)<=900000:=by exact kn),Ok trees N ⟨[ln,len,j,g,sub,B,pl,fl,H,q],[z],[L,C,P,A,R],[]⟩ fun x=>(x=(0,v0))∨(∃(v:Int),x=(1,(⟨[v],[],[],[]⟩:Aj))/\(v<=q+200*(ln-j))/\(q<=v))
theorem AnY (n:Nat):Aqu 78 n:=by
 induction n with
 |zero=>intro l ln len j g sub H pl fl J q B L I P C R hL M h;exact absurd h.2.2.2.2.2.2.2 (Nat.not_lt_zero _)
 |succ n ih=>
 intro l ln len j g sub H pl fl J q B L I P C R hL M h
 subst hL
 refine .of (t:=Afm) rfl ?_
 conv=>arg 3;reduce
 refine lt j len (fun t1=>?_) fun t1=>?_
 ·refine Dv j 0 ?_
  refine CF j ln ?_
  obtain ⟨v,A,z,x,aw,ax⟩:=Ia (l:=l) j om om
  refine el aw ?_
  obtain ⟨X,aj,ag,ah,ap,ak,af⟩:=M _ _ ax;simp only at X aj ag ah ap ak af;have aV:=X.len
  refine JY (A-1) 0 ?_
  refine LA (A-1) 3 ?_
  refine eq (A-1) 0 (fun t3=>?_) fun t3=>?_
  ·refine bu q 6 ?_
   refine nv ⟨[ln,len,j,g,sub,H,pl,fl,J,q,A,z,x,(q+6)],[B,v],[(Ay l),I,P,C,R],[]⟩ ?_
   refine bu (q+6) 1 ?_
   obtain ⟨_,rfl,G4⟩:=Gz v asm
   refine ch G4 ?_
   refine sl v ?_
   refine bu ((q+6)+1) 64 ?_
   refine nv ⟨[ln,len,j,g,sub,H,pl,fl,J,q,A,z,x,(q+6),((q+6)+1),(v.length:Int),(((q+6)+1)+64)],[B,v],[(Ay l),I,P,C,R],[]⟩ ?_
   refine bu (((q+6)+1)+64) 1 ?_
   refine JY (z-1) 0 ?_
   refine LA (z-1) 3 ?_
   refine eq (z-1) 0 (fun t5=>?_) fun t5=>?_
   ·refine bu ((((q+6)+1)+64)+1) 3 ?_
    refine nv ⟨[ln,len,j,g,sub,H,pl,fl,J,q,A,z,x,(q+6),((q+6)+1),(v.length:Int),(((q+6)+1)+64),((((q+6)+1)+64)+1),(((((q+6)+1)+64)+1)+3)],[B,v],[(Ay l),I,P,C,R],[]⟩ ?_
    refine Dv x (-9223372036854775808) ?_
    refine E6 x 9223372036854775807 ?_
    refine bu (((((q+6)+1)+64)+1)+3) 1 ?_
    refine bu ((((((q+6)+1)+64)+1)+3)+1) 21 ?_
    refine nv ⟨[ln,len,j,g,sub,H,pl,fl,J,q,A,z,x,(q+6),((q+6)+1),(v.length:Int),(((q+6)+1)+64),((((q+6)+1)+64)+1),(((((q+6)+1)+64)+1)+3),((((((q+6)+1)+64)+1)+3)+1),(((((((q+6)+1)+64)+1)+3)+1)+21)],[B,v],[(Ay l),I,P,C,R],[]⟩ ?_
    refine bu (((((((q+6)+1)+64)+1)+3)+1)+21) 1 ?_
    obtain ⟨_,(rfl|⟨ai,rfl,aZ,aY⟩),G6⟩:=ih ln len (j+1) g sub H pl fl J ((((((((q+6)+1)+64)+1)+3)+1)+21)+1) B (Ay l) I P C R rfl M kn
    ·refine ch G6 ?_
     exact Ah ⟨[((((((((q+6)+1)+64)+1)+3)+1)+21)+1)],[],[],[]⟩ (.inr ((⟨_,rfl,kn,kn⟩)))
    refine cm G6 ?_
    refine ch G6 ?_
    exact Ah ⟨[ai],[],[],[]⟩ (.inr ((⟨_,rfl,kn,kn⟩)))
   refine eq (z-1) 1 (fun t7=>?_) fun t7=>?_
   ·refine bu ((((q+6)+1)+64)+1) 3 ?_
    refine nv ⟨[ln,len,j,g,sub,H,pl,fl,J,q,A,z,x,(q+6),((q+6)+1),(v.length:Int),(((q+6)+1)+64),((((q+6)+1)+64)+1),(((((q+6)+1)+64)+1)+3)],[B,v],[(Ay l),I,P,C,R],[]⟩ ?_
    refine Dv x (-9223372036854775808) ?_
    refine E6 x 9223372036854775807 ?_
    refine bu (((((q+6)+1)+64)+1)+3) 1 ?_
    refine bu ((((((q+6)+1)+64)+1)+3)+1) 21 ?_
    refine nv ⟨[ln,len,j,g,sub,H,pl,fl,J,q,A,z,x,(q+6),((q+6)+1),(v.length:Int),(((q+6)+1)+64),((((q+6)+1)+64)+1),(((((q+6)+1)+64)+1)+3),((((((q+6)+1)+64)+1)+3)+1),(((((((q+6)+1)+64)+1)+3)+1)+21)],[B,v],[(Ay l),I,P,C,R],[]⟩ ?_
    refine bu (((((((q+6)+1)+64)+1)+3)+1)+21) 1 ?_
    obtain ⟨_,(rfl|⟨an,rfl,aU,a0⟩),G8⟩:=ih ln len (j+1) g sub H pl fl J ((((((((q+6)+1)+64)+1)+3)+1)+21)+1) B (Ay l) I P C R rfl M kn
    ·refine ch G8 ?_
     exact Ah ⟨[((((((((q+6)+1)+64)+1)+3)+1)+21)+1)],[],[],[]⟩ (.inr ((⟨_,rfl,kn,kn⟩)))
    refine cm G8 ?_
    refine ch G8 ?_
    exact Ah ⟨[an],[],[],[]⟩ (.inr ((⟨_,rfl,kn,kn⟩)))
   refine Bw (z-1) 2 ?_
   refine bu ((((q+6)+1)+64)+1) 4 ?_
   refine nv ⟨[ln,len,j,g,sub,H,pl,fl,J,q,A,z,x,(q+6),((q+6)+1),(v.length:Int),(((q+6)+1)+64),((((q+6)+1)+64)+1),(((((q+6)+1)+64)+1)+4)],[B,v],[(Ay l),I,P,C,R],[]⟩ ?_
   refine Dv x (-9223372036854775808) ?_
   refine E6 x 9223372036854775807 ?_
   refine bu (((((q+6)+1)+64)+1)+4) 1 ?_
   refine bu ((((((q+6)+1)+64)+1)+4)+1) 21 ?_
   refine nv ⟨[ln,len,j,g,sub,H,pl,fl,J,q,A,z,x,(q+6),((q+6)+1),(v.length:Int),(((q+6)+1)+64),((((q+6)+1)+64)+1),(((((q+6)+1)+64)+1)+4),((((((q+6)+1)+64)+1)+4)+1),(((((((q+6)+1)+64)+1)+4)+1)+21)],[B,v],[(Ay l),I,P,C,R],[]⟩ ?_
   refine bu (((((((q+6)+1)+64)+1)+4)+1)+21) 1 ?_
   obtain ⟨_,(rfl|⟨ao,rfl,aX,aW⟩),G9⟩:=ih ln len (j+1) g sub H pl fl J ((((((((q+6)+1)+64)+1)+4)+1)+21)+1) B (Ay l) I P C R rfl M kn
   ·refine ch G9 ?_
    exact Ah ⟨[((((((((q+6)+1)+64)+1)+4)+1)+21)+1)],[],[],[]⟩ (.inr ((⟨_,rfl,kn,kn⟩)))
   refine cm G9 ?_
   refine ch G9 ?_
   exact Ah ⟨[ao],[],[],[]⟩ (.inr ((⟨_,rfl,kn,kn⟩)))
  refine eq (A-1) 1 (fun aL=>?_) fun aL=>?_
  ·refine bu q 6 ?_
   refine nv ⟨[ln,len,j,g,sub,H,pl,fl,J,q,A,z,x,(q+6)],[B,v],[(Ay l),I,P,C,R],[]⟩ ?_
   refine bu (q+6) 1 ?_
   obtain ⟨_,rfl,aJ⟩:=Gz v asm
   refine ch aJ ?_
   refine sl v ?_
   refine bu ((q+6)+1) 64 ?_
   refine nv ⟨[ln,len,j,g,sub,H,pl,fl,J,q,A,z,x,(q+6),((q+6)+1),(v.length:Int),(((q+6)+1)+64)],[B,v],[(Ay l),I,P,C,R],[]⟩ ?_
   refine bu (((q+6)+1)+64) 1 ?_
   refine JY (z-1) 0 ?_
   refine LA (z-1) 3 ?_
   refine eq (z-1) 0 (fun aF=>?_) fun aF=>?_
   ·refine bu ((((q+6)+1)+64)+1) 3 ?_
    refine nv ⟨[ln,len,j,g,sub,H,pl,fl,J,q,A,z,x,(q+6),((q+6)+1),(v.length:Int),(((q+6)+1)+64),((((q+6)+1)+64)+1),(((((q+6)+1)+64)+1)+3)],[B,v],[(Ay l),I,P,C,R],[]⟩ ?_
    refine Dv x (-9223372036854775808) ?_
    refine E6 x 9223372036854775807 ?_
    refine bu (((((q+6)+1)+64)+1)+3) 1 ?_
    refine bu ((((((q+6)+1)+64)+1)+3)+1) 21 ?_
    refine nv ⟨[ln,len,j,g,sub,H,pl,fl,J,q,A,z,x,(q+6),((q+6)+1),(v.length:Int),(((q+6)+1)+64),((((q+6)+1)+64)+1),(((((q+6)+1)+64)+1)+3),((((((q+6)+1)+64)+1)+3)+1),(((((((q+6)+1)+64)+1)+3)+1)+21)],[B,v],[(Ay l),I,P,C,R],[]⟩ ?_
    refine bu (((((((q+6)+1)+64)+1)+3)+1)+21) 1 ?_
    obtain ⟨_,(rfl|⟨N,rfl,aR,aA⟩),Z⟩:=ih ln len (j+1) g sub H pl fl J ((((((((q+6)+1)+64)+1)+3)+1)+21)+1) B (Ay l) I P C R rfl M kn
    ·refine ch Z ?_
     exact Ah ⟨[((((((((q+6)+1)+64)+1)+3)+1)+21)+1)],[],[],[]⟩ (.inr ((⟨_,rfl,kn,kn⟩)))
    refine cm Z ?_
    refine ch Z ?_
    exact Ah ⟨[N],[],[],[]⟩ (.inr ((⟨_,rfl,kn,kn⟩)))
   refine eq (z-1) 1 (fun aO=>?_) fun aO=>?_
   ·refine bu ((((q+6)+1)+64)+1) 3 ?_
    refine nv ⟨[ln,len,j,g,sub,H,pl,fl,J,q,A,z,x,(q+6),((q+6)+1),(v.length:Int),(((q+6)+1)+64),((((q+6)+1)+64)+1),(((((q+6)+1)+64)+1)+3)],[B,v],[(Ay l),I,P,C,R],[]⟩ ?_
    refine Dv x (-9223372036854775808) ?_
    refine E6 x 9223372036854775807 ?_
    refine bu (((((q+6)+1)+64)+1)+3) 1 ?_
    refine bu ((((((q+6)+1)+64)+1)+3)+1) 21 ?_
    refine nv ⟨[ln,len,j,g,sub,H,pl,fl,J,q,A,z,x,(q+6),((q+6)+1),(v.length:Int),(((q+6)+1)+64),((((q+6)+1)+64)+1),(((((q+6)+1)+64)+1)+3),((((((q+6)+1)+64)+1)+3)+1),(((((((q+6)+1)+64)+1)+3)+1)+21)],[B,v],[(Ay l),I,P,C,R],[]⟩ ?_
    refine bu (((((((q+6)+1)+64)+1)+3)+1)+21) 1 ?_
    obtain ⟨_,(rfl|⟨ae,rfl,ay,aP⟩),ab⟩:=ih ln len (j+1) g sub H pl fl J ((((((((q+6)+1)+64)+1)+3)+1)+21)+1) B (Ay l) I P C R rfl M kn
    ·refine ch ab ?_
     exact Ah ⟨[((((((((q+6)+1)+64)+1)+3)+1)+21)+1)],[],[],[]⟩ (.inr ((⟨_,rfl,kn,kn⟩)))
    refine cm ab ?_
    refine ch ab ?_
    exact Ah ⟨[ae],[],[],[]⟩ (.inr ((⟨_,rfl,kn,kn⟩)))
   refine Bw (z-1) 2 ?_
   refine bu ((((q+6)+1)+64)+1) 4 ?_
   refine nv ⟨[ln,len,j,g,sub,H,pl,fl,J,q,A,z,x,(q+6),((q+6)+1),(v.length:Int),(((q+6)+1)+64),((((q+6)+1)+64)+1),(((((q+6)+1)+64)+1)+4)],[B,v],[(Ay l),I,P,C,R],[]⟩ ?_
   refine Dv x (-9223372036854775808) ?_
   refine E6 x 9223372036854775807 ?_
   refine bu (((((q+6)+1)+64)+1)+4) 1 ?_
   refine bu ((((((q+6)+1)+64)+1)+4)+1) 21 ?_
   refine nv ⟨[ln,len,j,g,sub,H,pl,fl,J,q,A,z,x,(q+6),((q+6)+1),(v.length:Int),(((q+6)+1)+64),((((q+6)+1)+64)+1),(((((q+6)+1)+64)+1)+4),((((((q+6)+1)+64)+1)+4)+1),(((((((q+6)+1)+64)+1)+4)+1)+21)],[B,v],[(Ay l),I,P,C,R],[]⟩ ?_
   refine bu (((((((q+6)+1)+64)+1)+4)+1)+21) 1 ?_
   obtain ⟨_,(rfl|⟨Q,rfl,aH,aK⟩),aa⟩:=ih ln len (j+1) g sub H pl fl J ((((((((q+6)+1)+64)+1)+4)+1)+21)+1) B (Ay l) I P C R rfl M kn
   ·refine ch aa ?_
    exact Ah ⟨[((((((((q+6)+1)+64)+1)+4)+1)+21)+1)],[],[],[]⟩ (.inr ((⟨_,rfl,kn,kn⟩)))
   refine cm aa ?_
   refine ch aa ?_
   exact Ah ⟨[Q],[],[],[]⟩ (.inr ((⟨_,rfl,kn,kn⟩)))
  refine Bw (A-1) 2 ?_
  refine bu q 7 ?_
  refine nv ⟨[ln,len,j,g,sub,H,pl,fl,J,q,A,z,x,(q+7)],[B,v],[(Ay l),I,P,C,R],[]⟩ ?_
  refine bu (q+7) 1 ?_
  obtain ⟨_,rfl,aG⟩:=Gz v asm
  refine ch aG ?_
  refine sl v ?_
  refine bu ((q+7)+1) 64 ?_
  refine nv ⟨[ln,len,j,g,sub,H,pl,fl,J,q,A,z,x,(q+7),((q+7)+1),(v.length:Int),(((q+7)+1)+64)],[B,v],[(Ay l),I,P,C,R],[]⟩ ?_
  refine bu (((q+7)+1)+64) 1 ?_
  refine JY (z-1) 0 ?_
  refine LA (z-1) 3 ?_
  refine eq (z-1) 0 (fun aQ=>?_) fun aQ=>?_
  ·refine bu ((((q+7)+1)+64)+1) 3 ?_
   refine nv ⟨[ln,len,j,g,sub,H,pl,fl,J,q,A,z,x,(q+7),((q+7)+1),(v.length:Int),(((q+7)+1)+64),((((q+7)+1)+64)+1),(((((q+7)+1)+64)+1)+3)],[B,v],[(Ay l),I,P,C,R],[]⟩ ?_
   refine Dv x (-9223372036854775808) ?_
   refine E6 x 9223372036854775807 ?_
   refine bu (((((q+7)+1)+64)+1)+3) 1 ?_
   refine bu ((((((q+7)+1)+64)+1)+3)+1) 21 ?_
   refine nv ⟨[ln,len,j,g,sub,H,pl,fl,J,q,A,z,x,(q+7),((q+7)+1),(v.length:Int),(((q+7)+1)+64),((((q+7)+1)+64)+1),(((((q+7)+1)+64)+1)+3),((((((q+7)+1)+64)+1)+3)+1),(((((((q+7)+1)+64)+1)+3)+1)+21)],[B,v],[(Ay l),I,P,C,R],[]⟩ ?_
   refine bu (((((((q+7)+1)+64)+1)+3)+1)+21) 1 ?_
   obtain ⟨_,(rfl|⟨U,rfl,aB,aC⟩),ad⟩:=ih ln len (j+1) g sub H pl fl J ((((((((q+7)+1)+64)+1)+3)+1)+21)+1) B (Ay l) I P C R rfl M kn
   ·refine ch ad ?_
    exact Ah ⟨[((((((((q+7)+1)+64)+1)+3)+1)+21)+1)],[],[],[]⟩ (.inr ((⟨_,rfl,kn,kn⟩)))
   refine cm ad ?_
   refine ch ad ?_
   exact Ah ⟨[U],[],[],[]⟩ (.inr ((⟨_,rfl,kn,kn⟩)))
  refine eq (z-1) 1 (fun aM=>?_) fun aM=>?_
  ·refine bu ((((q+7)+1)+64)+1) 3 ?_
   refine nv ⟨[ln,len,j,g,sub,H,pl,fl,J,q,A,z,x,(q+7),((q+7)+1),(v.length:Int),(((q+7)+1)+64),((((q+7)+1)+64)+1),(((((q+7)+1)+64)+1)+3)],[B,v],[(Ay l),I,P,C,R],[]⟩ ?_
   refine Dv x (-9223372036854775808) ?_
   refine E6 x 9223372036854775807 ?_
   refine bu (((((q+7)+1)+64)+1)+3) 1 ?_
   refine bu ((((((q+7)+1)+64)+1)+3)+1) 21 ?_
   refine nv ⟨[ln,len,j,g,sub,H,pl,fl,J,q,A,z,x,(q+7),((q+7)+1),(v.length:Int),(((q+7)+1)+64),((((q+7)+1)+64)+1),(((((q+7)+1)+64)+1)+3),((((((q+7)+1)+64)+1)+3)+1),(((((((q+7)+1)+64)+1)+3)+1)+21)],[B,v],[(Ay l),I,P,C,R],[]⟩ ?_
   refine bu (((((((q+7)+1)+64)+1)+3)+1)+21) 1 ?_
   obtain ⟨_,(rfl|⟨V,rfl,aE,az⟩),O⟩:=ih ln len (j+1) g sub H pl fl J ((((((((q+7)+1)+64)+1)+3)+1)+21)+1) B (Ay l) I P C R rfl M kn
   ·refine ch O ?_
    exact Ah ⟨[((((((((q+7)+1)+64)+1)+3)+1)+21)+1)],[],[],[]⟩ (.inr ((⟨_,rfl,kn,kn⟩)))
   refine cm O ?_
   refine ch O ?_
   exact Ah ⟨[V],[],[],[]⟩ (.inr ((⟨_,rfl,kn,kn⟩)))
  refine Bw (z-1) 2 ?_
  refine bu ((((q+7)+1)+64)+1) 4 ?_
  refine nv ⟨[ln,len,j,g,sub,H,pl,fl,J,q,A,z,x,(q+7),((q+7)+1),(v.length:Int),(((q+7)+1)+64),((((q+7)+1)+64)+1),(((((q+7)+1)+64)+1)+4)],[B,v],[(Ay l),I,P,C,R],[]⟩ ?_
  refine Dv x (-9223372036854775808) ?_
  refine E6 x 9223372036854775807 ?_
  refine bu (((((q+7)+1)+64)+1)+4) 1 ?_
  refine bu ((((((q+7)+1)+64)+1)+4)+1) 21 ?_
  refine nv ⟨[ln,len,j,g,sub,H,pl,fl,J,q,A,z,x,(q+7),((q+7)+1),(v.length:Int),(((q+7)+1)+64),((((q+7)+1)+64)+1),(((((q+7)+1)+64)+1)+4),((((((q+7)+1)+64)+1)+4)+1),(((((((q+7)+1)+64)+1)+4)+1)+21)],[B,v],[(Ay l),I,P,C,R],[]⟩ ?_
  refine bu (((((((q+7)+1)+64)+1)+4)+1)+21) 1 ?_
  obtain ⟨_,(rfl|⟨Y,rfl,aN,aI⟩),ac⟩:=ih ln len (j+1) g sub H pl fl J ((((((((q+7)+1)+64)+1)+4)+1)+21)+1) B (Ay l) I P C R rfl M kn
  ·refine ch ac ?_
   exact Ah ⟨[((((((((q+7)+1)+64)+1)+4)+1)+21)+1)],[],[],[]⟩ (.inr ((⟨_,rfl,kn,kn⟩)))
  refine cm ac ?_
  refine ch ac ?_
  exact Ah ⟨[Y],[],[],[]⟩ (.inr ((⟨_,rfl,kn,kn⟩)))
 exact Ah v0 (.inl rfl)
theorem AoO:ApJ 78:=fun {l} ln len j g sub al pl fl rl sz knm L Ar P Fs R hL hp h=>AnY ((ln-j).toNat+1) ln len j g sub al pl fl rl sz knm L Ar P Fs R hL hp ⟨h.1,h.2.1,h.2.2.1,h.2.2.2.1,h.2.2.2.2.1,h.2.2.2.2.2.1,h.2.2.2.2.2.2,Nat.lt_succ_self _⟩
def Aqt (N n:Nat):Prop:=∀{l:List Pe} (ln len:Int) (j g:Int) (sub B:Int) (pl fl:Int) (H q:Int) (z:List Nat) (L C:Rs) (P A R:Rs) (J:L=Ax l) (I:Y9 l) (h:ln=L.length/\len=ln/\0<=j/\j<=ln/\ln<=8/\0<=q/\q+200*(ln-j)<=900000/\(ln-j).toNat<n),Ok trees N ⟨[ln,len,j,g,sub,B,pl,fl,H,q],[z],[L,C,P,A,R],[]⟩ fun x=>(x=(0,v0))∨(∃(v:Int),x=(1,(⟨[v],[],[],[]⟩:Aj))/\(v<=q+200*(ln-j))/\(q<=v))
def ApI (N:Nat):Prop:=∀{l:List Pe} (ln len:Int) (j g:Int) (sub B:Int) (pl fl:Int) (H q:Int) (z:List Nat) (L C:Rs) (P A R:Rs) (J:L=Ax l) (I:Y9 l) (h:ln=L.length/\len=ln/\0<=j/\j<=ln/\ln<=8/\0<=q/\q+200*(ln-j)<=900000:=by exact kn),Ok trees N ⟨[ln,len,j,g,sub,B,pl,fl,H,q],[z],[L,C,P,A,R],[]⟩ fun x=>(x=(0,v0))∨(∃(v:Int),x=(1,(⟨[v],[],[],[]⟩:Aj))/\(v<=q+200*(ln-j))/\(q<=v))
theorem AnX (n:Nat):Aqt 79 n:=by
 induction n with
 |zero=>intro l ln len j g sub B pl fl H q z L C P A R hL J h;exact absurd h.2.2.2.2.2.2.2 (Nat.not_lt_zero _)
 |succ n ih=>
 intro l ln len j g sub B pl fl H q z L C P A R hL J h
 subst hL
 refine .of (t:=Afl) rfl ?_
 conv=>arg 3;reduce
 refine lt j len (fun t1=>?_) fun t1=>?_
 ·refine Dv j 0 ?_
  refine CF j ln ?_
  obtain ⟨v,x,V,X⟩:=HY (l:=l) j om om
  refine el V ?_
  obtain ⟨I,N,Q⟩:=J _ _ X;simp only at I N Q;have ac:=I.len
  refine bu q 6 ?_
  refine nv ⟨[ln,len,j,g,sub,B,pl,fl,H,q,x,(q+6)],[z,v],[(Ax l),C,P,A,R],[]⟩ ?_
  obtain ⟨_,rfl,G3⟩:=Gz v asm
  refine ch G3 ?_
  refine sl v ?_
  refine bu (q+6) 64 ?_
  refine bu ((q+6)+64) 1 ?_
  refine nv ⟨[ln,len,j,g,sub,B,pl,fl,H,q,x,(q+6),(v.length:Int),((q+6)+64),(((q+6)+64)+1)],[z,v],[(Ax l),C,P,A,R],[]⟩ ?_
  refine JY (x-1) 0 ?_
  refine LA (x-1) 3 ?_
  refine eq (x-1) 0 (fun t4=>?_) fun t4=>?_
  ·refine bu (((q+6)+64)+1) 3 ?_
   refine bu ((((q+6)+64)+1)+3) 1 ?_
   refine nv ⟨[ln,len,j,g,sub,B,pl,fl,H,q,x,(q+6),(v.length:Int),((q+6)+64),(((q+6)+64)+1),((((q+6)+64)+1)+3),(((((q+6)+64)+1)+3)+1)],[z,v],[(Ax l),C,P,A,R],[]⟩ ?_
   obtain ⟨_,(rfl|⟨U,rfl,ag,ae⟩),Z⟩:=ih ln len (j+1) g sub B pl fl H (((((q+6)+64)+1)+3)+1) z (Ax l) C P A R rfl J kn
   ·refine ch Z ?_
    exact Ah ⟨[(((((q+6)+64)+1)+3)+1)],[],[],[]⟩ (.inr ((⟨_,rfl,kn,kn⟩)))
   refine cm Z ?_
   refine ch Z ?_
   exact Ah ⟨[U],[],[],[]⟩ (.inr ((⟨_,rfl,kn,kn⟩)))
  refine eq (x-1) 1 (fun t6=>?_) fun t6=>?_
  ·refine bu (((q+6)+64)+1) 3 ?_
   refine bu ((((q+6)+64)+1)+3) 1 ?_
   refine nv ⟨[ln,len,j,g,sub,B,pl,fl,H,q,x,(q+6),(v.length:Int),((q+6)+64),(((q+6)+64)+1),((((q+6)+64)+1)+3),(((((q+6)+64)+1)+3)+1)],[z,v],[(Ax l),C,P,A,R],[]⟩ ?_
   obtain ⟨_,(rfl|⟨O,rfl,ad,ah⟩),Y⟩:=ih ln len (j+1) g sub B pl fl H (((((q+6)+64)+1)+3)+1) z (Ax l) C P A R rfl J kn
   ·refine ch Y ?_
    exact Ah ⟨[(((((q+6)+64)+1)+3)+1)],[],[],[]⟩ (.inr ((⟨_,rfl,kn,kn⟩)))
   refine cm Y ?_
   refine ch Y ?_
   exact Ah ⟨[O],[],[],[]⟩ (.inr ((⟨_,rfl,kn,kn⟩)))
  refine Bw (x-1) 2 ?_
  refine bu (((q+6)+64)+1) 4 ?_
  refine bu ((((q+6)+64)+1)+4) 1 ?_
  refine nv ⟨[ln,len,j,g,sub,B,pl,fl,H,q,x,(q+6),(v.length:Int),((q+6)+64),(((q+6)+64)+1),((((q+6)+64)+1)+4),(((((q+6)+64)+1)+4)+1)],[z,v],[(Ax l),C,P,A,R],[]⟩ ?_
  obtain ⟨_,(rfl|⟨M,rfl,af,ai⟩),G8⟩:=ih ln len (j+1) g sub B pl fl H (((((q+6)+64)+1)+4)+1) z (Ax l) C P A R rfl J kn
  ·refine ch G8 ?_
   exact Ah ⟨[(((((q+6)+64)+1)+4)+1)],[],[],[]⟩ (.inr ((⟨_,rfl,kn,kn⟩)))
  refine cm G8 ?_
  refine ch G8 ?_
  exact Ah ⟨[M],[],[],[]⟩ (.inr ((⟨_,rfl,kn,kn⟩)))
 exact Ah v0 (.inl rfl)
theorem Alg:ApI 79:=fun {l} ln len j g sub al pl fl rl sz knm L Ar P Fs R hL hp h=>AnX ((ln-j).toNat+1) ln len j g sub al pl fl rl sz knm L Ar P Fs R hL hp ⟨h.1,h.2.1,h.2.2.1,h.2.2.2.1,h.2.2.2.2.1,h.2.2.2.2.2.1,h.2.2.2.2.2.2,Nat.lt_succ_self _⟩
def Anm (N:Nat):Prop:=∀{ps:List Pe} {fb:List S} {C:List E} {Δ:Rl} {t:Int} (x z:Int) (L H:Int) (A B:Int) (I Q q:Int) (J j:List Nat) (M P O:Rs) (hF:M=Ax ps) (U:Y9 ps) (V:Nm J) (hB:P=S.Ab fb) (Z:O=E.Ab C) (Y:PL fb) (X:TR Δ t (.node H A B I j C)) (h:x=M.length/\x<=2/\1<=z/\z<=3/\L=P.length/\Q=O.length/\0<=q/\q<=300000/\S.Az fb<=2/\S.Ad fb<=160/\(E.node H A B I j C).nodes<=13/\(E.node H A B I j C).high<=5:=by exact kn),Ok trees N ⟨[x,z,L,H,A,B,I,Q,q],[J,j],[M,P,O],[]⟩ fun R=>(∃(v:Int),R=(0,(⟨[v],[],[],[]⟩:Aj))/\(v<=q+70000)/\(q<=v))
theorem Amd:Anm 101:=by
 intro ps fb J Δ t B z A C I H L M j v x FP FB RA hF aG hn hB hA hO Z h
 subst hF;subst hB;subst hA;have bC:=hn.len;have bA:=S.len fb;have bz:=S.A7 fb;have bB:([32,32]:List Nat).length=2:=rfl
 refine .of (t:=ZL) rfl ?_
 conv=>arg 3;reduce
 refine bu j 5 ?_
 obtain ⟨_,rfl,G1⟩:=Gz v hn
 refine ch G1 ?_
 refine sl v ?_
 refine bu (j+5) 64 ?_
 refine nv ⟨[B,z,A,C,I,H,L,M,j,(j+5),(v.length:Int),((j+5)+64)],[v,x],[(Ax ps),(S.Ab fb),(E.Ab J)],[]⟩ ?_
 refine bu ((j+5)+64) 1 ?_
 obtain ⟨_,(rfl|⟨q,rfl,a8,a0⟩),G2⟩:=Amc B B 0 B z A C I H L M (((j+5)+64)+1) v x (Ax ps) (Ax ps) (S.Ab fb) (E.Ab J) rfl aG
 ·refine ch G2 ?_
  refine nv ⟨[B,z,A,C,I,H,L,M,j,(j+5),(v.length:Int),((j+5)+64),(((j+5)+64)+1)],[v,x],[(Ax ps),(S.Ab fb),(E.Ab J)],[]⟩ ?_
  refine bu (((j+5)+64)+1) 2 ?_
  refine nv ⟨[B,z,A,C,I,H,L,M,j,(j+5),(v.length:Int),((j+5)+64),(((j+5)+64)+1),((((j+5)+64)+1)+2)],[v,x],[(Ax ps),(S.Ab fb),(E.Ab J)],[]⟩ ?_
  refine JY (z-1) 0 ?_
  refine LA (z-1) 3 ?_
  refine eq (z-1) 0 (fun t3=>?_) fun t3=>?_
  ·refine bu ((((j+5)+64)+1)+2) 3 ?_
   refine bu (((((j+5)+64)+1)+2)+3) 3 ?_
   refine nv ⟨[B,z,A,C,I,H,L,M,j,(j+5),(v.length:Int),((j+5)+64),(((j+5)+64)+1),((((j+5)+64)+1)+2),(((((j+5)+64)+1)+2)+3),((((((j+5)+64)+1)+2)+3)+3)],[v,x],[(Ax ps),(S.Ab fb),(E.Ab J)],[]⟩ ?_
   obtain ⟨_,(rfl|⟨R,rfl,a4,a2⟩),G4⟩:=V5 (KQ.of (n:=1000) @JQ) A ((((((j+5)+64)+1)+2)+3)+3) [32,32] (S.Ab fb) hO rfl
   ·refine ch G4 ?_
    refine nv ⟨[B,z,A,C,I,H,L,M,j,(j+5),(v.length:Int),((j+5)+64),(((j+5)+64)+1),((((j+5)+64)+1)+2),(((((j+5)+64)+1)+2)+3),((((((j+5)+64)+1)+2)+3)+3)],[v,x],[(Ax ps),(S.Ab fb),(E.Ab J)],[]⟩ ?_
    refine bu ((((((j+5)+64)+1)+2)+3)+3) 9 ?_
    obtain ⟨_,⟨aa,rfl,bl,br⟩,G5⟩:=Dk C I H L M (((((((j+5)+64)+1)+2)+3)+3)+9) x (E.Ab J) Z rfl
    refine ch G5 ?_
    refine nv ⟨[B,z,A,C,I,H,L,M,j,(j+5),(v.length:Int),((j+5)+64),(((j+5)+64)+1),((((j+5)+64)+1)+2),(((((j+5)+64)+1)+2)+3),((((((j+5)+64)+1)+2)+3)+3),(((((((j+5)+64)+1)+2)+3)+3)+9),aa],[v,x],[(Ax ps),(S.Ab fb),(E.Ab J)],[]⟩ ?_
    refine bu aa 3 ?_
    refine nv ⟨[B,z,A,C,I,H,L,M,j,(j+5),(v.length:Int),((j+5)+64),(((j+5)+64)+1),((((j+5)+64)+1)+2),(((((j+5)+64)+1)+2)+3),((((((j+5)+64)+1)+2)+3)+3),(((((((j+5)+64)+1)+2)+3)+3)+9),aa,(aa+3)],[v,x],[(Ax ps),(S.Ab fb),(E.Ab J)],[]⟩ ?_
    exact Ah ⟨[(aa+3)],[],[],[]⟩ (⟨_,rfl,kn,kn⟩)
   refine cm G4 ?_
   refine ch G4 ?_
   refine nv ⟨[B,z,A,C,I,H,L,M,j,(j+5),(v.length:Int),((j+5)+64),(((j+5)+64)+1),((((j+5)+64)+1)+2),(((((j+5)+64)+1)+2)+3),((((((j+5)+64)+1)+2)+3)+3),R],[v,x],[(Ax ps),(S.Ab fb),(E.Ab J)],[]⟩ ?_
   refine bu R 9 ?_
   obtain ⟨_,⟨ac,rfl,bj,bx⟩,G6⟩:=Dk C I H L M (R+9) x (E.Ab J) Z rfl
   refine ch G6 ?_
   refine nv ⟨[B,z,A,C,I,H,L,M,j,(j+5),(v.length:Int),((j+5)+64),(((j+5)+64)+1),((((j+5)+64)+1)+2),(((((j+5)+64)+1)+2)+3),((((((j+5)+64)+1)+2)+3)+3),R,(R+9),ac],[v,x],[(Ax ps),(S.Ab fb),(E.Ab J)],[]⟩ ?_
   refine bu ac 3 ?_
   refine nv ⟨[B,z,A,C,I,H,L,M,j,(j+5),(v.length:Int),((j+5)+64),(((j+5)+64)+1),((((j+5)+64)+1)+2),(((((j+5)+64)+1)+2)+3),((((((j+5)+64)+1)+2)+3)+3),R,(R+9),ac,(ac+3)],[v,x],[(Ax ps),(S.Ab fb),(E.Ab J)],[]⟩ ?_
   exact Ah ⟨[(ac+3)],[],[],[]⟩ (⟨_,rfl,kn,kn⟩)
  refine eq (z-1) 1 (fun t7=>?_) fun t7=>?_
  ·refine bu ((((j+5)+64)+1)+2) 3 ?_
   refine bu (((((j+5)+64)+1)+2)+3) 3 ?_
   refine nv ⟨[B,z,A,C,I,H,L,M,j,(j+5),(v.length:Int),((j+5)+64),(((j+5)+64)+1),((((j+5)+64)+1)+2),(((((j+5)+64)+1)+2)+3),((((((j+5)+64)+1)+2)+3)+3)],[v,x],[(Ax ps),(S.Ab fb),(E.Ab J)],[]⟩ ?_
   obtain ⟨_,(rfl|⟨U,rfl,aX,bc⟩),G8⟩:=V5 (KQ.of (n:=1000) @JQ) A ((((((j+5)+64)+1)+2)+3)+3) [32,32] (S.Ab fb) hO rfl
   ·refine ch G8 ?_
    refine nv ⟨[B,z,A,C,I,H,L,M,j,(j+5),(v.length:Int),((j+5)+64),(((j+5)+64)+1),((((j+5)+64)+1)+2),(((((j+5)+64)+1)+2)+3),((((((j+5)+64)+1)+2)+3)+3)],[v,x],[(Ax ps),(S.Ab fb),(E.Ab J)],[]⟩ ?_
    refine bu ((((((j+5)+64)+1)+2)+3)+3) 9 ?_
    obtain ⟨_,⟨ab,rfl,bm,bw⟩,G9⟩:=Dk C I H L M (((((((j+5)+64)+1)+2)+3)+3)+9) x (E.Ab J) Z rfl
    refine ch G9 ?_
    refine nv ⟨[B,z,A,C,I,H,L,M,j,(j+5),(v.length:Int),((j+5)+64),(((j+5)+64)+1),((((j+5)+64)+1)+2),(((((j+5)+64)+1)+2)+3),((((((j+5)+64)+1)+2)+3)+3),(((((((j+5)+64)+1)+2)+3)+3)+9),ab],[v,x],[(Ax ps),(S.Ab fb),(E.Ab J)],[]⟩ ?_
    refine bu ab 3 ?_
    refine nv ⟨[B,z,A,C,I,H,L,M,j,(j+5),(v.length:Int),((j+5)+64),(((j+5)+64)+1),((((j+5)+64)+1)+2),(((((j+5)+64)+1)+2)+3),((((((j+5)+64)+1)+2)+3)+3),(((((((j+5)+64)+1)+2)+3)+3)+9),ab,(ab+3)],[v,x],[(Ax ps),(S.Ab fb),(E.Ab J)],[]⟩ ?_
    exact Ah ⟨[(ab+3)],[],[],[]⟩ (⟨_,rfl,kn,kn⟩)
   refine cm G8 ?_
   refine ch G8 ?_
   refine nv ⟨[B,z,A,C,I,H,L,M,j,(j+5),(v.length:Int),((j+5)+64),(((j+5)+64)+1),((((j+5)+64)+1)+2),(((((j+5)+64)+1)+2)+3),((((((j+5)+64)+1)+2)+3)+3),U],[v,x],[(Ax ps),(S.Ab fb),(E.Ab J)],[]⟩ ?_
   refine bu U 9 ?_
   obtain ⟨_,⟨X,rfl,a6,aV⟩,aF⟩:=Dk C I H L M (U+9) x (E.Ab J) Z rfl
   refine ch aF ?_
   refine nv ⟨[B,z,A,C,I,H,L,M,j,(j+5),(v.length:Int),((j+5)+64),(((j+5)+64)+1),((((j+5)+64)+1)+2),(((((j+5)+64)+1)+2)+3),((((((j+5)+64)+1)+2)+3)+3),U,(U+9),X],[v,x],[(Ax ps),(S.Ab fb),(E.Ab J)],[]⟩ ?_
   refine bu X 3 ?_
   refine nv ⟨[B,z,A,C,I,H,L,M,j,(j+5),(v.length:Int),((j+5)+64),(((j+5)+64)+1),((((j+5)+64)+1)+2),(((((j+5)+64)+1)+2)+3),((((((j+5)+64)+1)+2)+3)+3),U,(U+9),X,(X+3)],[v,x],[(Ax ps),(S.Ab fb),(E.Ab J)],[]⟩ ?_
   exact Ah ⟨[(X+3)],[],[],[]⟩ (⟨_,rfl,kn,kn⟩)
  refine Bw (z-1) 2 ?_
  refine bu ((((j+5)+64)+1)+2) 4 ?_
  refine bu (((((j+5)+64)+1)+2)+4) 3 ?_
  refine nv ⟨[B,z,A,C,I,H,L,M,j,(j+5),(v.length:Int),((j+5)+64),(((j+5)+64)+1),((((j+5)+64)+1)+2),(((((j+5)+64)+1)+2)+4),((((((j+5)+64)+1)+2)+4)+3)],[v,x],[(Ax ps),(S.Ab fb),(E.Ab J)],[]⟩ ?_
  obtain ⟨_,(rfl|⟨N,rfl,ay,aH⟩),ak⟩:=V5 (KQ.of (n:=1000) @JQ) A ((((((j+5)+64)+1)+2)+4)+3) [32,32] (S.Ab fb) hO rfl
  ·refine ch ak ?_
   refine nv ⟨[B,z,A,C,I,H,L,M,j,(j+5),(v.length:Int),((j+5)+64),(((j+5)+64)+1),((((j+5)+64)+1)+2),(((((j+5)+64)+1)+2)+4),((((((j+5)+64)+1)+2)+4)+3)],[v,x],[(Ax ps),(S.Ab fb),(E.Ab J)],[]⟩ ?_
   refine bu ((((((j+5)+64)+1)+2)+4)+3) 9 ?_
   obtain ⟨_,⟨V,rfl,a5,a9⟩,aK⟩:=Dk C I H L M (((((((j+5)+64)+1)+2)+4)+3)+9) x (E.Ab J) Z rfl
   refine ch aK ?_
   refine nv ⟨[B,z,A,C,I,H,L,M,j,(j+5),(v.length:Int),((j+5)+64),(((j+5)+64)+1),((((j+5)+64)+1)+2),(((((j+5)+64)+1)+2)+4),((((((j+5)+64)+1)+2)+4)+3),(((((((j+5)+64)+1)+2)+4)+3)+9),V],[v,x],[(Ax ps),(S.Ab fb),(E.Ab J)],[]⟩ ?_
   refine bu V 3 ?_
   refine nv ⟨[B,z,A,C,I,H,L,M,j,(j+5),(v.length:Int),((j+5)+64),(((j+5)+64)+1),((((j+5)+64)+1)+2),(((((j+5)+64)+1)+2)+4),((((((j+5)+64)+1)+2)+4)+3),(((((((j+5)+64)+1)+2)+4)+3)+9),V,(V+3)],[v,x],[(Ax ps),(S.Ab fb),(E.Ab J)],[]⟩ ?_
   exact Ah ⟨[(V+3)],[],[],[]⟩ (⟨_,rfl,kn,kn⟩)
  refine cm ak ?_
  refine ch ak ?_
  refine nv ⟨[B,z,A,C,I,H,L,M,j,(j+5),(v.length:Int),((j+5)+64),(((j+5)+64)+1),((((j+5)+64)+1)+2),(((((j+5)+64)+1)+2)+4),((((((j+5)+64)+1)+2)+4)+3),N],[v,x],[(Ax ps),(S.Ab fb),(E.Ab J)],[]⟩ ?_
  refine bu N 9 ?_
  obtain ⟨_,⟨Y,rfl,a7,aW⟩,aI⟩:=Dk C I H L M (N+9) x (E.Ab J) Z rfl
  refine ch aI ?_
  refine nv ⟨[B,z,A,C,I,H,L,M,j,(j+5),(v.length:Int),((j+5)+64),(((j+5)+64)+1),((((j+5)+64)+1)+2),(((((j+5)+64)+1)+2)+4),((((((j+5)+64)+1)+2)+4)+3),N,(N+9),Y],[v,x],[(Ax ps),(S.Ab fb),(E.Ab J)],[]⟩ ?_
  refine bu Y 3 ?_
  refine nv ⟨[B,z,A,C,I,H,L,M,j,(j+5),(v.length:Int),((j+5)+64),(((j+5)+64)+1),((((j+5)+64)+1)+2),(((((j+5)+64)+1)+2)+4),((((((j+5)+64)+1)+2)+4)+3),N,(N+9),Y,(Y+3)],[v,x],[(Ax ps),(S.Ab fb),(E.Ab J)],[]⟩ ?_
  exact Ah ⟨[(Y+3)],[],[],[]⟩ (⟨_,rfl,kn,kn⟩)
 refine cm G2 ?_
 refine ch G2 ?_
 refine nv ⟨[B,z,A,C,I,H,L,M,j,(j+5),(v.length:Int),((j+5)+64),(((j+5)+64)+1),q],[v,x],[(Ax ps),(S.Ab fb),(E.Ab J)],[]⟩ ?_
 refine bu q 2 ?_
 refine JY (z-1) 0 ?_
 refine LA (z-1) 3 ?_
 refine eq (z-1) 0 (fun aM=>?_) fun aM=>?_
 ·refine bu (q+2) 3 ?_
  refine nv ⟨[B,z,A,C,I,H,L,M,j,(j+5),(v.length:Int),((j+5)+64),(((j+5)+64)+1),q,(q+2),((q+2)+3)],[v,x],[(Ax ps),(S.Ab fb),(E.Ab J)],[]⟩ ?_
  refine bu ((q+2)+3) 3 ?_
  obtain ⟨_,(rfl|⟨Q,rfl,aw,aO⟩),al⟩:=V5 (KQ.of (n:=1000) @JQ) A (((q+2)+3)+3) [32,32] (S.Ab fb) hO rfl
  ·refine ch al ?_
   refine nv ⟨[B,z,A,C,I,H,L,M,j,(j+5),(v.length:Int),((j+5)+64),(((j+5)+64)+1),q,(q+2),((q+2)+3),(((q+2)+3)+3)],[v,x],[(Ax ps),(S.Ab fb),(E.Ab J)],[]⟩ ?_
   refine bu (((q+2)+3)+3) 9 ?_
   refine nv ⟨[B,z,A,C,I,H,L,M,j,(j+5),(v.length:Int),((j+5)+64),(((j+5)+64)+1),q,(q+2),((q+2)+3),(((q+2)+3)+3),((((q+2)+3)+3)+9)],[v,x],[(Ax ps),(S.Ab fb),(E.Ab J)],[]⟩ ?_
   obtain ⟨_,⟨af,rfl,a1,aU⟩,aJ⟩:=Dk C I H L M ((((q+2)+3)+3)+9) x (E.Ab J) Z rfl
   refine ch aJ ?_
   refine nv ⟨[B,z,A,C,I,H,L,M,j,(j+5),(v.length:Int),((j+5)+64),(((j+5)+64)+1),q,(q+2),((q+2)+3),(((q+2)+3)+3),((((q+2)+3)+3)+9),af],[v,x],[(Ax ps),(S.Ab fb),(E.Ab J)],[]⟩ ?_
   refine bu af 3 ?_
   exact Ah ⟨[(af+3)],[],[],[]⟩ (⟨_,rfl,kn,kn⟩)
  refine cm al ?_
  refine ch al ?_
  refine nv ⟨[B,z,A,C,I,H,L,M,j,(j+5),(v.length:Int),((j+5)+64),(((j+5)+64)+1),q,(q+2),((q+2)+3),(((q+2)+3)+3),Q],[v,x],[(Ax ps),(S.Ab fb),(E.Ab J)],[]⟩ ?_
  refine bu Q 9 ?_
  refine nv ⟨[B,z,A,C,I,H,L,M,j,(j+5),(v.length:Int),((j+5)+64),(((j+5)+64)+1),q,(q+2),((q+2)+3),(((q+2)+3)+3),Q,(Q+9)],[v,x],[(Ax ps),(S.Ab fb),(E.Ab J)],[]⟩ ?_
  obtain ⟨_,⟨ah,rfl,aY,bg⟩,aC⟩:=Dk C I H L M (Q+9) x (E.Ab J) Z rfl
  refine ch aC ?_
  refine nv ⟨[B,z,A,C,I,H,L,M,j,(j+5),(v.length:Int),((j+5)+64),(((j+5)+64)+1),q,(q+2),((q+2)+3),(((q+2)+3)+3),Q,(Q+9),ah],[v,x],[(Ax ps),(S.Ab fb),(E.Ab J)],[]⟩ ?_
  refine bu ah 3 ?_
  exact Ah ⟨[(ah+3)],[],[],[]⟩ (⟨_,rfl,kn,kn⟩)
 refine eq (z-1) 1 (fun aP=>?_) fun aP=>?_
 ·refine bu (q+2) 3 ?_
  refine nv ⟨[B,z,A,C,I,H,L,M,j,(j+5),(v.length:Int),((j+5)+64),(((j+5)+64)+1),q,(q+2),((q+2)+3)],[v,x],[(Ax ps),(S.Ab fb),(E.Ab J)],[]⟩ ?_
  refine bu ((q+2)+3) 3 ?_
  obtain ⟨_,(rfl|⟨O,rfl,ax,aA⟩),ao⟩:=V5 (KQ.of (n:=1000) @JQ) A (((q+2)+3)+3) [32,32] (S.Ab fb) hO rfl
  ·refine ch ao ?_
   refine nv ⟨[B,z,A,C,I,H,L,M,j,(j+5),(v.length:Int),((j+5)+64),(((j+5)+64)+1),q,(q+2),((q+2)+3),(((q+2)+3)+3)],[v,x],[(Ax ps),(S.Ab fb),(E.Ab J)],[]⟩ ?_
   refine bu (((q+2)+3)+3) 9 ?_
   refine nv ⟨[B,z,A,C,I,H,L,M,j,(j+5),(v.length:Int),((j+5)+64),(((j+5)+64)+1),q,(q+2),((q+2)+3),(((q+2)+3)+3),((((q+2)+3)+3)+9)],[v,x],[(Ax ps),(S.Ab fb),(E.Ab J)],[]⟩ ?_
   obtain ⟨_,⟨ag,rfl,aR,be⟩,aB⟩:=Dk C I H L M ((((q+2)+3)+3)+9) x (E.Ab J) Z rfl
   refine ch aB ?_
   refine nv ⟨[B,z,A,C,I,H,L,M,j,(j+5),(v.length:Int),((j+5)+64),(((j+5)+64)+1),q,(q+2),((q+2)+3),(((q+2)+3)+3),((((q+2)+3)+3)+9),ag],[v,x],[(Ax ps),(S.Ab fb),(E.Ab J)],[]⟩ ?_
   refine bu ag 3 ?_
   exact Ah ⟨[(ag+3)],[],[],[]⟩ (⟨_,rfl,kn,kn⟩)
  refine cm ao ?_
  refine ch ao ?_
  refine nv ⟨[B,z,A,C,I,H,L,M,j,(j+5),(v.length:Int),((j+5)+64),(((j+5)+64)+1),q,(q+2),((q+2)+3),(((q+2)+3)+3),O],[v,x],[(Ax ps),(S.Ab fb),(E.Ab J)],[]⟩ ?_
  refine bu O 9 ?_
  refine nv ⟨[B,z,A,C,I,H,L,M,j,(j+5),(v.length:Int),((j+5)+64),(((j+5)+64)+1),q,(q+2),((q+2)+3),(((q+2)+3)+3),O,(O+9)],[v,x],[(Ax ps),(S.Ab fb),(E.Ab J)],[]⟩ ?_
  obtain ⟨_,⟨ad,rfl,a3,bb⟩,az⟩:=Dk C I H L M (O+9) x (E.Ab J) Z rfl
  refine ch az ?_
  refine nv ⟨[B,z,A,C,I,H,L,M,j,(j+5),(v.length:Int),((j+5)+64),(((j+5)+64)+1),q,(q+2),((q+2)+3),(((q+2)+3)+3),O,(O+9),ad],[v,x],[(Ax ps),(S.Ab fb),(E.Ab J)],[]⟩ ?_
  refine bu ad 3 ?_
  exact Ah ⟨[(ad+3)],[],[],[]⟩ (⟨_,rfl,kn,kn⟩)
 refine Bw (z-1) 2 ?_
 refine bu (q+2) 4 ?_
 refine nv ⟨[B,z,A,C,I,H,L,M,j,(j+5),(v.length:Int),((j+5)+64),(((j+5)+64)+1),q,(q+2),((q+2)+4)],[v,x],[(Ax ps),(S.Ab fb),(E.Ab J)],[]⟩ ?_
 refine bu ((q+2)+4) 3 ?_
 obtain ⟨_,(rfl|⟨P,rfl,aL,aE⟩),an⟩:=V5 (KQ.of (n:=1000) @JQ) A (((q+2)+4)+3) [32,32] (S.Ab fb) hO rfl
 ·refine ch an ?_
  refine nv ⟨[B,z,A,C,I,H,L,M,j,(j+5),(v.length:Int),((j+5)+64),(((j+5)+64)+1),q,(q+2),((q+2)+4),(((q+2)+4)+3)],[v,x],[(Ax ps),(S.Ab fb),(E.Ab J)],[]⟩ ?_
  refine bu (((q+2)+4)+3) 9 ?_
  refine nv ⟨[B,z,A,C,I,H,L,M,j,(j+5),(v.length:Int),((j+5)+64),(((j+5)+64)+1),q,(q+2),((q+2)+4),(((q+2)+4)+3),((((q+2)+4)+3)+9)],[v,x],[(Ax ps),(S.Ab fb),(E.Ab J)],[]⟩ ?_
  obtain ⟨_,⟨ai,rfl,aZ,bf⟩,av⟩:=Dk C I H L M ((((q+2)+4)+3)+9) x (E.Ab J) Z rfl
  refine ch av ?_
  refine nv ⟨[B,z,A,C,I,H,L,M,j,(j+5),(v.length:Int),((j+5)+64),(((j+5)+64)+1),q,(q+2),((q+2)+4),(((q+2)+4)+3),((((q+2)+4)+3)+9),ai],[v,x],[(Ax ps),(S.Ab fb),(E.Ab J)],[]⟩ ?_
  refine bu ai 3 ?_
  exact Ah ⟨[(ai+3)],[],[],[]⟩ (⟨_,rfl,kn,kn⟩)
 refine cm an ?_
 refine ch an ?_
 refine nv ⟨[B,z,A,C,I,H,L,M,j,(j+5),(v.length:Int),((j+5)+64),(((j+5)+64)+1),q,(q+2),((q+2)+4),(((q+2)+4)+3),P],[v,x],[(Ax ps),(S.Ab fb),(E.Ab J)],[]⟩ ?_
 refine bu P 9 ?_
 refine nv ⟨[B,z,A,C,I,H,L,M,j,(j+5),(v.length:Int),((j+5)+64),(((j+5)+64)+1),q,(q+2),((q+2)+4),(((q+2)+4)+3),P,(P+9)],[v,x],[(Ax ps),(S.Ab fb),(E.Ab J)],[]⟩ ?_
 obtain ⟨_,⟨ae,rfl,ba,aQ⟩,aD⟩:=Dk C I H L M (P+9) x (E.Ab J) Z rfl
 refine ch aD ?_
 refine nv ⟨[B,z,A,C,I,H,L,M,j,(j+5),(v.length:Int),((j+5)+64),(((j+5)+64)+1),q,(q+2),((q+2)+4),(((q+2)+4)+3),P,(P+9),ae],[v,x],[(Ax ps),(S.Ab fb),(E.Ab J)],[]⟩ ?_
 refine bu ae 3 ?_
 exact Ah ⟨[(ae+3)],[],[],[]⟩ (⟨_,rfl,kn,kn⟩)
def Aqs (N n:Nat):Prop:=∀{l:List Fe} (ln len:Int) (j g:Int) (sub B:Int) (pl fl:Int) (H v:Int) (z:List Nat) (L C:Rs) (P A R:Rs) (M:L=A5 l) (J:YA l) (I:FsU l) (h:ln=L.length/\len=ln/\0<=j/\j<=ln/\ln<=8/\ln<=2/\0<=v/\v+80000*(ln-j)<=200000/\(ln-j).toNat<n),Ok trees N ⟨[ln,len,j,g,sub,B,pl,fl,H,v],[z],[L,C,P,A,R],[]⟩ fun x=>(x=(0,v0))∨(∃(q:Int),x=(1,(⟨[q],[],[],[]⟩:Aj))/\(q<=200000)/\(v<=q))
def ApH (N:Nat):Prop:=∀{l:List Fe} (ln len:Int) (j g:Int) (sub B:Int) (pl fl:Int) (H v:Int) (z:List Nat) (L C:Rs) (P A R:Rs) (M:L=A5 l) (J:YA l) (I:FsU l) (h:ln=L.length/\len=ln/\0<=j/\j<=ln/\ln<=8/\ln<=2/\0<=v/\v+80000*(ln-j)<=200000:=by exact kn),Ok trees N ⟨[ln,len,j,g,sub,B,pl,fl,H,v],[z],[L,C,P,A,R],[]⟩ fun x=>(x=(0,v0))∨(∃(q:Int),x=(1,(⟨[q],[],[],[]⟩:Aj))/\(q<=200000)/\(v<=q))
theorem AnW (n:Nat):Aqs 80 n:=by
 induction n with
 |zero=>intro l ln len j g sub al pl fl rl sz U L Ar P Fs R hL X M h;exact absurd h.2.2.2.2.2.2.2.2 (Nat.not_lt_zero _)
 |succ n ih=>
 intro l ln len j g sub al pl fl rl sz U L Ar P Fs R hL X M h
 subst hL
 refine .of (t:=Afk) rfl ?_
 conv=>arg 3;reduce
 refine lt j len (fun t1=>?_) fun t1=>?_
 ·refine Dv j 0 ?_
  refine CF j ln ?_
  obtain ⟨Z,A,z,v,J,C,O,H,N,x,V,I⟩:=HZ (l:=l) j om om
  refine el V ?_
  have q:=X _ _ I;obtain ⟨aH,aG,ay⟩:=q.a;have aq:(Ax A).length<=2:=(by have:=q.pl;simpa [Ax]using this);have ak:S.Az v<=2:=q.dp;have ao:S.Ad v<=160:=q.nd;have aw:(E.node J C O N H x).nodes<=13:=q.rn;have ah:(E.node J C O N H x).high<=5:=q.rh;have aj:1<=z/\z<=3:=q.ty;have ap:=S.len v;have au:=S.A7 v;have ai:=E.A7 x;obtain ⟨aE,aF,aB,aA⟩:=M _ _ I
  obtain ⟨_,rfl,G3⟩:=AoN ((S.Ab v).length:Int) (S.Ab v) asm rfl
  refine cm G3 ?_
  refine ch G3 ?_
  obtain ⟨_,⟨B,rfl,aC,aD⟩,G4⟩:=Amd ((Ax A).length:Int) z ((S.Ab v).length:Int) J C O N ((E.Ab x).length:Int) sz Z H (Ax A) (S.Ab v) (E.Ab x) rfl q.ps q.nm rfl rfl q.fb asm
  refine ch G4 ?_
  obtain ⟨_,(rfl|⟨Q,rfl,av,an⟩),Y⟩:=ih ln len (j+1) g sub al pl fl rl B U (A5 l) Ar P Fs R rfl X M kn
  ·refine ch Y ?_
   exact Ah ⟨[B],[],[],[]⟩ (.inr ((⟨_,rfl,kn,kn⟩)))
  refine cm Y ?_
  refine ch Y ?_
  exact Ah ⟨[Q],[],[],[]⟩ (.inr ((⟨_,rfl,kn,kn⟩)))
 exact Ah v0 (.inl rfl)
theorem AdT:ApH 80:=fun {l} ln len j g sub al pl fl rl sz knm L Ar P Fs R hL hp hpu h=>AnW ((ln-j).toNat+1) ln len j g sub al pl fl rl sz knm L Ar P Fs R hL hp hpu ⟨h.1,h.2.1,h.2.2.1,h.2.2.2.1,h.2.2.2.2.1,h.2.2.2.2.2.1,h.2.2.2.2.2.2.1,h.2.2.2.2.2.2.2,Nat.lt_succ_self _⟩
end
section
set_option maxHeartbeats 4000000
set_option maxRecDepth 100000
open Go.AM Go.AM.K
def Aqc (N:Nat):Prop:=∀{z:List Ae} {pv:List Pe} {fs:List Fe} {l:List S} (g sub:Int) (v pl:Int) (fl A:Int) (j:List Nat) (x P:Rs) (q R:Rs) (C:Nm j) (L:x=Ay z) (U:P=Ax pv) (H:q=A5 fs) (M:YB z) (O:Y9 pv) (Q:YA fs) (J:FsU fs) (V:R=S.Ab l) (I:PL l) (h:v=x.length/\v<=8/\pl=P.length/\pl<=8/\fl=q.length/\fl<=2/\A=R.length/\S.Ad l<=1600/\S.Az l<=10/\(g=4∨g=1∨g=2∨g=8∨g=6)/\0<=sub/\sub<=32:=by exact kn),Ok trees N ⟨[g,sub,v,pl,fl,A],[j],[x,P,q,R],[]⟩ fun B=>(B=(1,v0))
theorem AoZ:Aqc 49:=by
 intro A pv fs l g sub x pl fl j q Ar P Fs R ab aw hP aA aC ac M H hR v h
 subst aw;subst hP;subst aA;subst hR;have bc:=S.len l;have bb:=S.A7 l;have be:([]:List Nat).length=0:=rfl;have bf:=ab.len
 refine .of (t:=Af6) rfl ?_
 conv=>arg 3;reduce
 obtain ⟨_,rfl,G1⟩:=AoX g sub x pl fl j q (Ay A) (Ax pv) (A5 fs) (S.Ab l) rfl M rfl v
 refine ch G1 ?_
 obtain ⟨_,rfl,G2⟩:=Gz q ab
 refine ch G2 ?_
 refine sl q ?_
 refine Dv g (-9223372036854775808) ?_
 refine E6 g 9223372036854775807 ?_
 refine Dv sub (-9223372036854775808) ?_
 refine E6 sub 9223372036854775807 ?_
 obtain ⟨_,(rfl|⟨z,rfl,aH,aO⟩),G3⟩:=AoO x x 0 g sub x pl fl j 126 q (Ay A) (Ay A) (Ax pv) (A5 fs) (S.Ab l) rfl aC
 ·refine ch G3 ?_
  obtain ⟨_,(rfl|⟨C,rfl,aQ,aP⟩),G4⟩:=Alg pl pl 0 g sub x pl fl j 126 q (Ax pv) (Ay A) (Ax pv) (A5 fs) (S.Ab l) rfl ac
  ·refine ch G4 ?_
   obtain ⟨_,(rfl|⟨aa,rfl,aK,aN⟩),G5⟩:=AdT fl fl 0 g sub x pl fl j 126 q (A5 fs) (Ay A) (Ax pv) (A5 fs) (S.Ab l) rfl M H
   ·refine ch G5 ?_
    obtain ⟨_,⟨aj,rfl,a0,a9⟩,G6⟩:=JQ j 126 [] (S.Ab l) v rfl
    refine ch G6 ?_
    refine bu aj 1 ?_
    exact Ah v0 (rfl)
   refine cm G5 ?_
   refine ch G5 ?_
   obtain ⟨_,⟨ad,rfl,a6,a2⟩,G7⟩:=JQ j aa [] (S.Ab l) v rfl
   refine ch G7 ?_
   refine bu ad 1 ?_
   exact Ah v0 (rfl)
  refine cm G4 ?_
  refine ch G4 ?_
  obtain ⟨_,(rfl|⟨X,rfl,aI,aW⟩),G8⟩:=AdT fl fl 0 g sub x pl fl j C q (A5 fs) (Ay A) (Ax pv) (A5 fs) (S.Ab l) rfl M H
  ·refine ch G8 ?_
   obtain ⟨_,⟨ag,rfl,a1,a8⟩,G9⟩:=JQ j C [] (S.Ab l) v rfl
   refine ch G9 ?_
   refine bu ag 1 ?_
   exact Ah v0 (rfl)
  refine cm G8 ?_
  refine ch G8 ?_
  obtain ⟨_,⟨V,rfl,aR,aF⟩,au⟩:=JQ j X [] (S.Ab l) v rfl
  refine ch au ?_
  refine bu V 1 ?_
  exact Ah v0 (rfl)
 refine cm G3 ?_
 refine ch G3 ?_
 obtain ⟨_,(rfl|⟨B,rfl,ao,ax⟩),I⟩:=Alg pl pl 0 g sub x pl fl j z q (Ax pv) (Ay A) (Ax pv) (A5 fs) (S.Ab l) rfl ac
 ·refine ch I ?_
  obtain ⟨_,(rfl|⟨J,rfl,an,aq⟩),L⟩:=AdT fl fl 0 g sub x pl fl j z q (A5 fs) (Ay A) (Ax pv) (A5 fs) (S.Ab l) rfl M H
  ·refine ch L ?_
   obtain ⟨_,⟨Y,rfl,aU,aG⟩,ay⟩:=JQ j z [] (S.Ab l) v rfl
   refine ch ay ?_
   refine bu Y 1 ?_
   exact Ah v0 (rfl)
  refine cm L ?_
  refine ch L ?_
  obtain ⟨_,⟨Q,rfl,aV,aL⟩,aD⟩:=JQ j J [] (S.Ab l) v rfl
  refine ch aD ?_
  refine bu Q 1 ?_
  exact Ah v0 (rfl)
 refine cm I ?_
 refine ch I ?_
 obtain ⟨_,(rfl|⟨O,rfl,ak,aB⟩),N⟩:=AdT fl fl 0 g sub x pl fl j B q (A5 fs) (Ay A) (Ax pv) (A5 fs) (S.Ab l) rfl M H
 ·refine ch N ?_
  obtain ⟨_,⟨U,rfl,aM,aE⟩,az⟩:=JQ j B [] (S.Ab l) v rfl
  refine ch az ?_
  refine bu U 1 ?_
  exact Ah v0 (rfl)
 refine cm N ?_
 refine ch N ?_
 obtain ⟨_,⟨Z,rfl,aJ,aX⟩,ap⟩:=JQ j O [] (S.Ab l) v rfl
 refine ch ap ?_
 refine bu Z 1 ?_
 exact Ah v0 (rfl)
def Aqd (N:Nat):Prop:=∀{z:List Ae} {pv:List Pe} {fs:List Fe} {l:List S} (g sub:Int) (v pl:Int) (fl A:Int) (j:List Nat) (x P:Rs) (q R:Rs) (C:Nm j) (L:x=Ay z) (U:P=Ax pv) (H:q=A5 fs) (M:YB z) (O:Y9 pv) (Q:YA fs) (J:FsU fs) (V:R=S.Ab l) (I:PL l) (h:v=x.length/\v<=8/\pl=P.length/\pl<=8/\fl=q.length/\fl<=2/\A=R.length/\S.Ad l<=1600/\S.Az l<=10/\(g=4∨g=1∨g=2∨g=8∨g=6)/\0<=sub/\sub<=32:=by exact kn),Ok trees N ⟨[g,sub,v,pl,fl,A],[j],[x,P,q,R],[]⟩ fun B=>(B=(1,v0))
theorem Apa:Aqd 48:=by
 intro L pv fs l g sub J pl fl M H Z P Y R j q N x B v I A O z h
 subst q;subst N;subst x;subst O;have U:=S.len l;have Q:=S.A7 l;have V:([]:List Nat).length=0:=rfl;have X:=j.len
 refine .of (t:=Af7) rfl ?_
 conv=>arg 3;reduce
 obtain ⟨_,rfl,C⟩:=AoZ g sub J pl fl M H (Ay L) (Ax pv) (A5 fs) (S.Ab l) j rfl rfl rfl B v I A rfl z
 refine cm C ?_
 refine ch C ?_
 exact Ah v0 (rfl)
def Aqe (N:Nat):Prop:=∀{B H:Ctx} {l:List S} (j:List Ae) (pv:List Pe) (fs:List Fe) (g sub:Int) (x pl:Int) (fl A:Int) (q:List Nat) (z P:Rs) (v R:Rs) (J:Nm q) (V:z=Ay j) (hP:P=Ax pv) (L:v=A5 fs) (X:YB j) (Y:Y9 pv) (Z:YA fs) (O:FsU fs) (hR:R=S.Ab l) (hs:Cz g sub) (hK:FsG j fs) (U:Y5 [] j) (I:FrP (am j) pv) (Q:FrF (am j++pm pv) fs) (M:EK 0 0 B l H) (hC:Ck B ((Ay j).length:Int) ((A5 fs).length:Int) (Ay j) (A5 fs) (am j++pm pv++fm fs)) (h:x=z.length/\x<=8/\pl=P.length/\pl<=8/\fl=v.length/\fl<=2/\A=R.length/\S.Ad l<=1600/\S.Az l<=10/\(g=4∨g=1∨g=2∨g=8∨g=6)/\0<=sub/\sub<=32:=by exact kn),Ok trees N ⟨[g,sub,x,pl,fl,A],[q],[z,P,v,R],[]⟩ fun C=>(C=(1,(⟨[0,g,sub,x,pl,fl,A,0],[q],[z,P,v,R],[(am j++pm pv++fm fs)]⟩:Aj)))
theorem Apb:Aqe 46:=by
 intro Γb Γz l j pv fs g sub al pl fl v q Ar P Fs R x I hP M B J L O hR hs Y A C H z U h
 subst I;subst hP;subst M;subst hR;have ag:=S.len l;have af:=S.A7 l;have ah:([]:List Nat).length=0:=rfl;have ai:=x.len;obtain ⟨rfl,an,rfl,ae,rfl,ak,aj⟩:=h
 refine .of (t:=Af8) rfl ?_
 conv=>arg 3;reduce
 obtain ⟨_,rfl,Q⟩:=Apa g sub ((Ay j).length:Int) ((Ax pv).length:Int) ((A5 fs).length:Int) v q (Ay j) (Ax pv) (A5 fs) (S.Ab l) x rfl rfl rfl B J L O rfl z.pl
 refine cm Q ?_
 refine ch Q ?_
 obtain ⟨_,rfl,N⟩:=Amb g sub ((Ay j).length:Int) ((Ax pv).length:Int) ((A5 fs).length:Int) v q (Ay j) (Ax pv) (A5 fs) (S.Ab l) rfl B hs
 refine cm N ?_
 refine ch N ?_
 obtain ⟨_,⟨ab,rfl,rfl⟩,Z⟩:=Ama j pv fs g sub ((Ay j).length:Int) ((Ax pv).length:Int) ((A5 fs).length:Int) v q (Ay j) (Ax pv) (A5 fs) (S.Ab l) rfl rfl rfl A C H
 refine ch Z ?_
 obtain ⟨_,rfl,V⟩:=AlW 0 ((A5 fs).length:Int) 0 g sub ((Ay j).length:Int) ((Ax pv).length:Int) ((A5 fs).length:Int) v g sub ((Ay j).length:Int) ((Ax pv).length:Int) ((A5 fs).length:Int) v 0 q q (Ay j) (Ax pv) (A5 fs) (S.Ab l) (Ay j) (Ax pv) (A5 fs) (S.Ab l) (am j++pm pv++fm fs) rfl rfl Y L A
 refine ch V ?_
 refine Bw 0 0 ?_
 obtain ⟨_,⟨X,rfl,rfl⟩,G5⟩:=AlT v g sub ((Ay j).length:Int) ((Ax pv).length:Int) ((A5 fs).length:Int) v 0 q (S.Ab l) (Ay j) (Ax pv) (A5 fs) (S.Ab l) (am j++pm pv++fm fs) U z rfl
 refine ch G5 ?_
 exact Ah ⟨[0,g,sub,((Ay j).length:Int),((Ax pv).length:Int),((A5 fs).length:Int),v,0],[q],[(Ay j),(Ax pv),(A5 fs),(S.Ab l)],[(am j++pm pv++fm fs)]⟩ (rfl)
def Aqf (N:Nat):Prop:=∀{B H:Ctx} {l:List S} (j:List Ae) (pv:List Pe) (fs:List Fe) (g sub:Int) (x pl:Int) (fl A:Int) (q:List Nat) (z P:Rs) (v R:Rs) (J:Nm q) (V:z=Ay j) (hP:P=Ax pv) (L:v=A5 fs) (X:YB j) (Y:Y9 pv) (Z:YA fs) (O:FsU fs) (hR:R=S.Ab l) (hs:Cz g sub) (hK:FsG j fs) (U:Y5 [] j) (I:FrP (am j) pv) (Q:FrF (am j++pm pv) fs) (M:EK 0 0 B l H) (hC:Ck B ((Ay j).length:Int) ((A5 fs).length:Int) (Ay j) (A5 fs) (am j++pm pv++fm fs)) (h:x=z.length/\x<=8/\pl=P.length/\pl<=8/\fl=v.length/\fl<=2/\A=R.length/\S.Ad l<=1600/\S.Az l<=10/\(g=4∨g=1∨g=2∨g=8∨g=6)/\0<=sub/\sub<=32:=by exact kn),Ok trees N ⟨[g,sub,x,pl,fl,A],[q],[z,P,v,R],[]⟩ fun C=>(C=(0,(⟨[0],[],[],[]⟩:Aj)))
theorem Apc:Aqf 44:=by
 intro Γb Γz l C pv fs g sub U pl fl V M Ar P Fs R j x X A J z Q H Y hs O I q v B N h
 subst x;subst X;subst A;subst Y;have aa:=S.len l;have Z:=S.A7 l;have ab:([]:List Nat).length=0:=rfl;have ac:=j.len
 refine .of (t:=Af9) rfl ?_
 conv=>arg 3;reduce
 obtain ⟨_,rfl,L⟩:=Apb C pv fs g sub U pl fl V M (Ay C) (Ax pv) (A5 fs) (S.Ab l) j rfl rfl rfl J z Q H rfl hs O I q v B N
 refine cm L ?_
 refine ch L ?_
 exact Ah ⟨[0],[],[],[]⟩ (rfl)
end
end Go.Proofs.YtaolbokoijfhnaaGreatDoor.Am
