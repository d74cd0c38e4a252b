/- Part 2 of MeaningCalls. -/
import Derived.Test.YtaolbokoijfhnaaGreatDoorJ1
import Derived.Laws.Rows
import Derived.Laws.Cells
import Derived.Laws.CopyRow
import Derived.Laws.Append
import Derived.KernelRfl
import Derived.Lib.UnsafeStr
set_option linter.all false
namespace Go.AM
section
section
variable {P:Program} {Γ:Ap} {ρ:Env} {μ:As} {tm:Tr Aa} {a:Act} {w:World}
section
variable {t e kt:TypeId} (d:Nat)
theorem JI (j:P.underlying t=some (.pointer e)) (q:Option Addr):(Op.equalIn (d+1) t (.pointer none) (.pointer q)).run P w=.ok q.isNone w:=by
 simp only [Op.equalIn,Sem.run_bind,run_underlying j,Result.andThen_ok,Sem.run_pure]
theorem Of (j:P.underlying t=some (.pointer e)) (q:Addr):(Op.equalIn (d+1) t (.pointer (some q)) (.pointer none)).run P w=.ok false w:=by
 simp only [Op.equalIn,Sem.run_bind,run_underlying j,Result.andThen_ok,Sem.run_pure]
theorem Og (j:P.underlying t=some (.pointer e)) {n:Nat} (v:AW P e=some n) (q:Addr):(Op.equalIn (d+1) t (.pointer (some q)) (.pointer (some q))).run P w=.ok true w:=by
 have hs:=Bn (w:=w) v
 by_cases h:n=0<;>simp [Op.equalIn,run_underlying j,hs,sameAddr,h]
theorem EV (j:P.underlying t=some (.slice e)) (q:Option Addr) (n m:Nat):(Op.equalIn (d+1) t (.slice none 0 0) (.slice q n m)).run P w=.ok q.isNone w:=by
 simp only [Op.equalIn,Sem.run_bind,run_underlying j,Result.andThen_ok,Sem.run_pure]
theorem GH (j:P.underlying t=some (.slice e)) (q:Addr) (n m:Nat):(Op.equalIn (d+1) t (.slice (some q) n m) (.slice none 0 0)).run P w=.ok false w:=by
 simp only [Op.equalIn,Sem.run_bind,run_underlying j,Result.andThen_ok,Sem.run_pure]
theorem JJ (j:P.underlying t=some (.map kt e)) (q:Option Nat):(Op.equalIn (d+1) t (.map none) (.map q)).run P w=.ok q.isNone w:=by
 simp only [Op.equalIn,Sem.run_bind,run_underlying j,Result.andThen_ok,Sem.run_pure]
theorem Oh (j:P.underlying t=some (.map kt e)) (q:Nat):(Op.equalIn (d+1) t (.map (some q)) (.map none)).run P w=.ok false w:=by
 simp only [Op.equalIn,Sem.run_bind,run_underlying j,Result.andThen_ok,Sem.run_pure]
variable {ps rs:Array TypeId} {va:Bool}
theorem Ol (j:P.underlying t=some (.func ps rs va)):(Op.equalIn (d+1) t .nilFunc .nilFunc).run P w=.ok true w:=by
 simp only [Op.equalIn,Sem.run_bind,run_underlying j,Result.andThen_ok,Sem.run_pure]
theorem Ti (j:P.underlying t=some (.func ps rs va)) (f:Fn) (x y:Array Value):(Op.equalIn (d+1) t (.func f x y) .nilFunc).run P w=.ok false w:=by
 simp only [Op.equalIn,Sem.run_bind,run_underlying j,Result.andThen_ok,Sem.run_pure]
theorem Th (j:P.underlying t=some (.func ps rs va)) (f:Fn) (x y:Array Value):(Op.equalIn (d+1) t .nilFunc (.func f x y)).run P w=.ok false w:=by
 simp only [Op.equalIn,Sem.run_bind,run_underlying j,Result.andThen_ok,Sem.run_pure]
variable {ms:Array (String×TypeId)}
theorem Nc (j:P.underlying t=some (.interface ms)):(Op.equalIn (d+1) t .nilIface .nilIface).run P w=.ok true w:=by
 simp only [Op.equalIn,Sem.run_bind,run_underlying j,Result.andThen_ok,Sem.run_pure]
theorem Rx (j:P.underlying t=some (.interface ms)) (u:TypeId) (v:Value):(Op.equalIn (d+1) t (.iface u v) .nilIface).run P w=.ok false w:=by
 simp only [Op.equalIn,Sem.run_bind,run_underlying j,Result.andThen_ok,Sem.run_pure]
theorem Rw (j:P.underlying t=some (.interface ms)) (u:TypeId) (v:Value):(Op.equalIn (d+1) t .nilIface (.iface u v)).run P w=.ok false w:=by
 simp only [Op.equalIn,Sem.run_bind,run_underlying j,Result.andThen_ok,Sem.run_pure]
theorem Oi (q:P.underlying t=some (.interface ms)) {u j:TypeId} (h:u≠j) (v x:Value):(Op.equalIn (d+1) t (.iface u v) (.iface j x)).run P w=.ok false w:=by
 simp only [Op.equalIn,Sem.run_bind,run_underlying q,Result.andThen_ok]
 rw [if_pos h]
 rfl
theorem Oj (q:P.underlying t=some (.interface ms)) {u:TypeId} {i:TypeInfo} (x:P.info? u=some i) (hc:i.comparable=true) (v j:Value):(Op.equalIn (d+1) t (.iface u v) (.iface u j)).run P w=(Op.equalIn d u v j).run P w:=by
 simp only [Op.equalIn,Sem.run_bind,run_underlying q,Result.andThen_ok,ne_eq,not_true_eq_false,if_false,typeInfo,run_program,x,Sem.run_pure,hc,Bool.not_true,Bool.false_eq_true]
theorem NZ (j:P.underlying t=some (.interface ms)):(Op.eqGuardIn (d+1) t .nilIface .nilIface).run P w=.ok (!ms.isEmpty) w:=by
 simp only [Op.eqGuardIn,Sem.run_bind,run_underlying j,Result.andThen_ok,Sem.run_pure]
end
theorem Qx (j:Bool) (t:TypeId) (u v:Value) (b:Bool) (hc:∀s,u≠.string s) (q:∀k n,u≠.int k n) (hf:∀k n,u≠.float k n) (x:∀k n m,u≠.complex k n m)
  (h:(Op.equalIn 10000 t u v).run P w=.ok b w):(binOp (if j then .neq else .eql) t u v).run P w=.ok (.bool (if j then !b else b)) w:=by
 cases j
 ·simp only [Bool.false_eq_true,if_false]
  unfold binOp
  cases u<;>first|(exact absurd rfl (hc _)) |(exact absurd rfl (q _ _)) |(exact absurd rfl (hf _ _)) |(exact absurd rfl (x _ _ _)) |(simp [Op.equal,Op.maxDepth,h])
 ·simp only [if_true]
  unfold binOp
  cases u<;>first|(exact absurd rfl (hc _)) |(exact absurd rfl (q _ _)) |(exact absurd rfl (hf _ _)) |(exact absurd rfl (x _ _ _)) |(simp [Op.equal,Op.maxDepth,h])
theorem Be {o:Oper} {j:Bool} {t z:TypeId} {x y:Operand} (A:o.op=.binOp (if j then .neq else .eql) t x y z) {b:Bool} {v:Aa} (H:v=.bool (.lit (bif j then !b else b)))
  (q:(eqGuard (if j then .neq else .eql) t x y (a.eval x) (a.eval y)).run P w=.ok () w)
  (hc:∀s,a.eval x≠.string s) (B:∀k n,a.eval x≠.int k n) (hf:∀k n,a.eval x≠.float k n) (C:∀k n m,a.eval x≠.complex k n m)
  (h:(Op.equalIn 10000 t (a.eval x) (a.eval y)).run P w=.ok b w):Bj P ρ μ a o w v:=by
 refine ⟨.bool (if j then !b else b),?_,?_⟩
 ·simp only [execOp,A,Sem.run_bind,q,Result.andThen_ok,Qx j t _ _ b hc B hf C h]
  simp
 ·subst H
  simp only [Ag,SB.den]
  cases j<;>rfl
theorem Kw {t:Nat}:∀{l:List Co} {r:Co},Ab9 t l=some r->r∈l/\r.t=t
 |[],r,h=>by have h:none=some r:=h;cases h
 |x::l,r,h=>by
  have h:(bif Nat.beq x.t t then some x else Ab9 t l)=some r:=h
  cases e:Nat.beq x.t t with
  |true=>
   rw [e]at h
   simp only [cond_true,oI]at h
   subst h
   exact ⟨List.mem_cons_self,Ao.1 e⟩
  |false=>
   rw [e]at h
   exact ⟨List.mem_cons_of_mem _ (Kw h).1,(Kw h).2⟩
theorem Iy:∀{x y:List (Nat×LK)},DU x y=true->x=y
 |[],[],_=>rfl
 |[],_::_,h=>by simp [DU]at h
 |_::_,[],h=>by simp [DU]at h
 |(a,k)::x,(b,j)::y,h=>by
  simp only [DU,aT]at h
  rw [Ao.1 h.1.1,Iy h.2]
  have:=Ao.1 h.1.2
  cases k<;>cases j<;>first|rfl|(simp [LK.no]at this)
theorem SP {pl:List Co} (h:QY P pl=true) {x:Co} (z:x∈pl):
  leaves P 6 x.t=some x.SF/\(∃i,P.info? x.t=some i/\i.comparable=true)/\K2 P x.t=x.agg:=by
 unfold QY at h
 have:=List.all_eq_true.1 h _ z
 simp only [aT]at this
 obtain ⟨⟨q,j⟩,v⟩:=this
 refine ⟨?_,?_,?_⟩
 ·split at q
  ·rename_i A e
   rw [e,Iy q]
  ·cases q
 ·cases e:P.info? x.t with
  |none=>rw [e]at j;simp at j
  |some i=>rw [e]at j;exact ⟨i,rfl,by simpa using j⟩
 ·rw [beq_eq]at v;simpa using v
theorem Tf (hΓ:Γ.AG ρ) {t:TypeId} {l:List (Nat×LK)} (hl:leaves P 6 t=some l) {x y:Aa} {u v:Value} {cs ds:List Aa} (A:Ag ρ μ x u) (z:Ag ρ μ y v) (j:x.cells=some cs) (q:y.cells=some ds)
  {b:Bool} (h:CZ Γ cs ds l=some b) (hb:AcU P u.cells v.cells 0 t u v) {k:Nat} (B:6<=k):
  (Op.equalIn k t u v).run P w=.ok b w:=
 Gk hΓ (A.cells j) (z.cells q) 6 t l hl k 0 u v b B hb (by
  have:Cr 0 l=l:=by unfold Cr;simp
  rw [this];exact h)
theorem Hu {o:Oper} {A:Bool} {t N:TypeId} {x y:Operand} (Q:o.op=.binOp (if A then .neq else .eql) t x y N) (hΓ:Γ.AG ρ) (L:AT ρ μ tm a) {l:List (Nat×LK)}
  (q:(∃fs,P.underlying t=some (.struct fs))∨∃k e,P.underlying t=some (.array k e)) (hl:leaves P 6 t=some l) (H:P.eqGuardType P.depth t=false) {v:Aa}
  (h:IT Γ A (.plain l) (ev tm (AD x)) (ev tm (AD y))=some v):Bj P ρ μ a o w v:=by
 unfold IT at h
 obtain ⟨b,hb,h⟩:=Ac h
 simp only [oI]at h
 have hb:Rv Γ l (ev tm (AD x)) (ev tm (AD y))=some b:=hb
 have C:=Au L x
 have B:=Au L y
 unfold Rv at hb
 split at hb
 ·rename_i Z ys R O
  rw [R]at C
  rw [O]at B
  have I:=C
  have J:=B
  obtain ⟨X,j,U⟩:=C.agg
  obtain ⟨Y,M,V⟩:=B.agg
  have z:AcU P (a.eval x).cells (a.eval y).cells 0 t (a.eval x) (a.eval y):=by
   rw [j,M]
   refine ⟨fun n hn=>⟨X,Y,rfl,rfl,Yv.whole _ _,Yv.whole _ _⟩,fun h=>?_⟩
   exfalso
   unfold DO at h
   rcases q with ⟨fs,q⟩|⟨k,e,q⟩<;>rw [q]at h<;>cases ei:P.info? t<;>rw [ei]at h<;>simp at h
  refine Be Q h.symm ?_ (by simp [j]) (by simp [j]) (by simp [j]) (by simp [j]) (Tf hΓ hl I J rfl rfl hb z (by omega))
  rw [j,M]
  exact run_eqGuard_agg w _ t x y X Y H
 ·cases hb
theorem ML {o:Oper} {A J:Bool} {t yt:TypeId} {x y:Operand} (X:o.op=.binOp (if A then .neq else .eql) t x y yt) (hΓ:Γ.AG ρ) (hT:AT ρ μ tm a) {pl:List Co}
  {ms:Array (String×TypeId)} (O:P.underlying t=some (.interface ms)) (al:QY P pl=true) (hn:J=(ms.isEmpty||DX x||DX y)) {v:Aa}
  (h:IT Γ A (.iface J pl) (ev tm (AD x)) (ev tm (AD y))=some v):Bj P ρ μ a o w v:=by
 unfold IT at h
 obtain ⟨b,hb,h⟩:=Ac h
 simp only [oI]at h
 have hb:Ry Γ J pl (ev tm (AD x)) (ev tm (AD y))=some b:=hb
 have I:=Au hT x
 have H:=Au hT y
 unfold Ry at hb
 split at hb
 ·rename_i d p d' q M L
  rw [M]at I
  rw [L]at H
  obtain ⟨u,j,hX⟩:=I.iface
  obtain ⟨u',B,hY⟩:=H.iface
  refine Be X h.symm ?_ (by simp [j]) (by simp [j]) (by simp [j]) (by simp [j]) ?_
  ·rw [j,B];cases A<;>simp [eqGuard]
  ·rw [j,B]
   unfold Ace at hb
   cases ed:Nat.beq d d' with
   |false=>
    rw [ed]at hb
    simp only [cond_false,oI]at hb
    have ak:d≠d':=fun e=>by rw [Ao.2 e]at ed;cases ed
    rw [<-hb]
    exact Oi 9999 O ak _ _
   |true=>
    rw [ed]at hb
    simp only [cond_true]at hb
    obtain ⟨hd,hl,hb⟩:=Ac hb
    unfold WS at hb
    obtain ⟨C,hb⟩:=Aq hb
    obtain ⟨cs,ab,hb⟩:=Ac hb
    obtain ⟨ds,Z,hb⟩:=Ac hb
    have:=Ao.1 ed
    subst this
    obtain ⟨ah,aj⟩:=Kw hl
    obtain ⟨ac,⟨i,hi,ai⟩,Q⟩:=SP al ah
    rw [aj]at ac hi Q
    rw [aT,beq_eq,beq_eq,beq_iff_eq,beq_iff_eq]at C
    refine (Oj 9999 O hi ai _ _).trans ?_
    have Y:AcU P u.cells u'.cells 0 d u u':=by
     refine ⟨fun n hn=>?_,fun h1=>?_⟩
     ·have ha:K2 P d=true:=by unfold K2;rw [hn]
      rw [<-Q,ha]at C
      cases p<;>simp [K1]at C
      cases q<;>simp [K1]at C
      obtain ⟨U,rfl,_⟩:=hX.agg
      obtain ⟨V,rfl,_⟩:=hY.agg
      exact ⟨U,V,rfl,rfl,Yv.whole _ _,Yv.whole _ _⟩
     ·have ha:K2 P d=false:=by unfold K2;rw [h1]
      rw [<-Q,ha]at C
      have R:∀{z:Aa} {v:Value} {zs:List Aa},z.cells=some zs->K1 z=false->Ag ρ μ z v->v.cells[0]?=some v:=fun {z v zs} hz hza hv=>by
       have h1:=hv.QA (by cases z<;>first|rfl|(simp [Aa.cells]at hz;done) |(simp [K1]at hza;done))
       cases v<;>first|rfl|(simp [Value.oneCell']at h1)
      exact ⟨R ab C.1 hX,R Z C.2 hY⟩
    exact Tf hΓ ac hX hY ab Z hb Y (by omega)
 ·rename_i M L
  rw [M]at I
  rw [L]at H
  have j:a.eval x=.nilIface:=by simpa only [Ag]using I
  have B:a.eval y=.nilIface:=by simpa only [Ag]using H
  obtain ⟨N,hb⟩:=Aq hb
  simp only [oI]at hb
  subst hb
  refine Be X h.symm ?_ (by simp [j]) (by simp [j]) (by simp [j]) (by simp [j]) ?_
  ·rw [j,B]
   subst hn
   have aa:(Op.eqGuardIn Op.maxDepth t .nilIface .nilIface).run P w=.ok (!ms.isEmpty) w:=NZ 9999 O
   simp only [Bool.or_eq_true]at N
   rcases N with (hms|hcx) |hcy
   ·rw [hms]at aa
    cases A<;>cases x<;>cases y<;>simp [eqGuard,aa]
   ·have:∃c,x=.const c:=by
     cases x<;>simp [DX]at hcx
     exact ⟨_,rfl⟩
    obtain ⟨c,rfl⟩:=this
    cases A<;>simp [eqGuard]
   ·have:∃c,y=.const c:=by
     cases y<;>simp [DX]at hcy
     exact ⟨_,rfl⟩
    obtain ⟨c,rfl⟩:=this
    cases A<;>cases x<;>simp [eqGuard]
  ·rw [j,B];exact Nc 9999 O
 ·rename_i d p M L
  rw [M]at I
  rw [L]at H
  have j:a.eval x=.nilIface:=by simpa only [Ag]using I
  obtain ⟨u,B,_⟩:=H.iface
  simp only [oI]at hb
  subst hb
  refine Be X h.symm ?_ (by simp [j]) (by simp [j]) (by simp [j]) (by simp [j]) ?_
  ·rw [j,B];cases A<;>simp [eqGuard]
  ·rw [j,B];exact Rw 9999 O _ _
 ·rename_i d p M L
  rw [M]at I
  rw [L]at H
  have B:a.eval y=.nilIface:=by simpa only [Ag]using H
  obtain ⟨u,j,_⟩:=I.iface
  simp only [oI]at hb
  subst hb
  refine Be X h.symm ?_ (by simp [j]) (by simp [j]) (by simp [j]) (by simp [j]) ?_
  ·rw [j,B];cases A<;>simp [eqGuard]
  ·rw [j,B];exact Rx 9999 O _ _
 ·cases hb
theorem Rb {o:Oper} {z:Bool} {t V e:TypeId} {x y:Operand} (L:o.op=.binOp (if z then .neq else .eql) t x y V) (N:AT ρ μ tm a) (M:P.underlying t=some (.pointer e)) {n:Nat} (X:AW P e=some n) {v:Aa}
  (h:IT Γ z .ptr (ev tm (AD x)) (ev tm (AD y))=some v):Bj P ρ μ a o w v:=by
 unfold IT at h
 obtain ⟨b,hb,h⟩:=Ac h
 simp only [oI]at h
 have hb:Acb (ev tm (AD x)) (ev tm (AD y))=some b:=hb
 have B:=Au N x
 have A:=Au N y
 unfold Acb at hb
 split at hb
 ·rename_i H C
  rw [H]at B
  rw [C]at A
  have j:a.eval x=.pointer none:=by simpa only [Ag]using B
  have q:a.eval y=.pointer none:=by simpa only [Ag]using A
  simp only [oI]at hb
  subst hb
  refine Be L h.symm ?_ (by simp [j]) (by simp [j]) (by simp [j]) (by simp [j]) ?_
  ·rw [j,q];cases z<;>simp [eqGuard]
  ·rw [j,q];exact JI 9999 M none
 ·rename_i R O H C
  rw [H]at B
  rw [C]at A
  have j:a.eval x=.pointer none:=by simpa only [Ag]using B
  obtain ⟨r,δ,_,_,q⟩:=A.ptr
  simp only [oI]at hb
  subst hb
  refine Be L h.symm ?_ (by simp [j]) (by simp [j]) (by simp [j]) (by simp [j]) ?_
  ·rw [j,q];cases z<;>simp [eqGuard]
  ·rw [j,q];exact JI 9999 M _
 ·rename_i R O H C
  rw [H]at B
  rw [C]at A
  have q:a.eval y=.pointer none:=by simpa only [Ag]using A
  obtain ⟨r,δ,_,_,j⟩:=B.ptr
  simp only [oI]at hb
  subst hb
  refine Be L h.symm ?_ (by simp [j]) (by simp [j]) (by simp [j]) (by simp [j]) ?_
  ·rw [j,q];cases z<;>simp [eqGuard]
  ·rw [j,q];exact Of 9999 M _
 ·rename_i b1 o1 b2 o2 H C
  rw [H]at B
  rw [C]at A
  obtain ⟨hc,J⟩:=Aq hb
  rw [aT]at hc
  have U:=Ao.1 hc.1
  have Q:=Ao.1 hc.2
  subst U Q
  obtain ⟨r,δ,m,Y,j⟩:=B.ptr
  obtain ⟨Z,δ',m',I,q⟩:=A.ptr
  rw [Y]at I
  simp only [oI,Prod.mk.injEq]at I
  obtain ⟨rfl,rfl,rfl⟩:=I
  have J:true=b:=by simpa using J
  subst J
  refine Be L h.symm ?_ (by simp [j]) (by simp [j]) (by simp [j]) (by simp [j]) ?_
  ·rw [j,q];cases z<;>simp [eqGuard]
  ·rw [j,q];exact Og 9999 M X _
 ·cases hb
theorem MK {o:Oper} {z:Bool} {t O e:TypeId} {x y:Operand} (I:o.op=.binOp (if z then .neq else .eql) t x y O) (N:AT ρ μ tm a) (L:P.underlying t=some (.slice e)) {v:Aa}
  (h:IT Γ z .slice (ev tm (AD x)) (ev tm (AD y))=some v):Bj P ρ μ a o w v:=by
 unfold IT at h
 obtain ⟨b,hb,h⟩:=Ac h
 simp only [oI]at h
 have hb:Rt (ev tm (AD x)) (ev tm (AD y))=some b:=hb
 have B:=Au N x
 have A:=Au N y
 unfold Rt at hb
 split at hb
 ·rename_i C H
  rw [C]at B
  rw [H]at A
  have j:a.eval x=.slice none 0 0:=by simpa only [Ag]using B
  have q:a.eval y=.slice none 0 0:=by simpa only [Ag]using A
  simp only [oI]at hb
  subst hb
  refine Be I h.symm ?_ (by simp [j]) (by simp [j]) (by simp [j]) (by simp [j]) ?_
  ·rw [j,q];cases z<;>simp [eqGuard]
  ·rw [j,q];exact EV 9999 L none 0 0
 ·rename_i M J len cap C H
  rw [C]at B
  rw [H]at A
  have q:a.eval y=.slice none 0 0:=by simpa only [Ag]using A
  obtain ⟨r,δ,m,_,j,_⟩:=B.slice
  simp only [oI]at hb
  subst hb
  refine Be I h.symm ?_ (by simp [j]) (by simp [j]) (by simp [j]) (by simp [j]) ?_
  ·rw [j,q];cases z<;>simp [eqGuard]
  ·rw [j,q];exact GH 9999 L _ _ _
 ·rename_i M J len cap C H
  rw [C]at B
  rw [H]at A
  have j:a.eval x=.slice none 0 0:=by simpa only [Ag]using B
  obtain ⟨r,δ,m,_,q,_⟩:=A.slice
  simp only [oI]at hb
  subst hb
  refine Be I h.symm ?_ (by simp [j]) (by simp [j]) (by simp [j]) (by simp [j]) ?_
  ·rw [j,q];cases z<;>simp [eqGuard]
  ·rw [j,q];exact EV 9999 L _ _ _
 ·rename_i M J len cap C H
  rw [C]at B
  rw [H]at A
  have q:a.eval y=.slice none 0 0:=by simpa only [Ag]using A
  obtain ⟨r,δ,m,c,_,j,_⟩:=B.gslice
  simp only [oI]at hb
  subst hb
  refine Be I h.symm ?_ (by simp [j]) (by simp [j]) (by simp [j]) (by simp [j]) ?_
  ·rw [j,q];cases z<;>simp [eqGuard]
  ·rw [j,q];exact GH 9999 L _ _ _
 ·rename_i M J len cap C H
  rw [C]at B
  rw [H]at A
  have j:a.eval x=.slice none 0 0:=by simpa only [Ag]using B
  obtain ⟨r,δ,m,c,_,q,_⟩:=A.gslice
  simp only [oI]at hb
  subst hb
  refine Be I h.symm ?_ (by simp [j]) (by simp [j]) (by simp [j]) (by simp [j]) ?_
  ·rw [j,q];cases z<;>simp [eqGuard]
  ·rw [j,q];exact EV 9999 L _ _ _
 ·cases hb
theorem Rc {o:Oper} {z:Bool} {t N k e:TypeId} {x y:Operand} (I:o.op=.binOp (if z then .neq else .eql) t x y N) (L:AT ρ μ tm a) (J:P.underlying t=some (.map k e)) {v:Aa}
  (h:IT Γ z .map (ev tm (AD x)) (ev tm (AD y))=some v):Bj P ρ μ a o w v:=by
 unfold IT at h
 obtain ⟨b,hb,h⟩:=Ac h
 simp only [oI]at h
 have hb:Acd (ev tm (AD x)) (ev tm (AD y))=some b:=hb
 have B:=Au L x
 have A:=Au L y
 unfold Acd at hb
 split at hb
 ·rename_i C H
  rw [C]at B
  rw [H]at A
  have j:a.eval x=.map none:=by simpa only [Ag]using B
  have q:a.eval y=.map none:=by simpa only [Ag]using A
  simp only [oI]at hb
  subst hb
  refine Be I h.symm ?_ (by simp [j]) (by simp [j]) (by simp [j]) (by simp [j]) ?_
  ·rw [j,q];cases z<;>simp [eqGuard]
  ·rw [j,q];exact JJ 9999 J none
 ·rename_i M C H
  rw [C]at B
  rw [H]at A
  have q:a.eval y=.map none:=by simpa only [Ag]using A
  obtain ⟨r,_,j⟩:=B.NT
  simp only [oI]at hb
  subst hb
  refine Be I h.symm ?_ (by simp [j]) (by simp [j]) (by simp [j]) (by simp [j]) ?_
  ·rw [j,q];cases z<;>simp [eqGuard]
  ·rw [j,q];exact Oh 9999 J _
 ·rename_i M C H
  rw [C]at B
  rw [H]at A
  have j:a.eval x=.map none:=by simpa only [Ag]using B
  obtain ⟨r,_,q⟩:=A.NT
  simp only [oI]at hb
  subst hb
  refine Be I h.symm ?_ (by simp [j]) (by simp [j]) (by simp [j]) (by simp [j]) ?_
  ·rw [j,q];cases z<;>simp [eqGuard]
  ·rw [j,q];exact JJ 9999 J _
 ·cases hb
theorem Ob {o:Oper} {A:Bool} {t N:TypeId} {ps rs:Array TypeId} {va:Bool} {x y:Operand} (J:o.op=.binOp (if A then .neq else .eql) t x y N) (M:AT ρ μ tm a) (L:P.underlying t=some (.func ps rs va)) {v:Aa}
  (h:IT Γ A .func (ev tm (AD x)) (ev tm (AD y))=some v):Bj P ρ μ a o w v:=by
 unfold IT at h
 obtain ⟨b,hb,h⟩:=Ac h
 simp only [oI]at h
 have hb:Vl (ev tm (AD x)) (ev tm (AD y))=some b:=hb
 have C:=Au M x
 have B:=Au M y
 unfold Vl at hb
 split at hb
 ·rename_i H I
  rw [H]at C
  rw [I]at B
  have j:a.eval x=.nilFunc:=by simpa only [Ag]using C
  have z:a.eval y=.nilFunc:=by simpa only [Ag]using B
  simp only [oI]at hb
  subst hb
  refine Be J h.symm ?_ (by simp [j]) (by simp [j]) (by simp [j]) (by simp [j]) ?_
  ·rw [j,z];cases A<;>simp [eqGuard]
  ·rw [j,z];exact Ol 9999 L
 ·rename_i f p q H I
  rw [H]at C
  rw [I]at B
  have z:a.eval y=.nilFunc:=by simpa only [Ag]using B
  obtain ⟨_,_,j,_⟩:=C.func
  simp only [oI]at hb
  subst hb
  refine Be J h.symm ?_ (by simp [j]) (by simp [j]) (by simp [j]) (by simp [j]) ?_
  ·rw [j,z];cases A<;>simp [eqGuard]
  ·rw [j,z];exact Ti 9999 L _ _ _
 ·rename_i f p q H I
  rw [H]at C
  rw [I]at B
  have j:a.eval x=.nilFunc:=by simpa only [Ag]using C
  obtain ⟨_,_,z,_⟩:=B.func
  simp only [oI]at hb
  subst hb
  refine Be J h.symm ?_ (by simp [j]) (by simp [j]) (by simp [j]) (by simp [j]) ?_
  ·rw [j,z];cases A<;>simp [eqGuard]
  ·rw [j,z];exact Th 9999 L _ _ _
 ·cases hb
theorem Oc {o:Oper} {z:Bool} {t M:TypeId} {x y:Operand} (I:o.op=.binOp (if z then .neq else .eql) t x y M) (H:AT ρ μ tm a) (J:P.underlying t=some .bool) {v:Aa}
  (h:IT Γ z .bool (ev tm (AD x)) (ev tm (AD y))=some v):Bj P ρ μ a o w v:=by
 unfold IT at h
 obtain ⟨b,hb,h⟩:=Ac h
 simp only [oI]at h
 have hb:Vm (ev tm (AD x)) (ev tm (AD y))=some b:=hb
 have C:=Au H x
 have B:=Au H y
 unfold Vm at hb
 split at hb
 ·rename_i p q L N
  rw [L]at C
  rw [N]at B
  have j:=C.bool
  have A:=B.bool
  simp only [SB.den]at j A
  simp only [oI]at hb
  refine Be I h.symm ?_ (by simp [j]) (by simp [j]) (by simp [j]) (by simp [j]) ?_
  ·rw [j,A];cases z<;>simp [eqGuard]
  ·rw [j,A,run_equalIn_bool' w 9999 t p q J,<-hb,beq_eq]
 ·cases hb
end
end
section
section
variable {P:Program} {Γ:Ap} {ρ:Env} {μ:As} {tm:Tr Aa} {a:Act} {w:World}
theorem Gg (j:AT ρ μ tm a) {d n:Nat} {x:Option Operand} (h:Cd tm d (x.map AD)=some n):(x=none/\n=d)∨∃y k,x=some y/\a.eval y=.int k (n:Int):=by
 cases x with
 |none=>have h:some d=some n:=h;simp only [oI]at h;exact .inl ⟨rfl,h.symm⟩
 |some y=>
  have h:C5 (ev tm (AD y))=some n:=h
  obtain ⟨k,e⟩:=Cg h (Au j y)
  exact .inr ⟨y,k,rfl,e⟩
theorem BY {k:IntKind} {n y:Nat} {j:BoundsCode} (h:n<=y):(Instr.sliceBound (.int k (n:Int)) y j).run P w=.ok n w:=by
 rw [run_sliceBound w k _ y j (by omega) (by omega)];simp
theorem Gd (q:AT ρ μ tm a) {sl:Bool} {len cap l h:Nat} {lo x:Option Operand} (hl:Cd tm 0 (lo.map AD)=some l) (z:Cd tm len (x.map AD)=some h) (v:l<=h) (j:h<=cap):
  (Instr.sliceBounds sl len cap (lo.map a.eval) (x.map a.eval) none).run P w=.ok (l,h,cap) w:=by
 rcases Gg q hl with ⟨rfl,rfl⟩|⟨y,k,rfl,e⟩<;>rcases Gg q z with ⟨rfl,rfl⟩|⟨y',k',rfl,e'⟩
 ·simp [Instr.sliceBounds]
 ·simp [Instr.sliceBounds,e',BY j]
 ·simp [Instr.sliceBounds,e,BY v]
 ·simp [Instr.sliceBounds,e,e',BY v,BY j]
theorem Mj (q:AT ρ μ tm a) {sl:Bool} {len cap l h m:Nat} {lo:Option Operand} {j v:Operand} (hl:Cd tm 0 (lo.map AD)=some l) (C:C5 (ev tm (AD j))=some h) (H:C5 (ev tm (AD v))=some m)
  (I:l<=h) (x:h<=m) (z:m<=cap):
  (Instr.sliceBounds sl len cap (lo.map a.eval) (some (a.eval j)) (some (a.eval v))).run P w=.ok (l,h,m) w:=by
 obtain ⟨J,A⟩:=Cg C (Au q j)
 obtain ⟨L,B⟩:=Cg H (Au q v)
 rcases Gg q hl with ⟨rfl,rfl⟩|⟨y,k,rfl,e⟩
 ·simp [Instr.sliceBounds,A,B,BY x,BY z]
 ·simp [Instr.sliceBounds,e,A,B,BY I,BY x,BY z]
theorem UQ {o:Oper} {t:TypeId} {x:Operand} {lo B:Option Operand} (I:o.op=.slice t x lo B none) (H:AT ρ μ tm a) (z:P.underlying t=some .string) {v:Aa}
  (h:ZN (ev tm (AD x)) (Cd tm 0 (lo.map AD)) (fun d=>Cd tm d (B.map AD))=some v):Bj P ρ μ a o w v:=by
 have C:=Au H x
 unfold ZN at h
 split at h
 ·rename_i s N
  rw [N]at C
  obtain ⟨l,hl,h⟩:=Ac h
  obtain ⟨j,q,h⟩:=Ac h
  obtain ⟨b,M,rfl⟩:=C.str
  unfold Aej at h
  obtain ⟨hc,h⟩:=Aq h
  rw [aT,AL,AL]at hc
  obtain ⟨r,J,h⟩:=Ac h
  simp only [oI]at h
  subst h
  simp only [Df,B8]at q hc
  have hb:=Gd (P:=P) (w:=w) (sl:=false) H hl q hc.1 hc.2
  refine ⟨.string (b.extract l j),?_,?_⟩
  ·simp only [execOp,I,Option.map_none,Sem.run_bind,run_sliceAt_string w t _ _ _ _ z,M]
   simp [Instr.slice,run_underlying z,hb]
  ·simp only [Ag]
   refine ⟨_,rfl,?_⟩
   have:=KZ J
   rw [La]at this
   rw [this]
   unfold strOf
   have A:(b.extract l j).data.toList=(b.data.toList.drop l).take (j-l):=by
    obtain ⟨⟨L⟩⟩:=b
    have:=ByteArray.extract_mk L l j
    rw [show (⟨⟨L⟩⟩:ByteArray)=ByteArray.mk L.toArray from rfl,this]
   rw [A,List.map_take,List.map_drop]
 ·cases h
theorem HW (r p l h m size:Nat):sliced (some ⟨r,p,none⟩) l h m size=.slice (some ⟨r,p+(if m=l then 0 else l*size),none⟩) (h-l) (m-l):=by
 unfold sliced
 by_cases e:m=l
 ·rw [if_pos e,if_pos e];rfl
 ·rw [if_neg e,if_neg e]
  simp [Addr.AY]
theorem Oa {o:Oper} {t e:TypeId} {x:Operand} {lo V:Option Operand} {n:Nat} (R:o.op=.slice t x lo V none) (N:AT ρ μ tm a) (U:P.underlying t=some (.slice e)) (Z:AW P e=some n) {v:Aa}
  (h:FK n (ev tm (AD x)) (Cd tm 0 (lo.map AD)) (fun d=>Cd tm d (V.map AD)) none=some v):Bj P ρ μ a o w v:=by
 have C:=Au N x
 have A:P.elem t=e:=by simp [Program.elem,U]
 have j:P.underlying t=some (.slice (P.elem t)):=by rw [A];exact U
 have hs:=Bn (w:=w) Z
 unfold FK at h
 split at h
 ·rename_i b q len c L _
  rw [L]at C
  obtain ⟨l,hl,h⟩:=Ac h
  obtain ⟨B,I,h⟩:=Ac h
  obtain ⟨r,δ,m,O,J,Y⟩:=C.slice
  unfold S0 at h
  obtain ⟨hc,h⟩:=Aq h
  rw [aT,AL,AL]at hc
  simp only [oI]at h
  subst h
  have hb:=Gd (P:=P) (w:=w) (sl:=true) N hl I hc.1 hc.2
  refine ⟨sliced (some ⟨r,δ+q,none⟩) l B c n,?_,?_⟩
  ·simp only [execOp,R,Option.map_none,Sem.run_bind,run_sliceAt_slice w t _ _ _ _ j,J,run_slice_any w t _ _ _ j,hb,Result.andThen_ok,A,hs]
   simp
  ·rw [HW]
   simp only [Ag,AH]
   refine ⟨r,δ,m,O,?_,by omega⟩
   by_cases e:c=l<;>simp [e,Nat.add_assoc]
 ·rename_i b q len es L _
  rw [L]at C
  obtain ⟨l,hl,h⟩:=Ac h
  obtain ⟨B,I,h⟩:=Ac h
  obtain ⟨r,δ,m,z,O,J,Y,M⟩:=C.gslice
  unfold Sy at h
  obtain ⟨hc,h⟩:=Aq h
  rw [aT,aT,AL,AL,Ao]at hc
  have X:=hc.2
  have hb:=Gd (P:=P) (w:=w) (sl:=true) (cap:=z) N hl I hc.1.1 (by omega)
  refine ⟨sliced (some ⟨r,δ+q,none⟩) l B z n,?_,?_⟩
  ·simp only [execOp,R,Option.map_none,Sem.run_bind,run_sliceAt_slice w t _ _ _ _ j,J,run_slice_any w t _ _ _ j,hb,Result.andThen_ok,A,hs]
   simp
  ·rw [AH]at h
   rw [HW]
   by_cases e0:l=0
   ·rw [if_pos e0]at h
    simp only [oI]at h
    subst h
    simp only [Ag]
    refine ⟨r,δ,m,z,O,?_,by omega,M⟩
    subst e0
    have:δ+q+(if z=0 then 0 else 0*n)=δ+q:=by split<;>omega
    rw [this];simp
   ·rw [if_neg e0]at h
    obtain ⟨Q,h⟩:=Aq h
    have Q:=Ij.1 Q
    simp only [oI]at h
    subst h
    simp only [Ag]
    refine ⟨r,δ,m,z-l,O,?_,by omega,?_⟩
    ·rw [if_neg (by omega)];simp [Nat.add_assoc]
    ·subst X
     have:(z-l)*n+l*n=z*n:=by rw [<-Nat.add_mul];congr 1;omega
     omega
 ·rename_i H
  simp at H
 ·rename_i H
  simp at H
 ·rename_i L _
  rw [L]at C
  have J:a.eval x=.slice none 0 0:=by simpa only [Ag]using C
  obtain ⟨l,hl,h⟩:=Ac h
  obtain ⟨B,I,h⟩:=Ac h
  obtain ⟨hc,h⟩:=Aq h
  rw [aT,Ao,Ao]at hc
  simp only [oI]at h
  subst h
  obtain ⟨rfl,rfl⟩:=hc
  have hb:=Gd (P:=P) (w:=w) (sl:=true) (cap:=0) N hl I (Nat.le_refl _) (Nat.le_refl _)
  refine ⟨sliced none 0 0 0 n,?_,by simp [sliced,Ag]⟩
  simp only [execOp,R,Option.map_none,Sem.run_bind,run_sliceAt_slice w t _ _ _ _ j,J,run_slice_any w t _ _ _ j,hb,Result.andThen_ok,A,hs]
  rfl
 ·cases h
theorem D6 {x:Option Operand} (h:Lz tm (x.map AD)=none):x=none:=by
 cases x with
 |none=>rfl
 |some x=>cases h
theorem XD {x:Option Operand} {v:Aa} (j:AT ρ μ tm a) (h:Lz tm (x.map AD)=some v):∃y,x=some y/\ev tm (AD y)=v/\Ag ρ μ v (a.eval y):=by
 cases x with
 |none=>cases h
 |some y=>
  have h:some (ev tm (AD y))=some v:=h
  simp only [oI]at h
  exact ⟨y,rfl,h,h▸Au j y⟩
theorem Sv {sl:Bool} {lo j:Option Operand} {l h cap len:Nat} (hl:(lo=none/\l=0)∨∃x k,lo=some x/\a.eval x=.int k (l:Int)) (z:(j=none/\h=len)∨∃x k,j=some x/\a.eval x=.int k (h:Int)) (v:l<=h) (q:h<=cap):
  (Instr.sliceBounds sl len cap (lo.map a.eval) (j.map a.eval) none).run P w=.ok (l,h,cap) w:=by
 rcases hl with ⟨rfl,rfl⟩|⟨y,k,rfl,e⟩<;>rcases z with ⟨rfl,rfl⟩|⟨y',k',rfl,e'⟩
 ·simp [Instr.sliceBounds]
 ·simp [Instr.sliceBounds,e',BY q]
 ·simp [Instr.sliceBounds,e,BY v]
 ·simp [Instr.sliceBounds,e,e',BY v,BY q]
theorem Dz (p:Option Addr) (h c n:Nat):sliced p 0 h c n=.slice p h c:=by
 have e:p.map (·.add (0*n))=p:=by
  cases p with
  |none=>rfl
  |some p=>simp [Addr.add]
 unfold sliced
 rw [e]
 simp
theorem MI (hΓ:Γ.AG ρ) {o:Oper} {t e:TypeId} {x:Operand} {lo hi:Option Operand} {n:Nat} (ho:o.op=.slice t x lo hi none) (hT:AT ρ μ tm a) (hu:P.underlying t=some (.slice e)) (hn:AW P e=some n) {v:Aa}
  (h:Mk Γ n (ev tm (AD x)) (Lz tm (lo.map AD)) (Lz tm (hi.map AD))=some v):Bj P ρ μ a o w v:=by
 have hx:=Au hT x
 have aj:P.elem t=e:=by simp [Program.elem,hu]
 have ad:P.underlying t=some (.slice (P.elem t)):=by rw [aj];exact hu
 have hs:=Bn (w:=w) hn
 have key:∀(p:Option Addr) (len cap l h':Nat),a.eval x=.slice p len cap->((lo=none/\l=0)∨∃x k,lo=some x/\a.eval x=.int k (l:Int))->((hi=none/\h'=len)∨∃x k,hi=some x/\a.eval x=.int k (h':Int))->l<=h'->h'<=cap->Ag ρ μ v (sliced p l h' cap n)->Bj P ρ μ a o w v:=fun p len cap l h' I hl hh O h2 hv=>by
  have hb:=Sv (P:=P) (w:=w) (sl:=true) hl hh O h2
  refine ⟨_,?_,hv⟩
  simp only [execOp,ho,Option.map_none,Sem.run_bind,run_sliceAt_slice w t _ _ _ _ ad,I,run_slice_any w t _ _ _ ad,hb,Result.andThen_ok,aj,hs]
  simp
 have num:∀{y:Option Operand} {k:IntKind} {t:ST},Lz tm (y.map AD)=some (.int k t)->∃z,y=some z/\a.eval z=.int k (t.den ρ):=fun {y k t} e=>by
  obtain ⟨z,O,_,h3⟩:=XD hT e
  exact ⟨z,O,h3.int⟩
 unfold Mk at h
 split at h
 ·rename_i f i es len e1
  obtain ⟨J,h⟩:=Aq h
  have J:=Ao.1 J
  subst J
  rw [e1]at hx
  have Q:=hx
  obtain ⟨p,cap,I,Y,ak,hp⟩:=hx.D7
  have take:∀(u:ST) (j:Nat),((hi=none/\u.den ρ=((ρ.lst i).length:Int))∨∃z k,hi=some z/\a.eval z=.int k (u.den ρ))->((lo=none)∨∃z k,lo=some z/\a.eval z=.int k 0)->J4 [.take i u] Γ.defs=some j->v=.lst false j n u->Bj P ρ μ a o w v:=fun u j hh hl Z hv=>by
   subst hv
   obtain ⟨A,B,N,⟨q2,q3,q4⟩,q5⟩:=hΓ.defs _ (EI Z)
   have q5:B=[]:=q5
   subst q5
   rw [List.append_nil]at N
   have N:ρ.lst j=A:=N
   subst N
   obtain ⟨m,L⟩:∃m:Nat,u.den ρ=(m:Int):=⟨(u.den ρ).toNat,by omega⟩
   have R:(ρ.lst j).length=m:=by rw [q4,lT',L];simp;omega
   refine key p _ cap 0 m I ?_ ?_ (Nat.zero_le _) (by omega) ?_
   ·rcases hl with rfl|⟨z,k,rfl,e⟩
    ·exact .inl ⟨rfl,rfl⟩
    ·exact .inr ⟨z,k,rfl,e⟩
   ·rcases hh with ⟨rfl,e⟩|⟨z,k,rfl,e⟩
    ·exact .inl ⟨rfl,by omega⟩
    ·exact .inr ⟨z,k,rfl,by rw [e,L]⟩
   ·rw [Dz]
    simp only [Ag,GQ]
    refine ⟨⟨cap,by omega,?_⟩,by rw [R,L],fun e=>by cases e⟩
    by_cases h0:m=0
    ·exact .inl ⟨List.eq_nil_of_length_eq_zero (by omega),p,by rw [h0]⟩
    ·obtain ⟨r,δ,c,ty,rfl,k1,U⟩:=hp (by omega)
     refine .inr ⟨r,δ,c,ty,by rw [R],k1,?_⟩
     rw [q4]
     rw [Bx]at U⊢
     refine ⟨fun ps V=>U.1 ps (List.mem_of_mem_take V),?_⟩
     have:=U.2
     rw [<-List.take_append_drop (u.den ρ).toNat (ρ.lst i),List.flatten_append,AK.append_iff]at this
     exact this.1
  have ac:∀(ai:Option Aa),Lz tm (lo.map AD)=ai->Jw Γ i n len ai (Lz tm (hi.map AD))=some v->Bj P ρ μ a o w v:=fun ai ah h=>by
   unfold Jw at h
   split at h
   ·rename_i k u H
    obtain ⟨j,Z,h⟩:=Ac h
    simp only [oI]at h
    obtain ⟨z,M,C⟩:=num H
    exact take u j (.inr ⟨z,k,M,C⟩) (.inl (D6 ah)) Z h.symm
   ·rename_i k0 k u H
    obtain ⟨j,Z,h⟩:=Ac h
    simp only [oI]at h
    obtain ⟨z,M,C⟩:=num H
    obtain ⟨z0,au,aq⟩:=num ah
    exact take u j (.inr ⟨z,k,M,C⟩) (.inr ⟨z0,k0,au,aq⟩) Z h.symm
   ·rename_i _ k u H
    obtain ⟨j,Z,h⟩:=Ac h
    obtain ⟨u',ad,h⟩:=Ac h
    simp only [oI]at h
    subst h
    obtain ⟨z,M,C⟩:=num ah
    obtain ⟨A,B,N,⟨q2,q3,q4⟩,q5⟩:=hΓ.defs _ (EI Z)
    have q5:B=[]:=q5
    subst q5
    rw [List.append_nil]at N
    have N:ρ.lst j=A:=N
    subst N
    have az:u'.den ρ=((ρ.lst j).length:Int):=hΓ.Bc _ (Cy ad)
    obtain ⟨m,L⟩:∃m:Nat,u.den ρ=(m:Int):=⟨(u.den ρ).toNat,by omega⟩
    have ax:m<=(ρ.lst i).length:=by omega
    have R:(ρ.lst j).length=(ρ.lst i).length-m:=by rw [q4,List.length_drop,L];rfl
    refine key p _ cap m (ρ.lst i).length I (.inr ⟨z,k,M,by rw [C,L]⟩) (.inl ⟨D6 H,rfl⟩) ax Y ?_
    simp only [Ag]
    refine ⟨?_,az,fun e=>by cases e⟩
    by_cases h0:m=0
    ·subst h0
     rw [Dz]
     have e:ρ.lst j=ρ.lst i:=by rw [q4,L];rfl
     rw [e,<-I]
     exact Q.lst.1
    ·obtain ⟨r,δ,c,ty,rfl,k1,U⟩:=hp (by omega)
     rw [HW]
     simp only [GQ]
     refine ⟨cap-m,by omega,?_⟩
     by_cases O:(ρ.lst j).length=0
     ·exact .inl ⟨List.eq_nil_of_length_eq_zero O,_,by rw [<-R,O]⟩
     ·refine .inr ⟨r,δ+m*n,c,ty,?_,k1,?_⟩
      ·rw [if_neg (by omega),R]
      ·rw [q4,L]
       rw [Bx]at U⊢
       refine ⟨fun ps V=>U.1 ps (List.mem_of_mem_drop V),?_⟩
       have:=U.2
       rw [<-List.take_append_drop m (ρ.lst i),List.flatten_append,AK.append_iff]at this
       have aw:((ρ.lst i).take m).flatten.length=m*n:=by
        rw [BB fun ps V=>U.1 ps (List.mem_of_mem_take V),lT'];congr 1;omega
       rw [aw]at this
       exact this.2
   ·cases h
  unfold Sz at h
  split at h
  ·rename_i H X
   simp only [oI]at h
   subst h
   exact key p _ cap 0 _ I (.inl ⟨D6 H,rfl⟩) (.inl ⟨D6 X,rfl⟩) (Nat.zero_le _) Y (by rw [Dz,<-I];exact Q)
  ·rename_i k u H X
   cases hc:u.eq len with
   |true=>
    rw [hc]at h
    simp only [cond_true,oI]at h
    subst h
    obtain ⟨z,M,C⟩:=num X
    have hc:=ST.AX hc
    subst hc
    refine key p _ cap 0 _ I (.inl ⟨D6 H,rfl⟩) (.inr ⟨z,k,M,by rw [C,ak]⟩) (Nat.zero_le _) Y (by rw [Dz,<-I];exact Q)
   |false=>
    rw [hc]at h
    simp only [cond_false]at h
    exact ac none H (by rw [X];exact h)
  ·exact ac _ rfl h
 ·rename_i b es len e1
  obtain ⟨J,h⟩:=Aq h
  have J:=Ao.1 J
  subst J
  rw [e1]at hx
  have Q:=hx
  obtain ⟨r,m,k,L,I,hk,aM,ay⟩:=hx.vec
  unfold Sx at h
  split at h
  ·rename_i H X
   simp only [oI]at h
   subst h
   exact key _ _ _ 0 _ I (.inl ⟨D6 H,rfl⟩) (.inl ⟨D6 X,rfl⟩) (Nat.zero_le _) (by omega) (by rw [Dz,<-I];exact Q)
  ·rename_i kk u H X
   obtain ⟨hc,h⟩:=Aq h
   simp only [oI]at h
   subst h
   rw [aT]at hc
   have O:=IN hΓ hc.1
   have h2:=ES hΓ hc.2
   have O:0<=u.den ρ:=O
   obtain ⟨q,hq⟩:∃q:Nat,u.den ρ=(q:Int):=⟨(u.den ρ).toNat,by omega⟩
   obtain ⟨z,M,C⟩:=num X
   refine key _ _ _ 0 q I (.inl ⟨D6 H,rfl⟩) (.inr ⟨z,kk,M,by rw [C,hq]⟩) (Nat.zero_le _) (by omega) ?_
   rw [Dz]
   simp only [Ag]
   exact ⟨r,m,q,L,rfl,hq,by omega,ay⟩
  ·cases h
 ·cases h
theorem MJ {o:Oper} {t e:TypeId} {x O N:Operand} {lo:Option Operand} {n:Nat} (Y:o.op=.slice t x lo (some O) (some N)) (U:AT ρ μ tm a) (V:P.underlying t=some (.slice e)) (hn:AW P e=some n) {v:Aa}
  (h:FK n (ev tm (AD x)) (Cd tm 0 (lo.map AD)) (fun d=>Cd tm d (some (AD O))) (some (C5 (ev tm (AD N))))=some v):Bj P ρ μ a o w v:=by
 have J:=Au U x
 have L:P.elem t=e:=by simp [Program.elem,V]
 have M:P.underlying t=some (.slice (P.elem t)):=by rw [L];exact V
 have hs:=Bn (w:=w) hn
 have key:∀(b j len r δ C A:Nat),(AA (Cd tm 0 (lo.map AD)) fun l=>AA (C5 (ev tm (AD O))) fun h=>AA (C5 (ev tm (AD N))) fun m=>Jv n b j len l h m)=some v->
   μ b=some (r,δ,C)->a.eval x=.slice (some ⟨r,δ+j,none⟩) len A->len<=A->Bj P ρ μ a o w v:=fun b j len r δ C A h H I z=>by
  obtain ⟨l,hl,h⟩:=Ac h
  obtain ⟨X,Z,h⟩:=Ac h
  obtain ⟨m,R,h⟩:=Ac h
  unfold Jv at h
  obtain ⟨hc,h⟩:=Aq h
  rw [aT,aT,AL,AL,AL]at hc
  simp only [oI]at h
  subst h
  have hb:=Mj (P:=P) (w:=w) (sl:=true) (len:=len) (cap:=A) U hl Z R hc.1.1 hc.1.2 (by omega)
  refine ⟨sliced (some ⟨r,δ+j,none⟩) l X m n,?_,?_⟩
  ·simp only [execOp,Y,Option.map_some,Sem.run_bind,run_sliceAt_slice w t _ _ _ _ M,I,run_slice_any w t _ _ _ M,hb,Result.andThen_ok,L,hs]
   simp
  ·rw [HW]
   simp only [Ag,AH]
   refine ⟨r,δ,C,H,?_,by omega⟩
   by_cases e:m=l<;>simp [e,Nat.add_assoc]
 unfold FK at h
 split at h
 ·rename_i q;simp at q
 ·rename_i q;simp at q
 ·rename_i b j len cap m' Q B
  rw [Q]at J
  simp only [oI]at B
  subst B
  obtain ⟨r,δ,C,H,I,z⟩:=J.slice
  exact key _ _ _ _ _ _ _ h H I z
 ·rename_i b j len cap m' Q B
  rw [Q]at J
  simp only [oI]at B
  subst B
  obtain ⟨r,δ,C,A,H,I,z,_⟩:=J.gslice
  exact key _ _ _ _ _ _ _ h H I z
 ·rename_i q;simp at q
 ·cases h
theorem M6 {α:Type} {o:Option α} {f:α->POp} {q:POp} (h:(o.map fun x=>DC.p (f x))=some (.p q)):∃x,o=some x/\q=f x:=by
 obtain ⟨x,j,e⟩:=mS h
 simp only [DC.p.injEq]at e
 exact ⟨x,j,e.symm⟩
theorem Tq {t:TypeId} {d:TypeDesc} (h:P.underlying t=some d) (hd:∀ms,d≠.interface ms):P.concrete t=true:=by
 unfold Program.concrete
 rw [h]
 cases d<;>first|rfl|(exact absurd rfl (hd _))
theorem Rd {o:Oper} {x:Operand} {Z t:TypeId} {ok:Bool} (M:o.op=.typeAssert x Z t ok) (Y:AT ρ μ tm a) {d:TypeDesc} (N:P.underlying t=some d) (hd:∀ms,d≠.interface ms) {i:TypeInfo} (V:P.info? t=some i)
  {z:Option Aa} (C:if ok then∃j,i.zero=some j/\z=some (GB j)else z=none) {v:Aa} (h:RF t z (ev tm (AD x))=some v):Bj P ρ μ a o w v:=by
 have A:=Au Y x
 unfold RF at h
 split at h
 ·rename_i u y L
  have U:ok=false:=by
   cases ok
   ·rfl
   ·obtain ⟨_,_,e⟩:=C;cases e
  subst U
  obtain ⟨hc,O⟩:=Aq h
  have hc:=Ao.1 hc
  subst hc
  have O:y=v:=by simpa using O
  subst O
  rw [L]at A
  obtain ⟨Q,q,R⟩:=A.iface
  refine ⟨Q,?_,R⟩
  cases d<;>first|exact absurd rfl (hd _) |simp [execOp,M,Instr.typeAssert,run_underlying N,q]
 ·rename_i u y X L
  have J:ok=true:=by
   cases ok
   ·cases C
   ·rfl
  subst J
  obtain ⟨j,B,H⟩:=C
  simp only [oI]at H
  subst H
  simp only [oI]at h
  rw [L]at A
  obtain ⟨Q,q,R⟩:=A.iface
  rw [AH]at h
  by_cases hut:u=t
  ·rw [if_pos hut]at h
   subst h
   refine ⟨.tuple #[Q,.bool true],?_,?_⟩
   ·cases d<;>first|exact absurd rfl (hd _) |simp [execOp,M,Instr.typeAssert,run_underlying N,q,hut]
   ·simp only [Ag]
    exact ⟨_,rfl,by simp only [A6];exact ⟨_,_,rfl,R,_,_,rfl,rfl,rfl⟩⟩
  ·rw [if_neg hut]at h
   subst h
   have I:(zeroValue t).run P w=.ok j w:=by simp [zeroValue,typeInfo,V,B]
   refine ⟨.tuple #[j,.bool false],?_,?_⟩
   ·cases d<;>first|exact absurd rfl (hd _) |simp [execOp,M,Instr.typeAssert,run_underlying N,q,hut,I]
   ·simp only [Ag]
    exact ⟨_,rfl,by simp only [A6];exact ⟨_,_,rfl,Db j,_,_,rfl,rfl,rfl⟩⟩
 ·rename_i X L
  have J:ok=true:=by
   cases ok
   ·cases C
   ·rfl
  subst J
  obtain ⟨j,B,H⟩:=C
  simp only [oI]at H
  subst H
  simp only [oI]at h
  subst h
  rw [L]at A
  have q:a.eval x=.nilIface:=by simpa only [Ag]using A
  have I:(zeroValue t).run P w=.ok j w:=by simp [zeroValue,typeInfo,V,B]
  refine ⟨.tuple #[j,.bool false],?_,?_⟩
  ·cases d<;>first|exact absurd rfl (hd _) |simp [execOp,M,Instr.typeAssert,run_underlying N,q,I]
  ·simp only [Ag]
   exact ⟨_,rfl,by simp only [A6];exact ⟨_,_,rfl,Db j,_,_,rfl,rfl,rfl⟩⟩
 ·cases h
theorem Cf {t:TypeId} {ok:Bool} {x:Operand} {q:DC} (h:IX P t ok x=some q):
  ∃d i z,P.underlying t=some d/\(∀ms,d≠.interface ms)/\P.info? t=some i/\(if ok then∃j,i.zero=some j/\z=some (GB j)else z=none)/\q=.p (.assert t z (AD x)):=by
 unfold IX at h
 split at h
 ·cases h
 ·rename_i d i C A B
  have hd:∀ms,d≠.interface ms:=fun ms e=>C ms e
  split at h
  ·rename_i v
   obtain ⟨j,H,e⟩:=mS h
   subst v
   exact ⟨d,i,some (GB j),A,hd,B,by simp only [if_true];exact ⟨j,H,rfl⟩,e.symm⟩
  ·rename_i v
   simp only [oI]at h
   exact ⟨d,i,none,A,hd,B,by rw [if_neg v],h.symm⟩
 ·cases h
theorem CD {s d:TypeId} {x:Operand} {q:DC} (h:Np P s d x=some q):
  (∃v k,P.underlying s=some (.int v)/\P.underlying d=some (.int k)/\q=.p (.conv k (AD x)))∨(P.underlying s=some .string/\P.underlying d=some .string/\q=.p (.same (AD x)))∨
  (∃t n,P.underlying s=some (.pointer t)/\P.underlying d=some .unsafePointer/\AW P t=some (n+1)/\q=.r (.uptr (GY P fun _ _=>true) (AD x)))∨
  (∃u n,P.underlying s=some .unsafePointer/\P.underlying d=some (.pointer u)/\AW P u=some n/\q=.r (.uptr (GY P fun e n=>liesAt P P.depth e (n/P.cellsOf e) 0 u 1) (AD x)))∨
  (∃e,P.underlying s=some (.slice e)/\P.underlying e=some (.int .u8)/\P.underlying d=some .string/\q=.r (.bstr (AD x))):=by
 unfold Np at h
 split at h
 ·rename_i v k hs hd
  simp only [oI]at h
  exact .inl ⟨v,k,hs,hd,h.symm⟩
 ·rename_i hs hd
  simp only [oI]at h
  exact .inr (.inl ⟨hs,hd,h.symm⟩)
 ·rename_i e hs hd
  split at h
  ·rename_i z
   simp only [oI]at h
   exact .inr (.inr (.inr (.inr ⟨e,hs,z,hd,h.symm⟩)))
  ·cases h
 ·rename_i t hs hd
  split at h
  ·rename_i n j
   simp only [oI]at h
   exact .inr (.inr (.inl ⟨t,n,hs,hd,j,h.symm⟩))
  ·cases h
 ·rename_i u hs hd
  obtain ⟨n,j,h⟩:=mS h
  exact .inr (.inr (.inr (.inl ⟨u,n,hs,hd,j,h.symm⟩)))
 ·cases h
theorem Ms (hΓ:Γ.AG ρ) (A:AT ρ μ tm a) {pl:List Co} {o:Oper} {q:POp} (hc:Dq P pl o=some (.p q)) {v:Aa} (h:Iz Γ tm q=some v):Bj P ρ μ a o w v:=by
 cases hop:o.op<;>simp only [Dq,hop,reduceCtorEq,oI,DC.p.injEq]at hc
 case move x=>subst hc;simp only [Iz,oI]at h;subst h;exact SX (.inl hop) A
 case assign x=>subst hc;simp only [Iz,oI]at h;subst h;exact SX (.inr hop) A
 case pick c x y=>subst hc;exact US hop A h
 case alloc t=>obtain ⟨_,_,e⟩:=mS hc;cases e
 case build t parts=>
  split at hc
  ·rename_i fs z j L
   split at hc
   ·rename_i U
    obtain ⟨ps,R,rfl⟩:=M6 hc
    exact IP hop A j L U R h
   ·cases hc
  ·rename_i k e z j L
   obtain ⟨n,C,hc⟩:=Option.bind_eq_some_iff.1 hc
   obtain ⟨ps,R,rfl⟩:=M6 hc
   exact JA hop A j L C R h
  ·cases hc
 case nilCheck x=>subst hc;exact UT hop A h
 case binOp op t x y yt=>
  obtain ⟨q',H,e⟩:=mS hc
  simp only [DC.p.injEq]at e
  subst e
  have eqs:∀M:Bool,op=(if M then .neq else .eql)->RC P pl M t x y=some q'->Bj P ρ μ a o w v:=fun M X B=>by
   clear H hc
   subst X
   unfold RC at B
   split at B
   ·rename_i j;simp only [oI]at B;subst B;exact Oc hop A j h
   ·rename_i j
    obtain ⟨n,C,B⟩:=Option.bind_eq_some_iff.1 B
    simp only [oI]at B;subst B;exact Rb hop A j C h
   ·rename_i j;simp only [oI]at B;subst B;exact MK hop A j h
   ·rename_i j;simp only [oI]at B;subst B;exact Rc hop A j h
   ·rename_i j;simp only [oI]at B;subst B;exact Ob hop A j h
   ·rename_i fs j
    split at B
    ·rename_i l hl
     split at B
     ·cases B
     ·rename_i J
      simp only [oI]at B;subst B
      exact Hu hop hΓ A (.inl ⟨_,j⟩) hl (by simpa using J) h
    ·cases B
   ·rename_i k e j
    split at B
    ·rename_i l hl
     split at B
     ·cases B
     ·rename_i J
      simp only [oI]at B;subst B
      exact Hu hop hΓ A (.inr ⟨_,_,j⟩) hl (by simpa using J) h
    ·cases B
   ·rename_i ms j
    split at B
    ·rename_i Y
     simp only [oI]at B;subst B
     exact ML hop hΓ A j Y rfl h
    ·cases B
   ·cases B
  unfold WY at H
  split at H
  ·simp only [oI]at H;subst H;exact Pd hop hΓ A h
  ·simp only [oI]at H;subst H;exact Pd hop hΓ A h
  ·exact eqs false rfl H
  ·exact eqs true rfl H
  ·cases H
 case unOp op t x=>subst hc;exact AbN hop hΓ A h
 case convert s d x=>
  rcases CD hc with ⟨k0,k,hs,hd,e⟩|⟨hs,hd,e⟩|⟨_,_,_,_,_,e⟩|⟨_,_,_,_,_,e⟩|⟨_,_,_,_,e⟩
  ·simp only [DC.p.injEq]at e;subst e
   exact Va hop hΓ A hs hd h
  ·simp only [DC.p.injEq]at e;subst e
   exact UR hop A hs hd h
  ·cases e
  ·cases e
  ·cases e
 case typeAssert x xt t ok=>
  obtain ⟨d,i,z,j,hd,I,L,e⟩:=Cf hc
  simp only [DC.p.injEq]at e;subst e
  exact Rd hop A j hd I L h
 case makeInterface t x=>
  split at hc
  ·cases hc
  ·rename_i d aa hd
   simp only [oI,DC.p.injEq]at hc;subst hc
   simp only [Iz,oI]at h;subst h
   exact SY hop A (Tq hd fun ms e=>aa ms (by rw [e]))
  ·cases hc
 case makeFunc fn x c=>
  cases fn<;>simp only [reduceCtorEq,oI,DC.p.injEq]at hc
  subst hc
  simp only [Iz,oI]at h;subst h
  exact UZ hop A
 case slice t x lo I mx=>
  split at hc
  ·rename_i j
   simp only [oI,DC.p.injEq]at hc;subst hc
   exact UQ hop A j h
  ·rename_i e j
   obtain ⟨n,C,rfl⟩:=M6 hc
   have h:FJ Γ tm n (ev tm (AD x)) (lo.map AD) (I.map AD) none=some v:=h
   unfold FJ at h
   split at h
   ·exact MI hΓ hop A j C h
   ·exact Oa hop A j C h
  ·rename_i e m j
   split at hc
   ·rename_i Z
    obtain ⟨n,C,rfl⟩:=M6 hc
    obtain ⟨I,rfl⟩:=Option.isSome_iff_exists.1 Z
    have h:FK n (ev tm (AD x)) (Cd tm 0 (lo.map AD)) (fun d=>Cd tm d (some (AD I))) (some (C5 (ev tm (AD m))))=some v:=by
     have h:FJ Γ tm n (ev tm (AD x)) (lo.map AD) (some (AD I)) (some (AD m))=some v:=h
     unfold FJ at h
     split at h
     ·rename_i e;simp at e
     ·exact h
    exact MJ hop A j C h
   ·cases hc
  ·cases hc
 case fieldAddr t x f=>
  split at hc
  ·rename_i fs j
   obtain ⟨g,O,hc⟩:=Option.bind_eq_some_iff.1 hc
   split at hc
   ·rename_i n C
    simp only [oI,DC.p.injEq]at hc;subst hc
    exact Ra hop A j O C h
   ·cases hc
  ·cases hc
 case field t x f=>
  split at hc
  ·rename_i fs j
   obtain ⟨g,O,hc⟩:=Option.bind_eq_some_iff.1 hc
   obtain ⟨n,C,rfl⟩:=M6 hc
   exact SZ hop A j O C h
  ·cases hc
 case indexAddr t x i=>
  split at hc
  ·rename_i e j
   obtain ⟨n,C,rfl⟩:=M6 hc
   exact UY hΓ hop A j C h
  ·rename_i len e j
   obtain ⟨n,C,rfl⟩:=M6 hc
   exact QZ hop A j C h
  ·cases hc
 case index t x i=>
  split at hc
  ·rename_i len e j
   split at hc
   ·rename_i n ag C ha
    simp only [oI,DC.p.injEq]at hc;subst hc
    exact Yb hop A j C ha h
   ·cases hc
  ·rename_i j
   simp only [oI,DC.p.injEq]at hc;subst hc
   exact UX hop A j h
  ·cases hc
 case extract x i=>subst hc;exact Yc hop A h
 case call c=>
  unfold EX at hc
  split at hc
  ·split at hc
   ·split at hc
    ·simp at hc
    ·split at hc
     ·split at hc<;>simp at hc
     ·split at hc
      ·split at hc<;>simp at hc
      ·cases hc
   ·cases hc
  ·simp at hc
  ·cases hc
  ·rename_i b hb
   split at hc
   ·rename_i x t V e2
    have N:c.args=#[x]:=by rw [<-Array.toList_inj];simpa using V
    have Q:c.argTypes=#[t]:=by rw [<-Array.toList_inj];simpa using e2
    split at hc
    ·rename_i j
     simp only [oI,DC.p.injEq]at hc;subst hc
     exact UU hΓ hop hb N Q A j h
    ·rename_i e j
     simp only [oI,DC.p.injEq]at hc;subst hc
     exact UW hop hb N Q A j h
    ·rename_i n e j
     simp only [oI,DC.p.injEq]at hc;subst hc
     have h:some (lit .i64 (.ofNat n))=some v:=h
     simp only [oI]at h
     subst h
     exact ⟨.int .i64 n,by simp [execOp,hop,resolve,hb,N,Q,invoke,builtin,Builtin.len_,run_underlying j,goInt],by simp only [lit,Ag,ST.den];rfl⟩
    ·simp at hc
    ·cases hc
   ·exfalso
    unfold ED at hc
    split at hc<;>first|cases hc|skip
    all_goals (split at hc<;>first|(cases hc;done) |(split at hc<;>simp at hc))
   ·exfalso
    split at hc<;>first|(cases hc;done) |(obtain ⟨_,_,e⟩:=mS hc;cases e)
   ·simp only [oI,DC.p.injEq]at hc;subst hc
    exact Pf hΓ (most:=true) hop hb rfl A h
   ·simp only [oI,DC.p.injEq]at hc;subst hc
    exact Pf hΓ (most:=false) hop hb rfl A h
   ·simp at hc
   ·rename_i x V
    have N:c.args=#[x]:=by rw [<-Array.toList_inj];simpa using V
    simp only [oI,DC.p.injEq]at hc;subst hc
    exact SV hop hb N A h
   ·exfalso
    split at hc
    ·split at hc<;>simp at hc
    ·cases hc
   ·cases hc
 case defer c=>
  obtain ⟨ab,args,ae⟩:=c
  cases ab<;>simp at hc
 all_goals
  exfalso
  first
   |(cases hc;done)
   |(split at hc<;>first|(cases hc;done) |(simp at hc;done) |(obtain ⟨_,_,e⟩:=mS hc;cases e;done) |(split at hc<;>first|(cases hc;done) |(simp at hc;done) |(split at hc<;>first|(cases hc;done) |(simp at hc;done) |(obtain ⟨_,_,e⟩:=mS hc;cases e;done))))
   |(obtain ⟨_,_,e⟩:=mS hc;cases e;done)
end
end
section
section
variable {P:Program} {Γ:Ap} {ρ:Env} {μ:As} {tm:Tr Aa} {a:Act} {w:World} {h:Ak}
theorem EE {o:Option Block} {vs:List Aa} (h:cellsOf o=some vs):o=some (.cells vs)∨∃e,o=some (.typed e vs):=by
 unfold cellsOf at h
 split at h
 ·simp only [oI]at h;rw [h];exact .inl rfl
 ·simp only [oI]at h;rw [h];exact .inr ⟨_,rfl⟩
 ·cases h
theorem JR {o:Option Block} {m:Nat×Nat} (h:bytesOf o=some m):o=some (.bytes m.1 m.2):=by
 unfold bytesOf at h
 split at h
 ·simp only [oI]at h;rw [<-h]
 ·cases h
theorem Dx {o:Option Block} {m:List Entry×Nat} (h:mapOf o=some m):o=some (.map m.1 m.2):=by
 unfold mapOf at h
 split at h
 ·simp only [oI]at h;rw [<-h]
 ·cases h
theorem AI.cells (H:AI ρ μ h w) {b:Nat} {vs:List Aa} (hb:cellsOf (h.get b)=some vs):∃r δ m c e,μ b=some (r,δ,m)/\w.heap[r]?=some (.cells c e (0,0))/\δ+m<=c.size/\
  ∀(i:Nat) (x:Aa),vs[i]?=some x->∃v,c[δ+i]?=some v/\x.single=true/\Ag ρ μ x v:=by
 rcases EE hb with hb|⟨t,hb⟩
 ·obtain ⟨r,⟨δ,m⟩,z,c,e,q,j,hc⟩:=H.blk b _ hb
  exact ⟨r,δ,m,c,e,z,q,j,hc⟩
 ·obtain ⟨r,⟨δ,m⟩,z,c,q,_,j,hc⟩:=H.blk b _ hb
  exact ⟨r,δ,m,c,_,z,q,j,hc⟩
theorem Lo {o:Option Block} {vs:List Aa} (h:cellsOf o=some vs):∃B,o=some B:=by
 rcases EE h with h|⟨_,h⟩<;>exact ⟨_,h⟩
theorem AI.map (H:AI ρ μ h w) {b:Nat} {j:List Entry} {k:Nat} (hb:h.get b=some (.map j k)):∃r ms,μ b=some (r,0,0)/\w.heap[r]?=some (.map ms k)/\BM ρ μ j ms.toList:=by
 obtain ⟨r,δ,q,rfl,ms,v,hc⟩:=H.blk b _ hb
 exact ⟨r,ms,q,v,hc⟩
theorem Ci {r j:Nat} {c:Array Value} {e:TypeId} {fr:Nat×Nat} (q:w.heap[r]?=some (.cells c e fr)):w.cell? ⟨r,j,none⟩=c[j]?:=cell_of_row w r j c e fr q
theorem D9 {vs r:List Aa} {c:Array Value} {δ i n:Nat} (hc:∀(i:Nat) (x:Aa),vs[i]?=some x->∃v,c[δ+i]?=some v/\x.single=true/\Ag ρ μ x v) (h:cut vs i n=some r):
  ∃l:List Value,l.length=n/\Aw ρ μ r l/\∀j v,l[j]?=some v->c[δ+i+j]?=some v:=by
 obtain ⟨C,B,I⟩:=JP h
 rcases B with rfl|B
 ·exact ⟨[],rfl,by rw [List.eq_nil_of_length_eq_zero C];simp only [Aw],fun j v q=>by simp at q⟩
 have A:∀j,j<n->∃v,c[δ+i+j]?=some v:=fun j J=>by
  obtain ⟨x,z⟩:∃x,vs[i+j]?=some x:=⟨_,List.getElem?_eq_getElem (by omega)⟩
  obtain ⟨v,q,_⟩:=hc _ _ z
  exact ⟨v,by rw [Nat.add_assoc];exact q⟩
 have L:δ+i+n<=c.size∨n=0:=by
  rcases Nat.eq_zero_or_pos n with h0|h0
  ·exact .inr h0
  ·left
   obtain ⟨v,q⟩:=A (n-1) (by omega)
   have:=(Array.getElem?_eq_some_iff.1 q).1
   omega
 refine ⟨(c.extract (δ+i) (δ+i+n)).toList,?_,?_,fun j v q=>?_⟩
 ·rw [Array.length_toList,Array.size_extract];omega
 ·refine Aw.Kq ?_ fun j x z=>?_
  ·rw [C,Array.length_toList,Array.size_extract];omega
  ·rw [I]at z
   split at z
   ·rename_i J
    obtain ⟨v,q,hs,H⟩:=hc _ _ z
    refine ⟨v,?_,hs,H⟩
    rw [Array.getElem?_toList,Array.getElem?_extract,if_pos (by omega),Nat.add_assoc]
    exact q
   ·cases z
 ·rw [Array.getElem?_toList,Array.getElem?_extract]at q
  split at q
  ·exact q
  ·cases q
theorem IL {t:TypeId} {n:Option Nat} (N:DO P t=some n) {vs:List Aa} {r δ z:Nat} {c:Array Value} {e:TypeId} {fr:Nat×Nat} (H:w.heap[r]?=some (.cells c e fr))
  (hc:∀(i:Nat) (x:Aa),vs[i]?=some x->∃v,c[δ+i]?=some v/\x.single=true/\Ag ρ μ x v) {v:Aa} (hl:J0 vs z n=some v):
  ∃A,(Instr.loadAt t (.pointer (some ⟨r,δ+z,none⟩))).run P w=.ok A w/\Ag ρ μ v A:=by
 obtain ⟨B,M⟩:=Ed P w t N
 unfold J0 at hl
 cases n with
 |none=>
  simp only at hl
  rw [Ks]at hl
  obtain ⟨u,Q,_,O⟩:=hc _ _ hl
  refine ⟨u,?_,O⟩
  simp [Instr.loadAt,Instr.sureAddr,loadVar,B,run_load,Ci H,Q]
 |some n=>
  simp only at hl
  obtain ⟨U,I,hl⟩:=Ac hl
  simp only [oI]at hl
  subst hl
  obtain ⟨l,C,J,L⟩:=D9 hc I
  have q:=run_loadCells_list (P:=P) (w:=w) ⟨r,δ+z,none⟩ l (fun j v R=>by rw [Addr.AY,Ci H];exact L j v R)
  rw [C]at q
  refine ⟨.agg l.toArray,?_,?_⟩
  ·simp [Instr.loadAt,Instr.sureAddr,loadVar,B,M n rfl,q]
  ·simp only [Ag];exact ⟨_,rfl,by simpa using J⟩
theorem CY {o:Option Block} {l:Nat×Nat} (h:MB o=some l):o=some (.list l.1 l.2):=by
 unfold MB at h
 split at h
 ·simp only [oI]at h;rw [<-h]
 ·cases h
theorem M9 {Γ:Ap} (hΓ:Γ.AG ρ) (H:AI ρ μ h w) {t:TypeId} {n:Option Nat} (O:DO P t=some n) {x v:Aa} {u:Value} (X:Ag ρ μ x u) (hl:MA Γ h n x=some v):
  ∃Z,(Instr.loadAt t u).run P w=.ok Z w/\Ag ρ μ v Z:=by
 unfold MA at hl
 split at hl
 ·rename_i b es j M
  obtain ⟨vs,q,ac⟩:=Ac hl
  unfold elemV at q
  obtain ⟨⟨li,L⟩,ab,N⟩:=Ac q
  obtain ⟨I,U⟩:=Aq N
  have I:L=es:=Ao.1 I
  subst I
  obtain ⟨r,m,Y,rfl,J⟩:=X.vptr
  obtain ⟨r1,⟨δ1,m1⟩,B,c0,ty,Q,h0,_,_,_,_,V⟩:=H.blk b _ (CY ab)
  rw [Y]at B
  simp only [oI,Prod.mk.injEq]at B
  obtain ⟨rfl,rfl,rfl⟩:=B
  have V:BG μ.AU L c0 0 (ρ.lst li):=V
  obtain ⟨C,k1,z,R⟩:=hΓ.elems _ (Ie U)
  have z:(ρ.lst li)[(j.den ρ).toNat]?=some C:=z
  have h6:=(V.get _ _ z).2
  rw [Nat.zero_add]at h6
  exact IL O Q (AK.TF R h6).2 ac
 ·rename_i i j M
  obtain ⟨vs,q,hl⟩:=Ac hl
  obtain ⟨r,δ,c,e,ps,rfl,J,h2,h3,h4⟩:=X.lptr
  obtain ⟨C,k1,z,R⟩:=hΓ.elems _ (Ie q)
  have z:(ρ.lst i)[(j.den ρ).toNat]?=some C:=z
  rw [h3]at z
  simp only [oI]at z
  subst z
  obtain ⟨_,J⟩:=J
  exact IL O (H.AO.AU _ _ J).1 (AK.TF R h4).2 hl
 ·rename_i b M
  obtain ⟨vs,q,hl⟩:=Ac hl
  obtain ⟨r,δ,m,c,e,Y,ho,_,hc⟩:=H.cells q
  obtain ⟨r',δ',m',A,rfl⟩:=X.ptr
  rw [Y]at A
  simp only [oI,Prod.mk.injEq]at A
  obtain ⟨rfl,rfl,rfl⟩:=A
  exact IL O ho hc hl
 ·cases hl
theorem OX {t:TypeId} {kk:LK} (h:XW P t=some kk):∃d,P.underlying t=some d/\kk.fits d:=by
 unfold XW at h
 split at h<;>first|cases h|skip
 ·rename_i j;exact ⟨_,j,rfl⟩
 ·rename_i j;exact ⟨_,j,_,rfl⟩
 ·rename_i j;exact ⟨_,j,rfl⟩
theorem NQ {kk:LK} {d:TypeDesc} (j:kk.fits d) {x y:Aa} {u v:Value} (z:Ag ρ μ x u) (q:Ag ρ μ y v) {b:Bool} (h:OY kk x y=some b):Instr.sameNow d u v=some b:=by
 unfold OY at h
 split at h
 ·obtain ⟨i,rfl⟩:=j
  obtain ⟨e,A⟩:=Aq h
  simp only [oI]at A
  rw [z.int,q.int,Di.1 e,<-A,QV]
  simp [Instr.sameNow,ST.den]
 ·have j:d=.string:=j
  subst j
  simp only [oI]at h
  obtain ⟨s,rfl,B⟩:=z.str
  obtain ⟨H,rfl,C⟩:=q.str
  rw [<-h,<-B,<-C,CB,<-beq_toListBytes]
  simp [Instr.sameNow]
 ·have j:d=.bool:=j
  subst j
  simp only [oI]at h
  rw [z.bool,q.bool,<-h,beq_eq]
  simp [Instr.sameNow,SB.den]
 ·cases h
theorem Mh {Γ:Ap} (hΓ:Γ.AG ρ) {kk:LK} {d:TypeDesc} (j:kk.fits d) {x y:Aa} {u v:Value} (z:Ag ρ μ x u) (q:Ag ρ μ y v) {b:Bool} (h:IV Γ kk x y=some b):Instr.sameNow d u v=some b:=by
 unfold IV at h
 split at h
 ·rename_i N m Q P
  obtain ⟨i,rfl⟩:=j
  obtain ⟨C,A⟩:=Aq h
  clear h
  have J:=Di.1 C
  subst J
  have hc:=(CC hΓ (OW A)).1
  rw [z.int,q.int]
  simp only [SB.den,Es]at hc
  simp [Instr.sameNow,hc]
 ·have j:d=.bool:=j
  subst j
  simp only [oI]at h
  rw [z.bool,q.bool,<-h,beq_eq]
  simp [Instr.sameNow,SB.den]
 ·have j:d=.string:=j
  subst j
  simp only [oI]at h
  obtain ⟨s,rfl,I⟩:=z.str
  obtain ⟨O,rfl,M⟩:=q.str
  rw [<-h,<-I,<-M,CB,<-beq_toListBytes]
  simp [Instr.sameNow]
 all_goals first
  |(cases h;done)
  |(have j:d=.string:=j
    subst j
    obtain ⟨s,R,L,A,B⟩:=hΓ.strs _ (FO h)
    obtain ⟨H,rfl,rfl⟩:=BH L z
    obtain ⟨b2,rfl,rfl⟩:=BH A q
    have B:b=decide (strOf H=strOf b2):=B
    simp only [Instr.sameNow]
    rw [beq_toListBytes,B,<-beq_toListBytes]
    congr 1
    rw [beq_toListBytes,Bool.eq_iff_iff,<-CB,Dt];simp)
theorem Gw {kk:LK} {d:TypeDesc} {t:TypeId} (q:P.underlying t=some d) (j:kk.fits d) (v:Bool) (n:Nat) (u:Value):(Instr.checkKey v (n+1) t u).run P w=.ok () w:=by
 cases kk
 ·have j:d=.bool:=j
  subst j
  cases u<;>simp [Instr.checkKey,run_underlying q]
 ·obtain ⟨i,rfl⟩:=j
  cases u<;>simp [Instr.checkKey,run_underlying q]
 ·have j:d=.string:=j
  subst j
  cases u<;>simp [Instr.checkKey,run_underlying q]
theorem Li {Γ:Ap} (hΓ:Γ.AG ρ) {kk:LK} {d:TypeDesc} (L:kk.fits d) {x:Aa} {u:Value} (J:Ag ρ μ x u):∀{z:List Entry} {ms:List MapEntry} {r:Option Aa} (n:Nat),BM ρ μ z ms->AbU Γ kk x z=some r->
  ∃j,Instr.findNow d u ms n=some j/\(match r with|none=>j=none|some v=>∃i I,j=some (i,I)/\Ag ρ μ v I)
 |[],ms,r,n,he,h=>by
  simp only [BM]at he
  subst he
  have h:some none=some r:=h
  simp only [oI]at h
  subst h
  exact ⟨none,rfl,rfl⟩
 |e::z,ms,r,n,he,h=>by
  simp only [BM]at he
  obtain ⟨m,rest,rfl,⟨hs,C,H,_⟩,A⟩:=he
  have h:(AA (IV Γ kk x e.key) fun b=>bif b then some (some e.val)else AbU Γ kk x z)=some r:=h
  obtain ⟨b,hb,q⟩:=Ac h
  have B:=Mh hΓ L J C hb
  cases b with
  |true=>
   simp only [cond_true,oI]at q
   subst q
   exact ⟨some (n,m.val),by simp [Instr.findNow,B],n,m.val,rfl,H⟩
  |false=>
   simp only [cond_false]at q
   obtain ⟨j,M,N⟩:=Li hΓ L J (n+1) A q
   exact ⟨j,by simp [Instr.findNow,B,M],N⟩
theorem run_findKey {t:TypeId} {d:TypeDesc} (j:P.underlying t=some d) {u:Value} {ms:List MapEntry} {r:Option (Nat×Value)} (h:Instr.findNow d u ms 0=some r):(Instr.findKey t u ms).run P w=.ok r w:=by
 simp [Instr.findKey,run_underlying j,h]
theorem Hv {ok b:Bool} {v:Aa} {u:Value} (j:Ag ρ μ v u):Ag ρ μ (Vc ok v b) (if ok then .tuple #[u,.bool b]else u):=by
 unfold Vc
 cases ok
 ·exact j
 ·simp only [cond_true,if_true,Ag]
  exact ⟨_,rfl,by simp only [A6];exact ⟨_,_,rfl,j,_,_,rfl,by simp only [Ag,SB.den],rfl⟩⟩
theorem Ei {o:Option Block} {i:Nat} (h:IF o=some i):o=some (.smap i):=by
 unfold IF at h
 split at h
 ·simp only [oI]at h;rw [h]
 ·cases h
theorem KU {kk:LK} {x:Aa} (h:PF kk x=true):kk=.str/\∃s,DT ρ x=some s:=by
 unfold PF at h
 split at h
 ·exact ⟨rfl,_,rfl⟩
 ·exact ⟨rfl,_,rfl⟩
 ·cases h
theorem Lh {AU:Nat->Option Obj} {b:ByteArray}:∀{l:List (List Nat×List PV)} {ms:List MapEntry} (n:Nat),Jc AU l ms->
  ∃j,Instr.findNow .string (.string b) ms n=some j/\(match Bh l (strOf b)with|none=>j=none|some ps=>∃i a,j=some (i,.agg a)/\a.size=ps.length/\AK AU a 0 ps)
 |[],ms,n,q=>by
  have q:ms=[]:=q
  subst q
  exact ⟨none,rfl,rfl⟩
 |e::es,ms,n,q=>by
  obtain ⟨m,rest,rfl,⟨B,z,C⟩,⟨a,ha,hs,H⟩,v⟩:=q
  have x:Instr.sameNow .string (.string b) m.key=some (decide (strOf b=e.1)):=by
   rw [z,<-C]
   have:decide (strOf b=strOf B)=(b.toList==B.toList):=by rw [<-CB,Bool.eq_iff_iff,Dt];simp
   rw [this,<-beq_toListBytes]
   simp [Instr.sameNow]
  by_cases hc:e.1=strOf b
  ·refine ⟨some (n,m.val),by simp [Instr.findNow,x,hc],?_⟩
   simp only [Bh,hc,if_true]
   exact ⟨n,a,by rw [ha],hs,H⟩
  ·have A:¬strOf b=e.1:=fun h=>hc h.symm
   obtain ⟨j,I,J⟩:=Lh (b:=b) (n+1) v
   refine ⟨j,by simp [Instr.findNow,x,A,I],?_⟩
   simp only [Bh,if_neg hc]
   exact J
theorem AI.smap (H:AI ρ μ h w) {b i:Nat} (hb:h.get b=some (.smap i)):∃r ms j,μ b=some (r,0,0)/\w.heap[r]?=some (.map ms j)/\Jc μ.AU (ρ.map i) ms.toList:=by
 obtain ⟨r,δ,q,rfl,ms,j,v,hc⟩:=H.blk b _ hb
 exact ⟨r,ms,j,q,v,hc⟩
theorem QK {Γ:Ap} (hΓ:Γ.AG ρ) (H:AI ρ μ h w) {t Q e:TypeId} {kk:LK} {i:TypeInfo} {z:Value} (N:P.underlying t=some (.map Q e)) (hk:XW P Q=some kk) (hi:P.info? e=some i) (hz:i.zero=some z) {m k v:Aa} {um J:Value} {ok:Bool}
  (hm:Ag ρ μ m um) (V:Ag ρ μ k J) (hl:WC Γ h kk m k (GB z) ok=some v):∃Y,(Instr.lookup t um J ok).run P w=.ok Y w/\Ag ρ μ v Y:=by
 obtain ⟨d,hd,hf⟩:=OX hk
 have M:(zeroValue e).run P w=.ok z w:=by simp [zeroValue,typeInfo,hi,hz]
 have B:∀em,(Instr.checkKey em 10000 Q J).run P w=.ok () w:=fun em=>Gw hd hf em 9999 J
 unfold WC at hl
 split at hl
 ·have C:um=.map none:=by simpa only [Ag]using hm
  simp only [oI]at hl
  subst hl
  refine ⟨_,?_,Hv (Db z)⟩
  have q:(Instr.findKey Q J []).run P w=.ok none w:=run_findKey hd rfl
  simp [Instr.lookup,run_underlying N,C,B,q,M]
 ·rename_i b
  unfold UG at hl
  split at hl
  ·rename_i i' ak
   obtain ⟨ah,U⟩:=Aq hl
   clear hl
   obtain ⟨rfl,s,hs⟩:=KU (ρ:=ρ) ah
   have hf:d=.string:=hf
   subst hf
   obtain ⟨kb,rfl,rfl⟩:=BH hs V
   obtain ⟨g,ms,R,Z,ho,he⟩:=H.smap (Ei ak)
   obtain ⟨g',j,C⟩:=hm.NT
   rw [Z]at j
   simp only [oI,Prod.mk.injEq]at j
   obtain ⟨rfl,_⟩:=j
   obtain ⟨r',h1,x⟩:=Lh (b:=kb) 0 he
   have q:=run_findKey (P:=P) (w:=w) hd h1
   have A:(getObj g).run P w=.ok (.map ms R) w:=by simp [getObj,Sem.run,ho]
   unfold Aeo at U
   obtain ⟨r,hr,I⟩:=Ac U
   obtain ⟨s',L,O⟩:=hΓ.looks _ (OS hr)
   have L:DT ρ k=some s':=L
   rw [hs]at L
   simp only [oI]at L
   subst L
   cases r with
   |none=>
    simp only at O
    rw [O]at x
    simp only at x
    subst x
    simp only [oI]at I
    subst I
    refine ⟨_,?_,Hv (Db z)⟩
    simp [Instr.lookup,run_underlying N,C,A,B,q,M]
   |some cs=>
    obtain ⟨ps,O,q3⟩:=O
    rw [O]at x
    obtain ⟨aC,X,rfl,k1,k2⟩:=x
    simp only [oI]at I
    subst I
    refine ⟨_,?_,Hv (u:=.agg X) (by simp only [Ag];exact ⟨X,rfl,AK.cs q3 k2 k1⟩)⟩
    simp [Instr.lookup,run_underlying N,C,A,B,q]
  rename_i aB
  obtain ⟨mm,ai,hl⟩:=Ac hl
  obtain ⟨r,hr,hl⟩:=Ac hl
  simp only [oI]at hl
  subst hl
  obtain ⟨g,ms,Z,ho,he⟩:=H.map (Dx ai)
  obtain ⟨g',j,C⟩:=hm.NT
  rw [Z]at j
  simp only [oI,Prod.mk.injEq]at j
  obtain ⟨rfl,_⟩:=j
  obtain ⟨r',h1,x⟩:=Li hΓ hf V 0 he hr
  have q:=run_findKey (P:=P) (w:=w) hd h1
  have A:(getObj g).run P w=.ok (.map ms mm.2) w:=by simp [getObj,Sem.run,ho]
  cases r with
  |none=>
   simp only at x
   subst x
   refine ⟨_,?_,Hv (Db z)⟩
   simp [Instr.lookup,run_underlying N,C,A,B,q,M]
  |some v=>
   obtain ⟨i',Y,rfl,aj⟩:=x
   refine ⟨_,?_,Hv aj⟩
   simp [Instr.lookup,run_underlying N,C,A,B,q]
 ·cases hl
theorem Pc {e n:Nat}:∀{l:List (Nat×Nat)},SQ e n l=true->(e,n)∈l
 |[],h=>by cases h
 |x::r,h=>by
  have h:((Nat.beq x.1 e&&Nat.beq x.2 n) ||SQ e n r)=true:=h
  rw [Bool.or_eq_true,aT]at h
  rcases h with ⟨h1,h2⟩|h
  ·have j:=Ao.1 h1
   have q:=Ao.1 h2
   subst j q
   exact List.mem_cons_self
  ·exact List.mem_cons_of_mem _ (Pc h)
theorem KT {p:TypeId->Nat->Bool} {e n:Nat} (h:SQ e n (GY P p)=true):1<=n/\p e n=true:=by
 have h:=Pc h
 unfold GY at h
 rw [List.mem_filterMap]at h
 obtain ⟨j,_,h⟩:=h
 split at h
 ·split at h
  ·rename_i i q
   split at h
   ·rename_i hc
    simp only [oI,Prod.mk.injEq]at h
    obtain ⟨rfl,rfl⟩:=h
    rw [aT]at hc
    exact ⟨AL.1 hc.1,hc.2⟩
   ·cases h
  ·cases h
 ·cases h
theorem LI (H:AI ρ μ h w) {ok:List (Nat×Nat)} {x v:Aa} {u:Value} (B:Ag ρ μ x u) (j:Ow h ok x=some v):
  ∃r c e,u=.pointer (some ⟨r,0,none⟩)/\Ag ρ μ v u/\w.heap[r]?=some (.cells c e (0,0))/\SQ e c.size ok=true:=by
 unfold Ow at j
 split at j
 ·rename_i b
  unfold YL at j
  split at j
  ·rename_i e vs hb
   obtain ⟨A,j⟩:=Aq j
   simp only [oI]at j
   subst j
   have z:=B
   obtain ⟨r,⟨δ,m⟩,J,c,I,⟨M,C⟩,_⟩:=H.blk b _ hb
   obtain ⟨N,O,P,q,L⟩:=B.ptr
   rw [J]at q
   simp only [oI,Prod.mk.injEq]at q
   obtain ⟨rfl,rfl,rfl⟩:=q
   subst M
   rw [J5,<-C]at A
   exact ⟨r,c,e,L,z,I,A⟩
  ·cases j
 ·cases j
theorem run_shape {r:Nat} {c:Array Value} {e:TypeId} {fr:Nat×Nat} (j:w.heap[r]?=some (.cells c e fr)):(shape r).run P w=.ok (some (e,c.size)) w:=by
 simp [shape,Sem.run,World.shape?,j]
theorem Uv {r:Nat} {c:Array Value} {e:TypeId} {fr:Nat×Nat} (j:w.heap[r]?=some (.cells c e fr)):(viewAt r).run P w=.ok none w:=by
 simp [viewAt,run_shape j]
theorem Mi {r k:Nat} {c:Array Value} {e:TypeId} {fr:Nat×Nat} (j:w.heap[r]?=some (.cells c e fr)):(Conv.seenAt ⟨r,k,none⟩).run P w=.ok ⟨r,k,none⟩ w:=by
 simp [Conv.seenAt,Uv j]
theorem MH (H:AI ρ μ h w) {o:Oper} {s d t:TypeId} {x:Operand} (C:o.op=.convert s d x) (N:AT ρ μ tm a) (hs:P.underlying s=some (.pointer t)) (hd:P.underlying d=some .unsafePointer) {n:Nat} (L:AW P t=some (n+1))
  {v:Aa} (M:Ow h (GY P fun _ _=>true) (ev tm (AD x))=some v):Bj P ρ μ a o w v:=by
 obtain ⟨r,c,e,A,I,j,J⟩:=LI H (Au N x) M
 obtain ⟨O,_⟩:=KT J
 refine ⟨a.eval x,?_,I⟩
 have B:=Bn (w:=w) L
 have z:(cellsIn r).run P w=.ok (some c.size) w:=by simp [cellsIn,run_shape j]
 have q:c≠#[]:=by rintro rfl;simp at O
 have hc:¬c.size=0:=by omega
 rw [A]
 simp [execOp,C,A,Go.convert,run_underlying hs,run_underlying hd,Conv.unsafePointer,Mi j,B,z,q,hc]
theorem K4 (H:AI ρ μ h w) {o:Oper} {s d u:TypeId} {x:Operand} (C:o.op=.convert s d x) (O:AT ρ μ tm a) (hs:P.underlying s=some .unsafePointer) (hd:P.underlying d=some (.pointer u)) {n:Nat} (M:AW P u=some n)
  {v:Aa} (N:Ow h (GY P fun e n=>liesAt P P.depth e (n/P.cellsOf e) 0 u 1) (ev tm (AD x))=some v):Bj P ρ μ a o w v:=by
 obtain ⟨r,c,e,z,J,j,L⟩:=LI H (Au O x) N
 obtain ⟨_,I⟩:=KT L
 refine ⟨a.eval x,?_,J⟩
 have B:=Bn (w:=w) M
 have q:w.shape? r=some (e,c.size):=by simp [World.shape?,j]
 have A:(variablesAt ⟨r,0,none⟩ u 1).run P w=.ok true w:=by simp [variablesAt,q,I]
 rw [z]
 simp [execOp,C,z,Go.convert,run_underlying hs,run_underlying hd,Conv.unsafePointer,Mi j,B,A]
theorem YN {v:Aa} {n:Nat} (h:u8A v=some n):n<=255/\v=.int .u8 (.lit (.ofNat n)):=by
 unfold u8A at h
 split at h
 ·obtain ⟨q,j⟩:=Aq h
  simp only [oI]at j
  subst j
  exact ⟨AL.1 q,rfl⟩
 ·cases h
theorem RX:∀{cs:List Aa} {s:List Nat} {l:List Value},AeQ cs=some s->Aw ρ μ cs l->l=s.map (fun n:Nat=>.int .u8 (n:Int))/\∀n∈s,n<=255
 |[],s,l,h,hr=>by
  have h:some []=some s:=h
  simp only [oI]at h
  subst h
  simp only [Aw]at hr
  subst hr
  exact ⟨rfl,fun n q=>by cases q⟩
 |v::cs,s,l,h,hr=>by
  have h:(AA (u8A v) fun n=>AA (AeQ cs) fun l=>some (n::l))=some s:=h
  obtain ⟨n,q,J⟩:=Ac h
  obtain ⟨t,C,z⟩:=Ac J
  simp only [oI]at z
  subst z
  obtain ⟨A,rfl⟩:=YN q
  simp only [Aw]at hr
  obtain ⟨u,rest,rfl,⟨_,H⟩,j⟩:=hr
  obtain ⟨B,I⟩:=RX C j
  have:=H.int
  refine ⟨by rw [this,B];rfl,fun m x=>?_⟩
  rcases List.mem_cons.1 x with rfl|x
  ·exact A
  ·exact I m x
theorem Uw (s:List Nat) (j:ByteArray):
  (forIn (m:=Sem) (s.map fun n:Nat=>Value.int .u8 (n:Int)) j fun c r=>match c with
   |.int .u8 n=>do pure PUnit.unit;pure (ForInStep.yield (r.push (UInt8.ofNat n.toNat)))
   |_=>do stuck "bytesToString: byte expected";pure (ForInStep.yield r)).run P w=.ok (s.foldl (fun r n=>r.push (UInt8.ofNat n)) j) w:=by
 induction s generalizing j with
 |nil=>simp
 |cons n s ih=>simp [ih]
theorem PE (s:List Nat) (hs:∀n∈s,n<=255):∀j:ByteArray,strOf (s.foldl (fun r n=>r.push (UInt8.ofNat n)) j)=strOf j++s:=by
 induction s with
 |nil=>intro j;simp
 |cons n s ih=>
  intro j
  rw [List.foldl_cons,ih fun m q=>hs m (List.mem_cons_of_mem _ q)]
  have v:=hs n List.mem_cons_self
  have:strOf (j.push (UInt8.ofNat n))=strOf j++[n]:=by
   unfold strOf
   simp [ByteArray.push]
   omega
  rw [this];simp
theorem Vb (H:AI ρ μ h w) {o:Oper} {s d e:TypeId} {x:Operand} (R:o.op=.convert s d x) (hT:AT ρ μ tm a) (hs:P.underlying s=some (.slice e)) (U:P.underlying e=some (.int .u8)) (hd:P.underlying d=some .string)
  {v:Aa} (z:Xg h (ev tm (AD x))=some v):Bj P ρ μ a o w v:=by
 have I:=Au hT x
 have key:∀(b q len r δ m c:Nat),Nx h b q len=some v->μ b=some (r,δ,m)->a.eval x=.slice (some ⟨r,δ+q,none⟩) len c->Bj P ρ μ a o w v:=fun b q len r δ m c B M A=>by
  unfold Nx at B
  rw [AH]at B
  by_cases h0:len=0
  ·rw [if_pos h0]at B
   simp only [oI]at B
   subst B
   subst h0
   refine ⟨.string .empty,?_,by simp only [Ag];exact ⟨_,rfl,rfl⟩⟩
   simp [execOp,R,A,Go.convert,run_underlying hs,run_underlying hd,run_underlying U,Conv.bytesToString,loadCells,loadCellsFrom]
  ·rw [if_neg h0]at B
   obtain ⟨vs,ab,X⟩:=Ac B
   obtain ⟨cs,Z,V⟩:=Ac X
   obtain ⟨t,ht,N⟩:=Ac V
   simp only [oI]at N
   subst N
   obtain ⟨r2,δ2,m2,c2,C,J,O,_,hc⟩:=H.cells ab
   rw [M]at J
   simp only [oI,Prod.mk.injEq]at J
   obtain ⟨rfl,rfl,rfl⟩:=J
   obtain ⟨l,Y,Q,aa⟩:=D9 hc Z
   have L:=run_loadCells_list (P:=P) (w:=w) ⟨r,δ+q,none⟩ l (fun j v z=>by rw [Addr.AY,Ci O];exact aa j v z)
   rw [Y]at L
   obtain ⟨k1,k2⟩:=RX ht Q
   subst k1
   refine ⟨.string (t.foldl (fun r n=>r.push (UInt8.ofNat n)) .empty),?_,by simp only [Ag];exact ⟨_,rfl,by rw [PE t k2];rfl⟩⟩
   have hp:=Uw (P:=P) (w:=w) t .empty
   simp [execOp,R,A,Go.convert,run_underlying hs,run_underlying hd,run_underlying U,Conv.bytesToString,L,hp]
 unfold Xg at z
 split at z
 ·rename_i A
  rw [A]at I
  have C:a.eval x=.slice none 0 0:=by simpa only [Ag]using I
  simp only [oI]at z
  subst z
  refine ⟨.string .empty,?_,by simp only [Ag];exact ⟨_,rfl,rfl⟩⟩
  simp [execOp,R,C,Go.convert,run_underlying hs,run_underlying hd,run_underlying U,Conv.bytesToString]
 ·rename_i b q len c A
  rw [A]at I
  obtain ⟨r,δ,m,M,C,_⟩:=I.slice
  exact key _ _ _ _ _ _ _ z M C
 ·rename_i b q len es A
  rw [A]at I
  obtain ⟨r,δ,m,cap,M,C,_⟩:=I.gslice
  exact key _ _ _ _ _ _ _ z M C
 ·cases z
theorem BM.length:∀{j:List Entry} {ms:List MapEntry},BM ρ μ j ms->j.length=ms.length
 |[],_,e=>by simp only [BM]at e;rw [e];rfl
 |_::_,_,e=>by
  simp only [BM]at e
  obtain ⟨v,rest,rfl,_,h⟩:=e
  simp [BM.length h]
theorem Mq {Γ:Ap} (hΓ:Γ.AG ρ) (H:AI ρ μ h w) (A:AT ρ μ tm a) {pl:List Co} {o:Oper} {q:NJ} (hc:Dq P pl o=some (.r q)) {v:Aa} (j:Dn Γ tm h q=some v):Bj P ρ μ a o w v:=by
 cases hop:o.op<;>simp only [Dq,hop,reduceCtorEq,oI]at hc
 case load t x=>
  obtain ⟨n,I,e⟩:=mS hc
  simp only [DC.r.injEq]at e
  subst e
  obtain ⟨L,N,M⟩:=M9 hΓ H I (Au A x) j
  exact ⟨L,by simp [execOp,hop,N],M⟩
 case lookup t x k ok=>
  split at hc
  ·rename_i kt e C
   split at hc
   ·rename_i i kk O hk
    obtain ⟨z,Y,e⟩:=mS hc
    simp only [DC.r.injEq]at e
    subst e
    obtain ⟨L,N,M⟩:=QK hΓ H C hk O Y (Au A x) (Au A k) j
    exact ⟨L,by simp [execOp,hop,N],M⟩
   ·cases hc
  ·cases hc
 case call c=>
  unfold EX at hc
  split at hc
  ·split at hc
   ·split at hc
    ·simp at hc
    ·split at hc
     ·split at hc<;>simp at hc
     ·split at hc
      ·split at hc<;>simp at hc
      ·cases hc
   ·cases hc
  ·simp at hc
  ·cases hc
  ·rename_i b hb
   split at hc
   ·rename_i x t e1 e2
    have ea:c.args=#[x]:=by rw [<-Array.toList_inj];simpa using e1
    have X:c.argTypes=#[t]:=by rw [<-Array.toList_inj];simpa using e2
    split at hc
    ·simp at hc
    ·simp at hc
    ·simp at hc
    ·rename_i kt e C
     simp only [oI,DC.r.injEq]at hc;subst hc
     have J:=Au A x
     have j:WD h (ev tm (AD x))=some v:=j
     unfold WD at j
     split at j
     ·rename_i Q
      rw [Q]at J
      have U:a.eval x=.map none:=by simpa only [Ag]using J
      simp only [oI]at j
      subst j
      exact ⟨.int .i64 0,by simp [execOp,hop,resolve,hb,ea,X,invoke,builtin,Builtin.len_,run_underlying C,goInt,U],by simp only [lit,Ag,ST.den];rfl⟩
     ·rename_i bb Q
      rw [Q]at J
      obtain ⟨g,hg,U⟩:=J.NT
      obtain ⟨mm,V,j⟩:=Ac j
      simp only [oI]at j
      subst j
      obtain ⟨g',ms,B,ho,R⟩:=H.map (Dx V)
      rw [hg]at B
      simp only [oI,Prod.mk.injEq]at B
      obtain ⟨rfl,_⟩:=B
      have Z:(getObj g).run P w=.ok (.map ms mm.2) w:=by simp [getObj,Sem.run,ho]
      have hl:AdI mm.1=ms.size:=by rw [WT];simpa using R.length
      exact ⟨.int .i64 ms.size,by simp [execOp,hop,resolve,hb,ea,X,invoke,builtin,Builtin.len_,run_underlying C,goInt,U,Z],by simp only [lit,Ag,ST.den];rw [hl];rfl⟩
     ·cases j
    ·cases hc
   ·exfalso
    unfold ED at hc
    split at hc<;>first|cases hc|skip
    all_goals (split at hc<;>first|(cases hc;done) |(split at hc<;>simp at hc))
   ·exfalso
    split at hc<;>first|(cases hc;done) |(obtain ⟨_,_,e⟩:=mS hc;cases e)
   ·simp at hc
   ·simp at hc
   ·simp at hc
   ·simp at hc
   ·exfalso
    split at hc
    ·split at hc<;>simp at hc
    ·cases hc
   ·cases hc
 case convert s d x=>
  rcases CD hc with ⟨k0,k,hs,hd,e⟩|⟨hs,hd,e⟩|⟨t,n,hs,hd,I,e⟩|⟨u,n,hs,hd,I,e⟩|⟨el,hs,R,hd,e⟩
  ·cases e
  ·cases e
  ·simp only [DC.r.injEq]at e;subst e
   exact MH H hop A hs hd I j
  ·simp only [DC.r.injEq]at e;subst e
   exact K4 H hop A hs hd I j
  ·simp only [DC.r.injEq]at e;subst e
   exact Vb H hop A hs R hd j
 case typeAssert x xt t ok=>
  obtain ⟨d,i,z,C,hd,O,Y,e⟩:=Cf hc
  cases e
 case defer c=>
  obtain ⟨ac,args,aj⟩:=c
  cases ac<;>simp at hc
 case makeFunc fn x c=>cases fn<;>simp at hc
 case binOp op t x y yt=>obtain ⟨_,_,e⟩:=mS hc;cases e
 case slice t x lo O mx=>
  exfalso
  split at hc
  ·simp at hc
  ·obtain ⟨_,_,e⟩:=mS hc;cases e
  ·split at hc
   ·obtain ⟨_,_,e⟩:=mS hc;cases e
   ·cases hc
  ·cases hc
 case build t parts=>
  exfalso
  split at hc
  ·split at hc
   ·obtain ⟨_,_,e⟩:=mS hc;cases e
   ·cases hc
  ·obtain ⟨_,_,hc⟩:=Option.bind_eq_some_iff.1 hc
   obtain ⟨_,_,e⟩:=mS hc;cases e
  ·cases hc
 case fieldAddr t x f=>
  exfalso
  split at hc
  ·obtain ⟨_,_,hc⟩:=Option.bind_eq_some_iff.1 hc
   split at hc<;>simp at hc
  ·cases hc
 case field t x f=>
  exfalso
  split at hc
  ·obtain ⟨_,_,hc⟩:=Option.bind_eq_some_iff.1 hc
   obtain ⟨_,_,e⟩:=mS hc;cases e
  ·cases hc
 all_goals
  exfalso
  first
   |(cases hc;done)
   |(split at hc<;>first|(cases hc;done) |(simp at hc;done) |(obtain ⟨_,_,e⟩:=mS hc;cases e;done) |(split at hc<;>first|(cases hc;done) |(simp at hc;done) |(obtain ⟨_,_,e⟩:=mS hc;cases e;done) |(split at hc<;>first|(cases hc;done) |(simp at hc;done) |(obtain ⟨_,_,e⟩:=mS hc;cases e;done))))
   |(obtain ⟨_,_,e⟩:=mS hc;cases e;done)
end
end
section
section
variable {P:Program} {Γ:Ap} {ρ:Env} {μ:As} {tm:Tr Aa} {a:Act} {w:World} {h:Ak}
def ND (P:Program) (ρ:Env) (μ:As) (a:Act) (o:Oper) (w:World) (id:Nat) (B:Block) (v:Aa):Prop:=
 ∃x q,(execOp a.eval o).run P w=.ok (.value q) (w.alloc x)/\∃m,(∀j:As,μ.le j->C4 ρ j B (some x) (0,m))/\∀j:As,μ.le j->j id=some (w.heap.size,0,m)->Ag ρ j v q
theorem EZ {cs:List Aa} {c:Array Value} {e:TypeId} (hc:Aw ρ μ cs c.toList) (q:As) (j:μ.le q):C4 ρ q (.cells cs) (some (.cells c e)) (0,c.size):=
 ⟨c,e,rfl,by omega,fun i x A=>by
  obtain ⟨v,B,hs,z⟩:=hc.get A
  exact ⟨v,by rw [Nat.zero_add];simpa using B,hs,z.mono j⟩⟩
theorem Lu {cs:List Aa} {c:Array Value} {e:TypeId} {t:Option Nat} (z:t=some e∨t=none) (hc:Aw ρ μ cs c.toList) (j:As) (v:μ.le j):C4 ρ j (KK t cs) (some (.cells c e)) (0,c.size):=by
 have h:=EZ (e:=e) hc j v
 rcases z with rfl|rfl
 ·obtain ⟨A,B,q,hs,x⟩:=h
  simp only [oI,Obj.cells.injEq]at q
  obtain ⟨rfl,rfl,_⟩:=q
  exact ⟨c,rfl,⟨rfl,by have:=hc.length;simp at this;omega⟩,hs,x⟩
 ·exact h
theorem LM (t:TypeId):RY P t=some t∨RY P t=none:=by
 unfold RY
 split
 ·exact .inl rfl
 ·exact .inr rfl
theorem DV (e:TypeId) (c:Array Value):(newRow e c).run P w=.ok ⟨w.heap.size,0,none⟩ (w.alloc (.cells c e)):=by
 simp [newRow]
theorem Wu {id:Nat} {r m:Nat} (j:As) (q:j id=some (r,0,m)):Ag ρ j (.ptr id 0) (.pointer (some ⟨r,0,none⟩)):=by
 simp only [Ag];exact ⟨r,0,m,q,rfl⟩
theorem UD {o:Oper} {t:TypeId} (v:o.op=.alloc t) {cs:List Aa} (C:GR P t=some cs) {id:Nat}:ND P ρ μ a o w id (KK (RY P t) cs) (.ptr id 0):=by
 obtain ⟨z,B,x⟩:=Ef (w:=w) (ρ:=ρ) (μ:=μ) C
 refine ⟨.cells z.cells t,.pointer (some ⟨w.heap.size,0,none⟩),?_,_,fun j q=>Lu (LM t) x j q,fun j _ A=>Wu j A⟩
 simp [execOp,v,Instr.alloc,B,newVar,DV]
theorem XT {o:Oper} {t:TypeId} {x:Operand} (v:o.op=.box t x) (B:AT ρ μ tm a) {cs:List Aa} (hc:(ev tm (AD x)).cells=some cs) {id:Nat}:ND P ρ μ a o w id (KK (RY P t) cs) (.ptr id 0):=by
 have z:=(Au B x).cells hc
 refine ⟨.cells (a.eval x).cells t,.pointer (some ⟨w.heap.size,0,none⟩),?_,_,fun j q=>Lu (LM t) z j q,fun j _ A=>Wu j A⟩
 simp [execOp,v,Instr.box,newVar,DV]
theorem JZ {z:List Aa} {A:Array Value} {n:Nat} (J:Aw ρ μ z A.toList) (j:z.length=n) (k:Nat) {y:Array Value} (L:k*n≠0->y=A):
  Aw ρ μ (rep z k) ((Array.range (k*n)).map fun i=>y[i%y.size]!).toList:=by
 have I:A.size=n:=by have:=J.length;simp at this;omega
 refine Aw.Kq (by rw [IG,j];simp) fun i x q=>?_
 have B:i<k*n:=by
  have:=(List.getElem?_eq_some_iff.1 q).1
  rw [IG,j]at this
  exact this
 rw [Wq z k i (by rw [j];exact B),j]at q
 obtain ⟨v,C,hs,M⟩:=J.get q
 refine ⟨v,?_,hs,M⟩
 have H:=L (by omega)
 subst H
 rw [Array.getElem?_toList]at C
 simp only [Array.getElem?_toList,Array.getElem?_map]
 rw [Array.getElem?_range,if_pos B]
 simp only [Option.map_some]
 rw [I,getElem!_def,C]
theorem QH {o:Oper} {t e:TypeId} {len n:Nat} {parts:Array (Nat×Operand)} (H:o.op=.buildSlice t len parts) (N:AT ρ μ tm a) (J:P.underlying t=some (.slice e)) (V:AW P e=some n) {z:List Aa} (Q:GR P e=some z)
  (Y:len*n<=65536) (C:z.length=n) {ps:List (Nat×Nat×Ct)} (R:partsOf (fun i=>some (i*n,n)) parts.toList=some ps) {cs:List Aa} (hf:H8 tm ps (List.replicate len z).flatten=some cs) {id:Nat}:
  ND P ρ μ a o w id (.cells cs) (.slice id 0 len len):=by
 obtain ⟨L,O,M⟩:=Ef (w:=w) (ρ:=ρ) (μ:=μ) Q
 have hs:=Bn (w:=w) V
 have key:∀y:Array Value,(len*n≠0->y=L.cells)->∃x:Array Value,Instr.fill (fun i=>some (i*n,n)) ((Array.range (len*n)).map fun i=>y[i%y.size]!) ((parts.map fun x=>(x.1,a.eval x.2)).toList)=some x/\Aw ρ μ cs x.toList:=fun y U=>by
  have I:=JZ M C len U
  rw [AaR]at I
  obtain ⟨x,v,hc⟩:=Gn (place':=fun i=>some (i*n,n)) N R (fun i y e=>e) I hf
  refine ⟨x,?_,hc⟩
  have X:(parts.map fun x=>(x.1,a.eval x.2)).toList=parts.toList.map fun p=>(p.1,a.eval p.2):=by simp
  rw [X];exact v
 have q:¬len*n>2^24:=by omega
 have B:∀(m:Nat) (j:As),j id=some (w.heap.size,0,m)->Ag ρ j (.slice id 0 len len) (.slice (some ⟨w.heap.size,0,none⟩) len len):=fun m j A=>by
  simp only [Ag];exact ⟨_,_,_,A,rfl,Nat.le_refl _⟩
 by_cases h0:len*n=0
 ·obtain ⟨x,v,hc⟩:=key #[] (fun h=>absurd h0 h)
  refine ⟨.cells x e,_,?_,_,fun j q=>EZ hc j q,fun j _ A=>B _ j A⟩
  simp only [execOp,H,Instr.buildSlice,Sem.run_bind,run_underlying J,Result.andThen_ok,hs]
  rw [if_neg q]
  simp only [Sem.run_bind,Sem.run_pure,Result.andThen_ok,h0,if_true]
  rw [h0]at v
  simp only [v]
  simp [DV]
 ·obtain ⟨x,v,hc⟩:=key L.cells (fun _=>rfl)
  refine ⟨.cells x e,_,?_,_,fun j q=>EZ hc j q,fun j _ A=>B _ j A⟩
  simp only [execOp,H,Instr.buildSlice,Sem.run_bind,run_underlying J,Result.andThen_ok,hs]
  rw [if_neg q]
  simp only [Sem.run_bind,Sem.run_pure,Result.andThen_ok,h0,if_false,O]
  simp only [v]
  simp [DV]
theorem wrap_small {n:Nat} (h:n<=1048576):IntKind.i64.wrap (n:Int)=(n:Int):=by
 unfold IntKind.wrap
 have e:(n:Int)%2^IntKind.i64.bits=n:=Int.emod_eq_of_lt (by omega) (by show (n:Int)<18446744073709551616;omega)
 simp only [e]
 rw [if_neg]
 intro hc
 simp only [aT,decide_eq_true_eq]at hc
 have:(9223372036854775808:Int)<=n:=hc.2
 omega
theorem NU {o:Oper} {t e:TypeId} {l c:Operand} (O:o.op=.makeSlice t l c) (V:AT ρ μ tm a) (Q:P.underlying t=some (.slice e)) {i:TypeInfo} (hi:P.info? e=some i) {z:List Aa} (Y:GR P e=some z)
  (hb:i.bytes<=1048576) (H:z.length=i.size) {id:Nat} {B:Block} {v:Aa} (h:M5 id z (C5 (ev tm (AD l))) (C5 (ev tm (AD c)))=some (B,v)):ND P ρ μ a o w id B v:=by
 obtain ⟨zv,h1,M⟩:=Ef (w:=w) (ρ:=ρ) (μ:=μ) Y
 unfold M5 at h
 obtain ⟨ln,hl,h⟩:=Ac h
 obtain ⟨cn,hc,h⟩:=Ac h
 obtain ⟨q,h⟩:=Aq h
 rw [aT,AL,AL]at q
 simp only [oI,Prod.mk.injEq]at h
 obtain ⟨rfl,rfl⟩:=h
 obtain ⟨k1,R⟩:=Cg hl (Au V l)
 obtain ⟨k2,N⟩:=Cg hc (Au V c)
 have A:(typeInfo e).run P w=.ok i w:=by simp [typeInfo,hi]
 have hs:(sizeOf e).run P w=.ok i.size w:=by simp [sizeOf,A]
 have I:∀(m:Nat) (j:As),j id=some (w.heap.size,0,m)->Ag ρ j (.slice id 0 ln cn) (.slice (some ⟨w.heap.size,0,none⟩) ln cn):=fun m j C=>by
  simp only [Ag];exact ⟨_,_,_,C,rfl,q.1⟩
 have U:=wrap_small (n:=ln) (by omega)
 have X:=wrap_small (n:=cn) (by omega)
 have Z:i.bytes*cn<=1048576*1048576:=Nat.mul_le_mul hb q.2
 have L:(((cn:Int)<0) ||decide ((i.bytes:Int)*(cn:Int)>2^48))=false:=by
  have:(i.bytes:Int)*(cn:Int)=((i.bytes*cn:Nat):Int):=by simp
  rw [this]
  simp
  omega
 have x:(((((cn:Int)<0) ||decide ((i.bytes:Int)*(cn:Int)>2^48)) ||decide ((ln:Int)<0)) ||decide ((ln:Int)>(cn:Int)))=false:=by
  rw [L];simp;omega
 by_cases h0:cn*i.size=0
 ·have J:=JZ M H cn (y:=#[]) (fun h=>absurd h0 h)
  refine ⟨.cells _ e,_,?_,_,fun j q=>EZ J j q,fun j _ C=>I _ j C⟩
  simp only [execOp,O,Instr.makeSlice,Sem.run_bind,run_underlying Q,Result.andThen_ok,R,N,asInt,asIntOf,Sem.run_pure,A,U,X]
  rw [x]
  simp [hs,h0,DV]
 ·have J:=JZ M H cn (y:=zv.cells) (fun _=>rfl)
  refine ⟨.cells _ e,_,?_,_,fun j q=>EZ J j q,fun j _ C=>I _ j C⟩
  simp only [execOp,O,Instr.makeSlice,Sem.run_bind,run_underlying Q,Result.andThen_ok,R,N,asInt,asIntOf,Sem.run_pure,A,U,X]
  rw [x]
  simp [hs,h0,h1,DV]
theorem XS {o:Oper} {t k e:TypeId} {r:Option Operand} (q:o.op=.makeMap t r) (z:P.underlying t=some (.map k e)) (x:r=none∨∃j n,r=some (.const (.int j n))) {id:Nat}:ND P ρ μ a o w id (.map [] 0) (.map id):=by
 refine ⟨.map #[] 0,.map (some w.heap.size),?_,0,fun A _=>⟨rfl,#[],rfl,by simp only [BM]⟩,fun A _ v=>by simp only [Ag];exact ⟨_,v,rfl⟩⟩
 rcases x with rfl|⟨j,n,rfl⟩
 ·simp [execOp,q,Instr.makeMap]
 ·simp [execOp,q,Instr.makeMap,run_underlying z,Act.eval,asInt,asIntOf]
theorem ON (L:AT ρ μ tm a) {pl:List Co} {o:Oper} {q:AOp} (hc:Dq P pl o=some (.a q)) {id:Nat} {B:Block} {v:Aa} (h:XQ tm id q=some (B,v)):ND P ρ μ a o w id B v:=by
 cases hop:o.op<;>simp only [Dq,hop,reduceCtorEq,oI,DC.a.injEq]at hc
 case alloc t=>
  obtain ⟨z,H,e⟩:=mS hc
  simp only [DC.a.injEq]at e
  subst e
  have h:some (KK (RY P t) z,Aa.ptr id 0)=some (B,v):=h
  simp only [oI,Prod.mk.injEq]at h
  obtain ⟨rfl,rfl⟩:=h
  exact UD hop H
 case box t x=>
  subst hc
  obtain ⟨cs,I,h⟩:=Ac h
  simp only [oI,Prod.mk.injEq]at h
  obtain ⟨rfl,rfl⟩:=h
  exact XT hop L I
 case buildSlice t len parts=>
  split at hc
  ·rename_i e C
   split at hc
   ·rename_i n z N H
    split at hc
    ·rename_i A
     obtain ⟨ps,R,e⟩:=mS hc
     simp only [DC.a.injEq]at e
     subst e
     obtain ⟨cs,I,h⟩:=Ac h
     simp only [oI,Prod.mk.injEq]at h
     obtain ⟨rfl,rfl⟩:=h
     simp only [aT,decide_eq_true_eq,beq_iff_eq]at A
     exact QH hop L C N H A.1 A.2 R I
    ·cases hc
   ·cases hc
  ·cases hc
 case makeSlice t l c=>
  split at hc
  ·rename_i e C
   split at hc
   ·rename_i i z M H
    split at hc
    ·rename_i A
     simp only [oI,DC.a.injEq]at hc
     subst hc
     simp only [aT,decide_eq_true_eq,beq_iff_eq]at A
     exact NU hop L C M H A.1 A.2 h
    ·cases hc
   ·cases hc
  ·cases hc
 case makeMap t r=>
  have J:q=.mkMap->(∃k e,P.underlying t=some (.map k e))->(r=none∨∃j n,r=some (.const (.int j n)))->ND P ρ μ a o w id B v:=fun Q C U=>by
   subst Q
   have h:some (Block.map [] 0,Aa.map id)=some (B,v):=h
   simp only [oI,Prod.mk.injEq]at h
   obtain ⟨rfl,rfl⟩:=h
   obtain ⟨k,e,C⟩:=C
   exact XS hop C U
  split at hc
  ·rename_i k e C
   simp only [oI,DC.a.injEq]at hc
   exact J hc.symm ⟨_,_,C⟩ (.inl rfl)
  ·rename_i k e j n C
   simp only [oI,DC.a.injEq]at hc
   exact J hc.symm ⟨_,_,C⟩ (.inr ⟨_,_,rfl⟩)
  ·cases hc
 case call c=>
  exfalso
  unfold EX at hc
  split at hc
  ·split at hc
   ·split at hc
    ·simp at hc
    ·split at hc
     ·split at hc<;>simp at hc
     ·split at hc
      ·split at hc<;>simp at hc
      ·cases hc
   ·cases hc
  ·simp at hc
  ·cases hc
  ·split at hc
   ·split at hc<;>simp at hc
   ·exfalso
    unfold ED at hc
    split at hc<;>first|cases hc|skip
    all_goals (split at hc<;>first|(cases hc;done) |(split at hc<;>simp at hc))
   ·exfalso
    split at hc<;>first|(cases hc;done) |(obtain ⟨_,_,e⟩:=mS hc;cases e)
   ·simp at hc
   ·simp at hc
   ·simp at hc
   ·simp at hc
   ·exfalso
    split at hc
    ·split at hc<;>simp at hc
    ·cases hc
   ·cases hc
 case convert s d x=>
  rcases CD hc with ⟨k0,k,hs,hd,e⟩|⟨hs,hd,e⟩|⟨t,n,hs,hd,N,e⟩|⟨u,n,hs,hd,N,e⟩|⟨el,hs,he,hd,e⟩<;>cases e
 case typeAssert x xt t ok=>
  obtain ⟨d,i,z,C,hd,M,H,e⟩:=Cf hc
  cases e
 case defer c=>
  obtain ⟨O,args,V⟩:=c
  cases O<;>simp at hc
 case makeFunc fn x c=>cases fn<;>simp at hc
 case binOp op t x y yt=>obtain ⟨_,_,e⟩:=mS hc;cases e
 case slice t x lo M mx=>
  exfalso
  split at hc
  ·simp at hc
  ·obtain ⟨_,_,e⟩:=mS hc;cases e
  ·split at hc
   ·obtain ⟨_,_,e⟩:=mS hc;cases e
   ·cases hc
  ·cases hc
 case build t parts=>
  exfalso
  split at hc
  ·split at hc
   ·obtain ⟨_,_,e⟩:=mS hc;cases e
   ·cases hc
  ·obtain ⟨_,_,hc⟩:=Option.bind_eq_some_iff.1 hc
   obtain ⟨_,_,e⟩:=mS hc;cases e
  ·cases hc
 case fieldAddr t x f=>
  exfalso
  split at hc
  ·obtain ⟨_,_,hc⟩:=Option.bind_eq_some_iff.1 hc
   split at hc<;>simp at hc
  ·cases hc
 case field t x f=>
  exfalso
  split at hc
  ·obtain ⟨_,_,hc⟩:=Option.bind_eq_some_iff.1 hc
   obtain ⟨_,_,e⟩:=mS hc;cases e
  ·cases hc
 all_goals
  exfalso
  first
   |(cases hc;done)
   |(split at hc<;>first|(cases hc;done) |(simp at hc;done) |(obtain ⟨_,_,e⟩:=mS hc;cases e;done) |(split at hc<;>first|(cases hc;done) |(simp at hc;done) |(obtain ⟨_,_,e⟩:=mS hc;cases e;done) |(split at hc<;>first|(cases hc;done) |(simp at hc;done) |(obtain ⟨_,_,e⟩:=mS hc;cases e;done))))
   |(obtain ⟨_,_,e⟩:=mS hc;cases e;done)
end
end
section
section
variable {P:Program} {Γ:Ap} {ρ:Env} {μ:As} {tm:Tr Aa} {a:Act} {w:World} {h:Ak}
theorem setRow_other (w:World) (g i:Nat) (c:Array Value) (j:i≠g):(w.setRow g c).heap[i]?=w.heap[i]?:=by
 unfold World.setRow
 simp only [Array.getElem?_modify]
 rw [if_neg (Ne.symm j)]
theorem Ej (w:World) (g:Nat) (c cur:Array Value) (t:TypeId) (fr:Nat×Nat) (j:w.heap[g]?=some (.cells cur t fr)):(w.setRow g c).heap[g]?=some (.cells c t fr):=by
 unfold World.setRow
 simp only [Array.getElem?_modify]
 rw [if_pos trivial,j]
 rfl
theorem DF {r p:Nat} {c:Array Value} {e:TypeId} (L:List Value) (x:w.heap[r]?=some (.cells c e (0,0))) (q:p+L.length<=c.size) (z:∀v∈L,v.oneCell'=true):
  ∃j:Array Value,(storeCells ⟨r,p,none⟩ L).run P w=.ok () (w.setRow r j)/\j.size=c.size/\∀k,j[k]?=if p<=k/\k<p+L.length then L[k-p]? else c[k]?:=by
 refine ⟨_,run_storeCells_at P r p e L 0 c w x (by omega) z,?_,fun k=>?_⟩
 ·simp;omega
 ·simp only [Nat.add_zero,List.getElem?_toArray]
  rw [List.append_assoc]
  have hl:(c.toList.take p).length=p:=by simp;omega
  by_cases hk:k<p
  ·rw [List.getElem?_append_left (by omega),List.getElem?_take,if_pos hk,if_neg (by omega)]
   simp
  ·rw [List.getElem?_append_right (by omega),hl]
   by_cases hk2:k<p+L.length
   ·rw [List.getElem?_append_left (by omega),if_pos (by omega)]
   ·rw [List.getElem?_append_right (by omega),List.getElem?_drop,if_neg (by omega)]
    rw [Array.getElem?_toList]
    congr 1
    omega
theorem Aw.one:∀{as:List Aa} {vs:List Value},Aw ρ μ as vs->∀v∈vs,v.oneCell'=true
 |[],_,e,v,hv=>by simp only [Aw]at e;subst e;cases hv
 |_::_,_,e,v,hv=>by
  simp only [Aw]at e
  obtain ⟨u,rest,rfl,⟨hs,j⟩,h⟩:=e
  cases hv with
  |head=>exact j.QA hs
  |tail _ hv=>exact Aw.one h v hv
theorem AI.Aht (H:AI ρ μ h w) {b:Nat} {vs:List Aa} {r δ m:Nat} {c:Array Value} {e:TypeId} (q:δ+m<=c.size) (hc:∀(i:Nat) (x:Aa),vs[i]?=some x->∃v,c[δ+i]?=some v/\x.single=true/\Ag ρ μ x v):δ+vs.length<=c.size:=by
 cases hl:vs.length with
 |zero=>omega
 |succ n=>
  obtain ⟨v,j,_⟩:=hc n _ (List.getElem?_eq_getElem (by omega))
  have:=(Array.getElem?_eq_some_iff.1 j).1
  omega
theorem GS (H:AI ρ μ h w) {b I:Nat} {vs j new:List Aa} {L:List Value} (hb:cellsOf (h.get b)=some vs) (V:Aw ρ μ new L) (hs:splice new I vs=some j):
  ∃r δ m,μ b=some (r,δ,m)/\∃w',(storeCells ⟨r,δ+I,none⟩ L).run P w=.ok () w'/\∀z,(z=.cells j∨z=Aep (h.get b) j)->Av ρ μ h w μ (h.set b (some z)) w':=by
 obtain ⟨r,δ,m,c,e,X,Q,Z,hc⟩:=H.cells hb
 obtain ⟨B0,ac⟩:=Lo hb
 obtain ⟨h1,h2,h3⟩:=Hh hs
 have hl:=V.length
 have af:=H.Aht (b:=b) (r:=r) (e:=e) Z hc
 obtain ⟨M,R,ag,ab⟩:=DF (P:=P) L Q (p:=δ+I) (by omega) V.one
 refine ⟨r,δ,m,X,_,R,fun z aa=>?_⟩
 have q:∀(i:Nat) (x:Aa),j[i]?=some x->∃v,M[δ+i]?=some v/\x.single=true/\Ag ρ μ x v:=fun i x N=>by
  rw [h3]at N
  rw [ab]
  split at N
  ·rename_i U
   obtain ⟨v,Y,A,B⟩:=V.get N
   refine ⟨v,?_,A,B⟩
   rw [if_pos (by omega),<-Y]
   congr 1
   omega
  ·rename_i U
   obtain ⟨v,Y,A,B⟩:=hc i x N
   refine ⟨v,?_,A,B⟩
   rw [if_neg (by omega)]
   exact Y
 refine Av.change H ac X z (fun i U=>setRow_other _ _ _ _ U) (by simp) rfl rfl ?_
 rw [Ej _ _ _ _ _ _ Q]
 have O:C4 ρ μ (.cells j) (some (.cells M e (0,0))) (δ,m):=⟨M,e,rfl,by omega,q⟩
 rcases aa with rfl|rfl
 ·exact O
 ·rcases EE hb with hb'|⟨t,hb'⟩
  ·rw [hb'];exact O
  ·rw [hb']
   obtain ⟨r2,⟨δ2,m2⟩,C,c2,J,⟨hδ,ah⟩,_⟩:=H.blk b _ hb'
   rw [X]at C
   simp only [oI,Prod.mk.injEq]at C
   obtain ⟨rfl,rfl,rfl⟩:=C
   rw [Q]at J
   simp only [oI,Obj.cells.injEq]at J
   obtain ⟨rfl,rfl,_⟩:=J
   exact ⟨M,rfl,⟨hδ,by omega⟩,by omega,q⟩
def JW (P:Program) (g:FuncId):Prop:=∃fn,P.funcs[g]?=some fn/\fn.body.isSome=true/\(fn.name== "runtime.NumGoroutine")=false
def KN (ρ:Env) (μ:As) (d:FuncId×List Aa) (c:Deferred):Prop:=
 ∃cap:Array Value,c.target=.fn (.func d.1) cap/\A6 ρ μ d.2 (c.args++cap).toList
def Ex (P:Program) (ρ:Env) (μ:As) (h:Ak) (a:Act) (o:Oper) (w:World):GN->Prop
 |.val v h'=>∃q u w' x,(execOp a.eval o).run P w=.ok q w'/\(q=.value u∨(q=.skip/\u=undef))/\Av ρ μ h w x h' w'/\Ag ρ x v u
 |.call g args=>JW P g->∃j:Array Value,(execOp a.eval o).run P w=.ok (.enter g j) w/\A6 ρ μ args j.toList
 |.panic v=>∃u,(execOp a.eval o).run P w=.halt (.panic u) w/\Ag ρ μ v u
 |.defer g args=>∃d,(execOp a.eval o).run P w=.ok (.defer d) w/\KN ρ μ (g,args) d
theorem Vr {o:Oper} {t:TypeId} {p x:Operand} (R:o.op=.store t p x) (H:AI ρ μ h w) (I:AT ρ μ tm a) {n:Nat} (U:AW P t=some n) {C:Ak} (hs:TM h n (ev tm (AD p)) (ev tm (AD x))=some C):
  Ex P ρ μ h a o w (.val .any C):=by
 have M:=Au I p
 have V:=Au I x
 unfold TM at hs
 split at hs
 ·rename_i b Z Y
  obtain ⟨vs,O,hs⟩:=Ac hs
  obtain ⟨aa,hf,hs⟩:=Ac hs
  simp only [oI]at hs
  subst hs
  rw [Y]at M
  obtain ⟨r',δ',m',j,Q⟩:=M.ptr
  unfold Fw at hf
  obtain ⟨new,A,hf⟩:=Ac hf
  obtain ⟨z,hf⟩:=Aq hf
  have q:=V.cells A
  obtain ⟨r,δ,m,X,w',B,v⟩:=GS (P:=P) H O q hf
  have v:=v _ (.inr rfl)
  rw [X]at j
  simp only [oI,Prod.mk.injEq]at j
  obtain ⟨rfl,rfl,rfl⟩:=j
  have L:(a.eval x).cells.size=n:=by
   have J:=Ao.1 z
   rw [J5]at J
   rw [<-J]
   simpa using q.length.symm
  have N:=Bn (w:=w) U
  refine ⟨.skip,undef,w',μ,?_,.inr ⟨rfl,rfl⟩,v,trivial⟩
  simp [execOp,R,Instr.storeAt,Q,Instr.sureAddr,storeVar,N,L,B]
 ·cases hs
theorem Vz {f:Aa} {args:List Aa} {r:FuncId×List Aa} (h:Nu f args=some r):∃first cap,f=.func r.1 first cap/\r.2=first++(args++cap):=by
 unfold Nu at h
 split at h
 ·rename_i g first cap
  simp only [oI]at h
  subst h
  exact ⟨first,cap,rfl,rfl⟩
 ·cases h
theorem GF {g:FuncId} (hf:JW P g) (args:Array Value):(callFunc g args).run P w=.ok (.enter g args) w:=by
 obtain ⟨fn,j,q,v⟩:=hf
 have x:fn.body.isNone=false:=by cases hb:fn.body<;>simp [hb]at q⊢
 simp only [callFunc,Sem.run_bind,run_program,Result.andThen_ok,j,v,x]
 simp
theorem Ju {c:Call} {x:Operand} (j:c.callee=.value x) (z:AT ρ μ tm a) {t:TypeId} {r:FuncId×List Aa} (h:Nu (ev tm (AD x)) (RR tm (BU c.args.toList))=some r):
  ∃d cap:Array Value,(resolve a.eval c t).run P w=.ok {target:=.fn (.func r.1) cap,args:=d} w/\A6 ρ μ r.2 (d++cap).toList:=by
 obtain ⟨first,cap,C,I⟩:=Vz h
 have v:=Au z x
 rw [C]at v
 obtain ⟨B,A,H,hf,q⟩:=v.func
 refine ⟨B++c.args.map a.eval,A,?_,?_⟩
 ·simp [resolve,j,H,Deferred.ofValue]
 ·rw [I]
  simp only [Array.toList_append,Array.toList_map,List.append_assoc]
  exact hf.append ((FT z _).append q)
theorem Pr {o:Oper} {c:Call} {x:Operand} (q:o.op=.call c) (j:c.callee=.value x) (A:AT ρ μ tm a) {r:FuncId×List Aa} (z:Nu (ev tm (AD x)) (RR tm (BU c.args.toList))=some r):
  Ex P ρ μ h a o w (.call r.1 r.2):=fun hf=>by
 obtain ⟨d,cap,B,v⟩:=Ju (P:=P) (w:=w) (t:=o.type) j A z
 refine ⟨d++cap,?_,v⟩
 simp only [execOp,q,Sem.run_bind,B,Result.andThen_ok,invoke]
 exact GF hf _
theorem Vu {o:Oper} {c:Call} {x:Operand} (q:o.op=.defer c) (j:c.callee=.value x) (A:AT ρ μ tm a) {r:FuncId×List Aa} (v:Nu (ev tm (AD x)) (RR tm (BU c.args.toList))=some r):
  Ex P ρ μ h a o w (.defer r.1 r.2):=by
 obtain ⟨d,cap,B,z⟩:=Ju (P:=P) (w:=w) (t:=o.type) j A v
 refine ⟨{target:=.fn (.func r.1) cap,args:=d},?_,cap,rfl,z⟩
 simp only [execOp,q,Sem.run_bind,B,Result.andThen_ok]
 rfl
theorem Vs {o:Oper} {x:Operand} (A:o.op=.panic x) (C:AT ρ μ tm a) {r:GN} (j:U2 (ev tm (AD x))=some r):Ex P ρ μ h a o w r:=by
 have q:=Au C x
 unfold U2 at j
 split at j
 ·rename_i t v B
  simp only [oI]at j
  subst j
  rw [B]at q
  have z:=q
  obtain ⟨u,H,_⟩:=q.iface
  exact ⟨a.eval x,by simp [execOp,A,Instr.panic,H],z⟩
 ·cases j
theorem Vx (fn:Func) (j:fn.name= "maps.clone") (x:fn.origin= ""):Extern.findNext fn=none/\Extern.find fn=some Extern.MapsClone.clone:=by
 have v:Extern.allNextRows.lookup "maps.clone" =none:=by kernel_rfl
 have a2:Extern.allNextRows.lookup "" =none:=by kernel_rfl
 have z:Extern.allGenericRows.lookup "maps.clone" =none:=by kernel_rfl
 have q:Extern.allTypedRows.lookup "maps.clone" =none:=by kernel_rfl
 have A:Extern.allRows.lookup "maps.clone" =some Extern.MapsClone.clone:=by kernel_rfl
 refine ⟨?_,?_⟩
 ·unfold Extern.findNext
  rw [j,x]
  simp [v,a2]
 ·unfold Extern.find
  rw [j]
  simp [z,q,A]
theorem U7 (fn:Func) (j:fn.name= "internal/abi.NoEscape") (x:fn.origin= ""):Extern.findNext fn=none/\Extern.find fn=some Extern.AbiNoEscape.same:=by
 have v:Extern.allNextRows.lookup "internal/abi.NoEscape" =none:=by kernel_rfl
 have a2:Extern.allNextRows.lookup "" =none:=by kernel_rfl
 have z:Extern.allGenericRows.lookup "internal/abi.NoEscape" =none:=by kernel_rfl
 have q:Extern.allTypedRows.lookup "internal/abi.NoEscape" =none:=by kernel_rfl
 have A:Extern.allRows.lookup "internal/abi.NoEscape" =some Extern.AbiNoEscape.same:=by kernel_rfl
 refine ⟨?_,?_⟩
 ·unfold Extern.findNext
  rw [j,x]
  simp [v,a2]
 ·unfold Extern.find
  rw [j]
  simp [z,q,A]
theorem Vt {o:Oper} {c:Call} {f:FuncId} {x:Operand} {fn:Func} (M:o.op=.call c) (z:c.callee=.value (.func f)) (q:c.args=#[x]) (hf:P.funcs[f]?=some fn) (hb:fn.body.isSome=false) (j:fn.name= "internal/abi.NoEscape") (A:fn.origin= "")
  (H:AI ρ μ h w) (L:AT ρ μ tm a) {r:GN} (v:U8 h (ev tm (AD x))=some r):Ex P ρ μ h a o w r:=by
 have N:=Au L x
 unfold U8 at v
 simp only [oI]at v
 subst v
 refine ⟨.value (a.eval x),a.eval x,w,μ,?_,.inl rfl,Av.refl H,N⟩
 obtain ⟨n1,n2⟩:=U7 fn j A
 have C:(fn.name== "runtime.NumGoroutine")=false:=by rw [j];rfl
 have I:fn.body.isNone=true:=by cases hbb:fn.body<;>simp [hbb]at hb⊢
 have J:(Extern.AbiNoEscape.same #[a.eval x]).run P w=.ok (a.eval x) w:=by
  have e:Extern.AbiNoEscape.same #[a.eval x]=pure (a.eval x):=rfl
  rw [e];rfl
 have B:a.eval (.func f)=.func (.func f) #[] #[]:=rfl
 simp only [execOp,M,resolve,z,q,List.map_toArray,List.map_cons,List.map_nil,B,Deferred.ofValue,Sem.run_bind,Sem.run_pure,Result.andThen_ok,invoke,callFunc,run_program,hf,C,I,n1,n2,run_mark]
 simp [J]
theorem Vv {o:Oper} {c:Call} {f:FuncId} {x:Operand} {fn:Func} (ho:o.op=.call c) (L:c.callee=.value (.func f)) (J:c.args=#[x]) (hf:P.funcs[f]?=some fn) (hb:fn.body.isSome=false) (A:fn.name= "maps.clone") (M:fn.origin= "")
  (H:AI ρ μ h w) (hT:AT ρ μ tm a) {r:GN} (z:Vy h (ev tm (AD x))=some r):Ex P ρ μ h a o w r:=by
 have V:=Au hT x
 unfold Vy at z
 split at z
 ·rename_i t b e1
  rw [e1]at V
  obtain ⟨u,e2,hu⟩:=V.iface
  obtain ⟨g,O,rfl⟩:=hu.NT
  have key:∀(B:Block) (ms:Array MapEntry) (j:Nat),w.heap[g]?=some (.map ms j)->(∀I,μ.le I->C4 ρ I B (some (.map ms j)) (0,0))->r=.val (.iface t (.map h.next)) (h.add B)->Ex P ρ μ h a o w r:=fun B ms j q hB hr=>by
   subst hr
   have R:=Av.add H B (.map ms j) (0,0) hB
   refine ⟨.value (.iface t (.map (some w.heap.size))),_,_,_,?_,.inl rfl,R,?_⟩
   ·obtain ⟨n1,n2⟩:=Vx fn A M
    have X:(fn.name== "runtime.NumGoroutine")=false:=by rw [A];rfl
    have Y:fn.body.isNone=true:=by cases hbb:fn.body<;>simp [hbb]at hb⊢
    have Z:(Extern.MapsClone.clone #[.iface t (.map (some g))]).run P w=.ok (.iface t (.map (some w.heap.size))) (w.alloc (.map ms j)):=by
     have e:Extern.MapsClone.clone #[.iface t (.map (some g))]=(getObj g>>=fun o=>match o with
      |.map entries clock=>(newObj (.map entries clock)>>=fun n=>pure (.iface t (.map (some n))))
      |_=>stuck "maps.clone: a map expected"):=rfl
     have U:(getObj g).run P w=.ok (.map ms j) w:=by simp [getObj,Sem.run,q]
     rw [e]
     simp [U]
    have Q:a.eval (.func f)=.func (.func f) #[] #[]:=rfl
    simp only [execOp,ho,resolve,L,J,List.map_toArray,List.map_cons,List.map_nil,e2,Q,Deferred.ofValue,Sem.run_bind,Sem.run_pure,Result.andThen_ok,invoke,callFunc,run_program,hf,X,Y,n1,n2,run_mark]
    simp [Z]
   ·simp only [Ag]
    exact ⟨_,rfl,_,As.BD _ _ _,rfl⟩
  unfold Acn at z
  split at z
  ·rename_i i hi
   simp only [oI]at z
   obtain ⟨g',ms,j,v,q,N⟩:=H.smap (Ei hi)
   rw [O]at v
   simp only [oI,Prod.mk.injEq]at v
   obtain ⟨rfl,_⟩:=v
   exact key (.smap i) ms j q (fun I C=>⟨rfl,ms,j,rfl,Jc.mono C.AU N⟩) z.symm
  ·obtain ⟨m,hm,z⟩:=Ac z
   simp only [oI]at z
   obtain ⟨g',ms,v,q,N⟩:=H.map (Dx hm)
   rw [O]at v
   simp only [oI,Prod.mk.injEq]at v
   obtain ⟨rfl,_⟩:=v
   exact key (.map m.1 m.2) ms m.2 q (fun I C=>⟨rfl,ms,rfl,N.mono C⟩) z.symm
 ·cases z
theorem Jr {kk:LK} {x y:Aa} {u v:Value} (q:Ag ρ μ x u) (j:Ag ρ μ y v) (h:OY kk x y=some true):Instr.sameBits 10000 v u=true:=by
 unfold OY at h
 split at h
 ·obtain ⟨C,z⟩:=Aq h
  simp only [oI]at z
  rw [q.int,j.int,Di.1 C,QU.1 z]
  simp [Instr.sameBits]
 ·simp only [oI]at h
  obtain ⟨s,rfl,H⟩:=q.str
  obtain ⟨B,rfl,A⟩:=j.str
  have:s=B:=Kf (by rw [H,A];exact Dt.1 h)
  subst this
  simp only [Instr.sameBits]
  rw [beq_toListBytes];simp
 ·simp only [oI,beq_eq,beq_iff_eq]at h
  subst h
  rw [q.bool,j.bool]
  simp [Instr.sameBits]
 ·cases h
theorem LL {kk:LK} {d:TypeDesc} (Q:kk.fits d) {k v:Aa} {C O:Value} {j:Nat} (A:Ag ρ μ k C) (I:k.single=true) (L:Ag ρ μ v O):∀{M q:List Entry} {new:Bool} {ms:List MapEntry} (n:Nat),BM ρ μ M ms->AeP kk k v j M=some (q,new)->
  (new=true/\Instr.findNow d C ms n=some none/\BM ρ μ q (ms++[{key:=C,val:=O,born:=j}]))∨
  (new=false/\∃i P m,Instr.findNow d C ms n=some (some (n+i,P))/\ms[i]?=some m/\Instr.sameBits 10000 m.key C=true/\BM ρ μ q (ms.modify i fun e=>{e with key:=C,val:=O}))
 |[],q,new,ms,n,he,h=>by
  simp only [BM]at he
  subst he
  have h:some ([⟨k,v,j⟩],true)=some (q,new):=h
  simp only [oI,Prod.mk.injEq]at h
  obtain ⟨rfl,rfl⟩:=h
  left
  refine ⟨rfl,rfl,?_⟩
  simp only [BM,List.nil_append]
  exact ⟨_,_,rfl,⟨I,A,L,rfl⟩,rfl⟩
 |e::M,q,new,ms,n,he,h=>by
  simp only [BM]at he
  obtain ⟨m,rest,rfl,⟨hs,x,J,z⟩,B⟩:=he
  have h:(AA (OY kk k e.key) fun b=>bif b then some (⟨k,v,e.born⟩::M,false)else AA (AeP kk k v j M) fun r=>some (e::r.1,r.2))=some (q,new):=h
  obtain ⟨b,hb,N⟩:=Ac h
  have H:=NQ Q A x hb
  cases b with
  |true=>
   simp only [cond_true,oI,Prod.mk.injEq]at N
   obtain ⟨rfl,rfl⟩:=N
   right
   refine ⟨rfl,0,m.val,m,by simp [Instr.findNow,H],rfl,?_,?_⟩
   ·exact Jr A x hb
   ·simp only [List.modify_zero_cons,BM]
    exact ⟨_,_,rfl,⟨I,A,L,z⟩,B⟩
  |false=>
   simp only [cond_false]at N
   obtain ⟨r,U,R⟩:=Ac N
   simp only [oI,Prod.mk.injEq]at R
   obtain ⟨rfl,rfl⟩:=R
   rcases LL Q A I L (n+1) B U with ⟨e1,e2,e3⟩|⟨e1,i,P,m',e2,e3,e4,e5⟩
   ·left
    refine ⟨e1,by simp [Instr.findNow,H,e2],?_⟩
    simp only [List.cons_append,BM]
    exact ⟨_,_,rfl,⟨hs,x,J,z⟩,e3⟩
   ·right
    refine ⟨e1,i+1,P,m',by simp [Instr.findNow,H,e2];omega,by simpa using e3,e4,?_⟩
    simp only [List.modify_succ_cons,BM]
    exact ⟨_,_,rfl,⟨hs,x,J,z⟩,e5⟩
end
end
section
section
variable {ρ:Env} {μ:As} {AU:Nat->Option Obj} {a b:Array Value}
theorem AK.congr:∀{ps:List PV} {δ j:Nat},(∀i,i<ps.length->b[j+i]?=a[δ+i]?)->AK AU a δ ps->AK AU b j ps
 |[],_,_,_,_=>by simp only [AK]
 |p::ps,δ,j,h,e=>by
  simp only [AK]at e⊢
  obtain ⟨⟨u,q,x⟩,v⟩:=e
  refine ⟨⟨u,?_,x⟩,AK.congr (δ:=δ+1) (fun i z=>?_) v⟩
  ·have:=h 0 (by simp)
   simpa [q]using this
  ·have:=h (i+1) (by simp;omega)
   rw [show j+1+i=j+(i+1) by omega,this,show δ+1+i=δ+(i+1) by omega]
theorem AK.values:∀{ps:List PV} {δ:Nat},AK AU a δ ps->∃l:List Value,l.length=ps.length/\(∀j v,l[j]?=some v->a[δ+j]?=some v)/\∀j,j<ps.length->a[δ+j]?=l[j]?
 |[],δ,_=>⟨[],rfl,fun j v h=>by simp at h,fun j h=>by simp at h⟩
 |p::ps,δ,e=>by
  simp only [AK]at e
  obtain ⟨⟨u,q,C⟩,x⟩:=e
  obtain ⟨l,A,z,B⟩:=AK.values x
  refine ⟨u::l,by simp [A],fun j v h=>?_,fun j h=>?_⟩
  ·cases j with
   |zero=>simp only [List.getElem?_cons_zero,oI]at h;subst h;exact q
   |succ j=>rw [show δ+(j+1)=δ+1+j by omega];exact z j v (by simpa using h)
  ·cases j with
   |zero=>simpa using q
   |succ j=>
    rw [show δ+(j+1)=δ+1+j by omega,B j (by simp at h;omega)]
    simp
theorem Ag.freeze {x:Aa} {p:PV} {v:Value} (hd:TA ρ (loose x) p) (h:Ag ρ μ x v):GQ μ.AU p v:=by
 cases x<;>simp only [loose,TA,KR]at hd
 case nilSlice=>
  obtain ⟨j,rfl⟩:=hd
  have e:v=.slice none 0 0:=by simpa only [Ag]using h
  simp only [GQ]
  exact ⟨0,Nat.le_refl _,.inl ⟨trivial,none,e⟩⟩
 case bool|int|nilPtr=>subst hd;simp only [GQ];simpa only [Ag]using h
 case str=>subst hd;simp only [GQ];exact h.str
 case svar=>subst hd;simp only [GQ];exact h.svar
 case lst f i j n=>
  obtain ⟨_,rfl,_⟩:=hd
  exact h.lst.1
theorem Aw.freeze:∀{j:List Aa} {vs:List Value} {ps:List PV} {δ:Nat},C9 ρ (CG j) ps->Aw ρ μ j vs->(∀i v,vs[i]?=some v->a[δ+i]?=some v)->AK μ.AU a δ ps
 |[],vs,ps,δ,hd,h,ha=>by
  have hd:ps=[]:=hd
  subst hd
  simp only [AK]
 |x::j,vs,ps,δ,hd,h,ha=>by
  have hd:∃p rest,ps=p::rest/\TA ρ (loose x) p/\C9 ρ (CG j) rest:=hd
  obtain ⟨p,rest,rfl,C,q⟩:=hd
  simp only [Aw]at h
  obtain ⟨v,H,rfl,⟨_,A⟩,B⟩:=h
  simp only [AK]
  refine ⟨⟨v,by simpa using ha 0 v rfl,A.freeze C⟩,Aw.freeze q B fun i u z=>?_⟩
  rw [show δ+1+i=δ+(i+1) by omega]
  exact ha (i+1) u (by simpa using z)
theorem C9.length:∀{j:List Aa} {ps:List PV},C9 ρ j ps->j.length=ps.length
 |[],ps,h=>by have h:ps=[]:=h;subst h;rfl
 |x::j,ps,h=>by
  have h:∃p rest,ps=p::rest/\TA ρ x p/\C9 ρ j rest:=h
  obtain ⟨p,rest,rfl,_,q⟩:=h
  simp [C9.length q]
theorem C9.append:∀{v q:List Aa} {ps j:List PV},C9 ρ v ps->C9 ρ q j->C9 ρ (v++q) (ps++j)
 |[],q,ps,j,h,h'=>by have h:ps=[]:=h;subst h;exact h'
 |x::v,q,ps,j,h,h'=>by
  have h:∃p rest,ps=p::rest/\TA ρ x p/\C9 ρ v rest:=h
  obtain ⟨p,rest,rfl,A,z⟩:=h
  exact ⟨p,rest++j,rfl,A,C9.append z h'⟩
theorem DQ.flat:∀{j:List (List Aa)} {ps:List (List PV)},DQ ρ j ps->C9 ρ j.flatten ps.flatten/\j.length=ps.length/\∀n,(∀x∈j,x.length=n)->∀p∈ps,p.length=n
 |[],ps,h=>by have h:ps=[]:=h;subst h;exact ⟨rfl,rfl,fun _ _ _ C=>by cases C⟩
 |x::j,ps,h=>by
  have h:∃p rest,ps=p::rest/\C9 ρ x p/\DQ ρ j rest:=h
  obtain ⟨p,rest,rfl,A,I⟩:=h
  obtain ⟨B,J,L⟩:=DQ.flat I
  refine ⟨?_,by simp [J],fun n z q v=>?_⟩
  ·rw [List.flatten_cons,List.flatten_cons];exact A.append B
  ·rcases List.mem_cons.1 v with rfl|v
   ·rw [<-A.length];exact z x List.mem_cons_self
   ·exact L n (fun y H=>z y (List.mem_cons_of_mem _ H)) q v
theorem F7:∀{l:List Aa},(CG l).length=l.length
 |[]=>rfl
 |v::r=>by show (CG r).length+1=_;rw [F7];rfl
theorem Tw (size:Nat) (cs:List Aa):HI size 0 cs=match cs with|[]=>some []|_::_=>none:=by cases cs<;>rfl
theorem Tx (size n:Nat) (cs:List Aa):HI size (n+1) cs=AA (taken size cs) fun c=>AA (HI size n (dropped size cs)) fun r=>some (c::r):=rfl
theorem DA {size:Nat}:∀{n:Nat} {cs:List Aa} {j:List (List Aa)},HI size n cs=some j->j.flatten=cs/\j.length=n/\∀x∈j,x.length=size
 |0,cs,j,h=>by
  rw [Tw]at h
  split at h
  ·simp only [oI]at h;subst h;exact ⟨rfl,rfl,fun _ h=>by cases h⟩
  ·cases h
 |n+1,cs,j,h=>by
  rw [Tx]at h
  obtain ⟨c,hc,h⟩:=Ac h
  obtain ⟨r,C,h⟩:=Ac h
  simp only [oI]at h
  subst h
  obtain ⟨z,A,B⟩:=DA C
  obtain ⟨v,H⟩:=FZ hc
  refine ⟨?_,by simp [A],fun x q=>?_⟩
  ·rw [List.flatten_cons,z,v,IW];exact List.take_append_drop _ _
  ·rcases List.mem_cons.1 q with rfl|q
   ·rw [v,lT'];omega
   ·exact B x q
theorem JE (Γ:Ap) (i j k:Nat):JF Γ i j 0 k=some []:=rfl
theorem Rf (Γ:Ap) (i j n k:Nat):JF Γ i j (n+1) k=AA (OT i (.lit (.ofNat k)) Γ.elems) fun cs=>bif Nat.beq (Bc cs) j then AA (JF Γ i j n (k+1)) fun r=>some (cs++r)else none:=rfl
theorem JD {Γ:Ap} (hΓ:Γ.AG ρ) {i z:Nat} {l:List (List PV)} (hl:ρ.lst i=l) {δ:Nat} (H:BG μ.AU z a δ l):∀{n k:Nat} {cs:List Aa},JF Γ i z n k=some cs->k+n<=l.length->
  cs.length=n*z/\∀j x,cs[j]?=some x->∃v,a[δ+k*z+j]?=some v/\x.single=true/\Ag ρ μ x v
 |0,k,cs,h,hk=>by
  rw [JE]at h
  simp only [oI]at h
  subst h
  exact ⟨by simp,fun j x h=>by simp at h⟩
 |n+1,k,cs,h,hk=>by
  rw [Rf]at h
  obtain ⟨c,hc,h⟩:=Ac h
  obtain ⟨q,h⟩:=Aq h
  obtain ⟨r,C,h⟩:=Ac h
  simp only [oI]at h
  subst h
  have q:=Ao.1 q
  rw [J5]at q
  obtain ⟨I,L⟩:=JD hΓ hl H C (by omega)
  obtain ⟨ps,_,B,M⟩:=hΓ.elems _ (Ie hc)
  have B:(ρ.lst i)[k]?=some ps:=B
  rw [hl]at B
  obtain ⟨Q,O⟩:=H.get k ps B
  obtain ⟨P,J⟩:=AK.TF M O
  refine ⟨by rw [lA,I,q,Nat.add_mul];omega,fun j x A=>?_⟩
  by_cases hj:j<c.length
  ·rw [List.getElem?_append_left hj]at A
   exact J j x A
  ·rw [List.getElem?_append_right (by omega)]at A
   obtain ⟨v,N,hs⟩:=L _ x A
   refine ⟨v,?_,hs⟩
   rw [<-N,q]
   congr 1
   rw [Nat.add_mul];rw [q]at hj;omega
theorem Oy:∀(l:List Aa),taken l.length l=some l
 |[]=>rfl
 |x::l=>by show (AA (taken l.length l) fun r=>some (x::r))=_;rw [Oy l];rfl
theorem WW (l:List Aa):cut l 0 l.length=some l:=Oy l
end
section
variable {P:Program} {ρ:Env} {μ:As} {w:World} {h:Ak}
theorem OP (H:AI ρ μ h w) {f:Bool} {i A size n:Nat} {t:ST} {u:Value} {cs:List Aa} (L:Ag ρ μ (.lst f i A t) u) (hs:AfM h.fx size i A t=some (n,cs)):
  cs.length=n*size/\((n=0/\cs=[]/\∃p c,u=.slice p 0 c)∨∃r δ c a e fr,u=.slice (some ⟨r,δ,none⟩) n c/\w.heap[r]?=some (.cells a e fr)/\∀j x,cs[j]?=some x->∃v,a[δ+j]?=some v/\x.single=true/\Ag ρ μ x v):=by
 unfold AfM at hs
 split at hs
 ·rename_i m
  obtain ⟨hc,hs⟩:=Aq hs
  obtain ⟨Q,q,hs⟩:=Ac hs
  simp only [oI,Prod.mk.injEq]at hs
  obtain ⟨rfl,rfl⟩:=hs
  have hc:=Ao.1 hc
  subst hc
  obtain ⟨p,c,C,_,I,O⟩:=L.D7
  have I:(m:Int)=((ρ.lst i).length:Int):=I
  have B:(ρ.lst i).length=m:=by omega
  by_cases h0:m=0
  ·subst h0
   rw [JE]at q
   simp only [oI]at q
   subst q
   exact ⟨by simp,.inl ⟨rfl,rfl,p,c,by rw [C,B]⟩⟩
  ·obtain ⟨r,δ,a,e,rfl,z,M⟩:=O (by omega)
   obtain ⟨J,P⟩:=JD H.AO.facts rfl M q (by omega)
   obtain ⟨fr,z⟩:=z
   refine ⟨J,.inr ⟨r,δ,c,a,e,fr,by rw [C,B],(H.AO.AU _ _ z).1,fun j x N=>?_⟩⟩
   have:=P j x N
   simpa using this
 ·cases hs
theorem JS {Γ:Ak} {size n:Nat} {part:AE} {new:List Aa} {r:ST×Block} (hΓ:Γ.fx.AG ρ) (q:Il Γ size part n new=some r):
  ∃(j:Nat) (A B:List (List PV)),r.2=.list j size/\r.1.den ρ=((ρ.lst j).length:Int)/\(ρ.lst j).length<=1048576/\ρ.lst j=A++B/\F3 ρ part A/\B.length=n/\(∀p∈B,p.length=size)/\C9 ρ (CG new) B.flatten:=by
 unfold Il at q
 obtain ⟨_,q⟩:=Aq q
 obtain ⟨V,x,q⟩:=Ac q
 obtain ⟨j,N,q⟩:=Ac q
 obtain ⟨t,L,q⟩:=Ac q
 obtain ⟨hb,q⟩:=Aq q
 simp only [oI]at q
 subst q
 obtain ⟨R,U,J⟩:=DA x
 obtain ⟨A,I,M,Q,B,C,z,P,v⟩:=hΓ.defs _ (EI N)
 have v:C=[]:=v
 subst v
 rw [List.append_nil]at z
 subst z
 obtain ⟨H,X,O⟩:=DQ.flat P
 have hl:=hΓ.Bc _ (Cy L)
 have hl:t.den ρ=((ρ.lst j).length:Int):=hl
 have hb:=ES hΓ hb
 have hb:t.den ρ<=1048576:=hb
 exact ⟨j,A,I,rfl,hl,by omega,M,Q,by omega,O size J,by rw [R]at H;exact H⟩
theorem SC {a b:Option (Aa×Ak)} {r:Aa×Ak} (h:orR a b=some r):a=some r∨b=some r:=by
 cases a with
 |none=>exact .inr h
 |some x=>exact .inl h
theorem Bu.two {p:List AE} {q:AE}:∀{l:List (List PV)},Bu ρ (p++[q]) l->∃x y,l=x++y/\Bu ρ p x/\F3 ρ q y:=by
 induction p with
 |nil=>
  intro l h
  obtain ⟨x,y,rfl,v,j⟩:=h
  have j:y=[]:=j
  subst j
  exact ⟨[],x,by simp,rfl,v⟩
 |cons z p ih=>
  intro l h
  obtain ⟨x,y,rfl,v,j⟩:=h
  obtain ⟨A,H,rfl,C,B⟩:=ih j
  exact ⟨x++A,H,(List.append_assoc _ _ _).symm,⟨x,A,rfl,v,C⟩,B⟩
theorem JT {h:Ak} {size n:Nat} {x:Aa} {new:List Aa} {r:Aa×Ak} (hΓ:h.fx.AG ρ) (q:LD h size x n new=some r):
  ∃(p:List AE) (j:Nat) (t:ST) (A B:List (List PV)),P3 h size x=some p/\r=(.vec h.next size t,h.add (.list j size))/\t.den ρ=((ρ.lst j).length:Int)/\(ρ.lst j).length<=1048576/\ρ.lst j=A++B/\Bu ρ p A/\B.length=n/\(∀p∈B,p.length=size)/\C9 ρ (CG new) B.flatten:=by
 unfold LD at q
 obtain ⟨_,q⟩:=Aq q
 obtain ⟨p,C,q⟩:=Ac q
 obtain ⟨R,v,q⟩:=Ac q
 obtain ⟨j,L,q⟩:=Ac q
 obtain ⟨t,I,q⟩:=Ac q
 obtain ⟨hb,q⟩:=Aq q
 simp only [oI]at q
 subst q
 obtain ⟨P,Q,H⟩:=DA v
 obtain ⟨A,B,J,O,N⟩:=Bu.two (hΓ.defs _ (OA L))
 obtain ⟨z,U,M⟩:=DQ.flat N
 have hl:t.den ρ=((ρ.lst j).length:Int):=hΓ.Bc _ (Cy I)
 have hb:t.den ρ<=1048576:=ES hΓ hb
 exact ⟨p,j,t,A,B,C,rfl,hl,by omega,J,O,by omega,M size H,by rw [P]at z;exact z⟩
end
end
section
section
variable {P:Program} {Γ:Ap} {ρ:Env} {μ:As} {tm:Tr Aa} {a:Act} {w:World} {h:Ak}
theorem Gc {r:Nat} {ms:Array MapEntry} {k:Nat} (j:w.heap[r]?=some (.map ms k)) (o:Obj):(setObj r o).run P w=.ok () {w with heap:=w.heap.setIfInBounds r o}:=by
 simp [setObj,Sem.run,j]
theorem LJ {AU:Nat->Option Obj} {b:ByteArray} {x:Array Value} {ps:List PV} (hs:x.size=ps.length) (J:AK AU x 0 ps):∀{l:List (List Nat×List PV)} {ms:List MapEntry} (n:Nat),Jc AU l ms->
  (Instr.findNow .string (.string b) ms n=some none/\∀born,Jc AU (Bv l (strOf b) ps) (ms++[{key:=.string b,val:=.agg x,born:=born}]))∨
  (∃i L m,Instr.findNow .string (.string b) ms n=some (some (n+i,L))/\ms[i]?=some m/\Instr.sameBits 10000 m.key (.string b)=true/\Jc AU (Bv l (strOf b) ps) (ms.modify i fun e=>{e with key:=.string b,val:=.agg x}))
 |[],ms,n,A=>by
  have A:ms=[]:=A
  subst A
  exact .inl ⟨rfl,fun born=>⟨_,_,rfl,⟨b,rfl,rfl⟩,⟨x,rfl,hs,J⟩,rfl⟩⟩
 |e::es,ms,n,A=>by
  obtain ⟨m,rest,rfl,⟨B,j,v⟩,⟨y,M,C,I⟩,q⟩:=A
  have z:Instr.sameNow .string (.string b) m.key=some (decide (strOf b=e.1)):=by
   rw [j,<-v]
   have:decide (strOf b=strOf B)=(b.toList==B.toList):=by rw [<-CB,Bool.eq_iff_iff,Dt];simp
   rw [this,<-beq_toListBytes]
   simp [Instr.sameNow]
  by_cases hc:e.1=strOf b
  ·right
   refine ⟨0,m.val,m,by simp [Instr.findNow,z,hc],rfl,?_,?_⟩
   ·rw [j]
    have:B=b:=Kf (by rw [v,hc])
    subst this
    simp only [Instr.sameBits]
    rw [beq_toListBytes];simp
   ·simp only [List.modify_zero_cons,Bv,hc,if_true]
    exact ⟨_,_,rfl,⟨b,rfl,rfl⟩,⟨x,rfl,hs,J⟩,q⟩
  ·have H:¬strOf b=e.1:=fun h=>hc h.symm
   rcases LJ (b:=b) hs J (n+1) q with ⟨h3,h4⟩|⟨i,L,m',h3,h4,h5,h6⟩
   ·left
    refine ⟨by simp [Instr.findNow,z,H,h3],fun born=>?_⟩
    simp only [Bv,if_neg hc,List.cons_append]
    exact ⟨_,_,rfl,⟨B,j,v⟩,⟨y,M,C,I⟩,h4 born⟩
   ·right
    refine ⟨i+1,L,m',by simp [Instr.findNow,z,H,h3];omega,by simpa using h4,h5,?_⟩
    simp only [List.modify_succ_cons,Bv,if_neg hc]
    exact ⟨_,_,rfl,⟨B,j,v⟩,⟨y,M,C,I⟩,h6⟩
theorem Nj {o:Oper} {t kt e:TypeId} {m k x:Operand} {kk:LK} (L:o.op=.mapUpdate t m k x∨o.op=.insert t m k x) (H:AI ρ μ h w) (hT:AT ρ μ tm a) (hu:P.underlying t=some (.map kt e)) (hk:XW P kt=some kk) {h':Ak}
  (hs:UB h kk (ev tm (AD m)) (ev tm (AD k)) (ev tm (AD x))=some h'):Ex P ρ μ h a o w (.val .any h'):=by
 have hm:=Au hT m
 have ao:=Au hT k
 have hx:=Au hT x
 obtain ⟨d,hd,hf⟩:=OX hk
 unfold UB at hs
 split at hs
 ·rename_i b e1
  unfold Ab6 at hs
  split at hs
  ·rename_i i U
   obtain ⟨aw,R⟩:=Aq hs
   clear hs
   obtain ⟨rfl,s,an⟩:=KU (ρ:=ρ) aw
   have hf:d=.string:=hf
   subst hf
   obtain ⟨kb,ek,rfl⟩:=BH an ao
   unfold Ab5 at R
   split at R
   ·rename_i cs ay
    obtain ⟨_,Q⟩:=Aq R
    obtain ⟨j,hj,Q⟩:=Ac Q
    simp only [oI]at Q
    subst Q
    obtain ⟨s',ps,q1,q2,q3⟩:=H.AO.facts.Lx _ (OQ hj)
    have q1:DT ρ (ev tm (AD k))=some s':=q1
    rw [an]at q1
    simp only [oI]at q1
    subst q1
    have q2:C9 ρ (CG cs) ps:=q2
    have q3:ρ.map j=Bv (ρ.map i) (strOf kb) ps:=q3
    rw [ay]at hx
    obtain ⟨xa,ex,ap⟩:=hx.agg
    have aD:xa.size=ps.length:=by
     have h1:=ap.length
     have h2:=q2.length
     rw [F7]at h2
     simp at h1
     omega
    have aC:AK μ.AU xa 0 ps:=Aw.freeze q2 ap fun i v hv=>by simpa using hv
    rw [e1]at hm
    obtain ⟨g,hg,V⟩:=hm.NT
    obtain ⟨g',ms,J,I,z,he⟩:=H.smap (Ei U)
    rw [hg]at I
    simp only [oI,Prod.mk.injEq]at I
    obtain ⟨rfl,_⟩:=I
    have N:(getObj g).run P w=.ok (.map ms J) w:=by simp [getObj,Sem.run,z]
    have M:(Instr.checkKey false 10000 kt (a.eval k)).run P w=.ok () w:=Gw hd (kk:=.str) rfl false 9999 _
    have Z:g<w.heap.size:=(Array.getElem?_eq_some_iff.1 z).1
    have C:∀(A:Array MapEntry) (cl:Nat),Jc μ.AU (ρ.map j) A.toList->Av ρ μ h w μ (h.set b (some (.smap j))) {w with heap:=w.heap.setIfInBounds g (.map A cl)}:=fun A cl Y=>by
     refine Av.change H (Ei U) hg (.smap j) (fun i U=>?_) (by simp) rfl rfl ?_
     ·show (w.heap.setIfInBounds g _)[i]?=_
      rw [Array.getElem?_setIfInBounds_ne (Ne.symm U)]
     ·refine ⟨rfl,A,cl,?_,Y⟩
      show (w.heap.setIfInBounds g _)[g]?=_
      rw [Array.getElem?_setIfInBounds_self_of_lt Z]
    have run:∀(O:World),(Instr.mapUpdate t (a.eval m) (a.eval k) (a.eval x)).run P w=.ok () O->(execOp a.eval o).run P w=.ok .skip O:=fun O q=>by
     rcases L with L|L<;>simp [execOp,L,q]
    rcases LJ (b:=kb) aD aC 0 he with ⟨e4,e5⟩|⟨i',v0,m',e4,e5,e6,e7⟩
    ·rw [<-ek]at e4
     have B:=run_findKey (P:=P) (w:=w) hd e4
     have q:(Instr.mapUpdate t (a.eval m) (a.eval k) (a.eval x)).run P w=.ok () {w with heap:=w.heap.setIfInBounds g (.map (ms.push {key:=a.eval k,val:=a.eval x,born:=J}) (J+1))}:=by
      simp only [Instr.mapUpdate,Sem.run_bind,run_underlying hu,Result.andThen_ok,V,N,M,B]
      exact Gc z _
     refine ⟨.skip,undef,_,μ,run _ q,.inr ⟨rfl,rfl⟩,?_,trivial⟩
     exact C _ _ (by rw [q3,ek,ex];simpa using e5 J)
    ·rw [<-ek]at e4
     have B:=run_findKey (P:=P) (w:=w) hd e4
     rw [Nat.zero_add]at B
     have X:ms[i']?=some m':=by simpa using e5
     have ab:(Instr.keyThatStays (((ms[i']?).map (·.key)).getD (a.eval k)) (a.eval k)).run P w=.ok (a.eval k) w:=by
      rw [X]
      simp only [Option.map_some,Option.getD_some,Instr.keyThatStays]
      rw [if_pos (by rw [ek];exact e6)]
      rfl
     have q:(Instr.mapUpdate t (a.eval m) (a.eval k) (a.eval x)).run P w=.ok () {w with heap:=w.heap.setIfInBounds g (.map (ms.modify i' fun e=>{e with key:=a.eval k,val:=a.eval x}) J)}:=by
      simp only [Instr.mapUpdate,Sem.run_bind,run_underlying hu,Result.andThen_ok,V,N,M,B,ab]
      exact Gc z _
     refine ⟨.skip,undef,_,μ,run _ q,.inr ⟨rfl,rfl⟩,?_,trivial⟩
     exact C _ _ (by rw [q3,ek,ex];simpa using e7)
   ·cases R
  rename_i aM
  obtain ⟨mm,al,hs⟩:=Ac hs
  obtain ⟨aj,hs⟩:=Aq hs
  obtain ⟨r,hr,hs⟩:=Ac hs
  simp only [oI]at hs
  subst hs
  rw [e1]at hm
  obtain ⟨g,hg,V⟩:=hm.NT
  obtain ⟨g',ms,I,z,he⟩:=H.map (Dx al)
  rw [hg]at I
  simp only [oI,Prod.mk.injEq]at I
  obtain ⟨rfl,_⟩:=I
  have N:(getObj g).run P w=.ok (.map ms mm.2) w:=by simp [getObj,Sem.run,z]
  have M:(Instr.checkKey false 10000 kt (a.eval k)).run P w=.ok () w:=Gw hd hf false 9999 _
  have Z:g<w.heap.size:=(Array.getElem?_eq_some_iff.1 z).1
  have C:∀(A:Array MapEntry) (cl:Nat),BM ρ μ r.1 A.toList->Av ρ μ h w μ (h.set b (some (.map r.1 cl))) {w with heap:=w.heap.setIfInBounds g (.map A cl)}:=fun A cl Y=>by
   refine Av.change H (Dx al) hg (.map r.1 cl) (fun i U=>?_) (by simp) rfl rfl ?_
   ·show (w.heap.setIfInBounds g _)[i]?=_
    rw [Array.getElem?_setIfInBounds_ne (Ne.symm U)]
   ·refine ⟨rfl,A,?_,Y⟩
    show (w.heap.setIfInBounds g _)[g]?=_
    rw [Array.getElem?_setIfInBounds_self_of_lt Z]
  have run:∀(O:World),(Instr.mapUpdate t (a.eval m) (a.eval k) (a.eval x)).run P w=.ok () O->(execOp a.eval o).run P w=.ok .skip O:=fun O q=>by
   rcases L with L|L<;>simp [execOp,L,q]
  rcases LL hf ao aj hx 0 he hr with ⟨e3,e4,e5⟩|⟨e3,i,v0,m',e4,e5,e6,e7⟩
  ·have B:=run_findKey (P:=P) (w:=w) hd e4
   have q:(Instr.mapUpdate t (a.eval m) (a.eval k) (a.eval x)).run P w=.ok () {w with heap:=w.heap.setIfInBounds g (.map (ms.push {key:=a.eval k,val:=a.eval x,born:=mm.2}) (mm.2+1))}:=by
    simp only [Instr.mapUpdate,Sem.run_bind,run_underlying hu,Result.andThen_ok,V,N,M,B]
    exact Gc z _
   refine ⟨.skip,undef,_,μ,run _ q,.inr ⟨rfl,rfl⟩,?_,trivial⟩
   rw [e3]
   exact C _ _ (by simpa using e5)
  ·have B:=run_findKey (P:=P) (w:=w) hd e4
   rw [Nat.zero_add]at B
   have X:ms[i]?=some m':=by simpa using e5
   have ab:(Instr.keyThatStays (((ms[i]?).map (·.key)).getD (a.eval k)) (a.eval k)).run P w=.ok (a.eval k) w:=by
    rw [X]
    simp only [Option.map_some,Option.getD_some,Instr.keyThatStays]
    rw [if_pos e6]
    rfl
   have q:(Instr.mapUpdate t (a.eval m) (a.eval k) (a.eval x)).run P w=.ok () {w with heap:=w.heap.setIfInBounds g (.map (ms.modify i fun e=>{e with key:=a.eval k,val:=a.eval x}) mm.2)}:=by
    simp only [Instr.mapUpdate,Sem.run_bind,run_underlying hu,Result.andThen_ok,V,N,M,B,ab]
    exact Gc z _
   refine ⟨.skip,undef,_,μ,run _ q,.inr ⟨rfl,rfl⟩,?_,trivial⟩
   rw [e3]
   exact C _ _ (by simpa using e7)
 ·cases hs
theorem FA (l:List UInt8):Aw ρ μ (byteCells (l.map (·.toNat))) (l.map fun b=>.int .u8 (b.toNat:Int)):=by
 induction l with
 |nil=>show Aw ρ μ [] [];simp only [Aw]
 |cons b l ih=>
  show Aw ρ μ (.int .u8 (.lit (.ofNat b.toNat))::byteCells (l.map (·.toNat))) _
  simp only [Aw,List.map_cons]
  exact ⟨_,_,rfl,⟨rfl,by simp only [Ag,ST.den];rfl⟩,ih⟩
theorem De (H:AI ρ μ h w) {size n:Nat} {bytes:Bool} {x:Aa} {u:Value} {cs:List Aa} (J:Ag ρ μ x u) (hs:Jn h size bytes x=some (n,cs)):
  (Builtin.lenOf u).run P w=.ok n w/\cs.length=n*size/\∃L:Array Value,(Builtin.firstCells size n u).run P w=.ok L w/\Aw ρ μ cs L.toList:=by
 have key:∀(b z len r δ m c:Nat),LW h size b z len=some (n,cs)->μ b=some (r,δ,m)->u=.slice (some ⟨r,δ+z,none⟩) len c->
   (Builtin.lenOf u).run P w=.ok n w/\cs.length=n*size/\∃L:Array Value,(Builtin.firstCells size n u).run P w=.ok L w/\Aw ρ μ cs L.toList:=fun b z len r δ m c hs M e=>by
  subst e
  unfold LW at hs
  rw [AH]at hs
  by_cases h0:len=0
  ·rw [if_pos h0]at hs
   simp only [oI,Prod.mk.injEq]at hs
   obtain ⟨rfl,rfl⟩:=hs
   subst h0
   exact ⟨by simp [Builtin.lenOf],by simp,#[],by simp [Builtin.firstCells,loadCells,loadCellsFrom],by simp only [Aw]⟩
  ·rw [if_neg h0]at hs
   obtain ⟨vs,X,hs⟩:=Ac hs
   obtain ⟨Z,O,hs⟩:=Ac hs
   simp only [oI,Prod.mk.injEq]at hs
   obtain ⟨rfl,rfl⟩:=hs
   obtain ⟨r2,Y,m2,c2,e2,A,R,_,hc⟩:=H.cells X
   rw [M]at A
   simp only [oI,Prod.mk.injEq]at A
   obtain ⟨rfl,rfl,rfl⟩:=A
   obtain ⟨l,C,I,N⟩:=D9 hc O
   have q:=run_loadCells_list (P:=P) (w:=w) ⟨r,δ+z,none⟩ l (fun j v U=>by rw [Addr.AY,Ci R];exact N j v U)
   rw [C]at q
   exact ⟨by simp [Builtin.lenOf],(JP O).1,l.toArray,by simp [Builtin.firstCells,q],by simpa using I⟩
 unfold Jn at hs
 split at hs
 ·obtain ⟨V,⟨rfl,rfl,p,c,rfl⟩|⟨r,δ,c,ar,e,_,rfl,R,hc⟩⟩:=OP H J hs
  ·cases p
   ·exact ⟨by simp [Builtin.lenOf],by simp,#[],by simp [Builtin.firstCells],by simp only [Aw]⟩
   ·exact ⟨by simp [Builtin.lenOf],by simp,#[],by simp [Builtin.firstCells,loadCells,loadCellsFrom],by simp only [Aw]⟩
  ·obtain ⟨l,C,I,N⟩:=D9 hc (WW cs)
   have q:=run_loadCells_list (P:=P) (w:=w) ⟨r,δ,none⟩ l (fun j v U=>by rw [Addr.AY,Ci R];simpa using N j v U)
   rw [C,V]at q
   exact ⟨by simp [Builtin.lenOf],V,l.toArray,by simp [Builtin.firstCells,q],by simpa using I⟩
 ·simp only [oI,Prod.mk.injEq]at hs
  obtain ⟨rfl,rfl⟩:=hs
  have e:u=.slice none 0 0:=by simpa only [Ag]using J
  subst e
  exact ⟨by simp [Builtin.lenOf],by simp,#[],by simp [Builtin.firstCells],by simp only [Aw]⟩
 ·obtain ⟨r,δ,m,M,e,_⟩:=J.slice
  exact key _ _ _ _ _ _ _ hs M e
 ·obtain ⟨r,δ,m,c,M,e,_⟩:=J.gslice
  exact key _ _ _ _ _ _ _ hs M e
 ·rename_i s
  obtain ⟨B,Q⟩:=Aq hs
  clear hs
  have B:=Ao.1 B
  subst B
  simp only [oI,Prod.mk.injEq]at Q
  obtain ⟨rfl,rfl⟩:=Q
  obtain ⟨b,rfl,rfl⟩:=J.str
  refine ⟨by simp [Builtin.lenOf,Df,B8],?_,(b.data.map fun c=>.int .u8 c.toNat),?_,?_⟩
  ·have:=(FA (ρ:=ρ) (μ:=μ) b.data.toList).length
   unfold strOf
   rw [this,Df];simp
  ·have:b.extract 0 (Ip (strOf b))=b:=by
    rw [Df,B8]
    obtain ⟨⟨l⟩⟩:=b
    have:=ByteArray.extract_mk l 0 l.length
    rw [show (⟨⟨l⟩⟩:ByteArray)=ByteArray.mk l.toArray from rfl]
    rw [show (ByteArray.mk l.toArray).size=l.length from by simp [ByteArray.size],this]
    simp
   simp [Builtin.firstCells,this]
  ·simpa [strOf]using FA (ρ:=ρ) (μ:=μ) b.data.toList
 ·cases hs
def Ey (d:TypeDesc):Prop:=(∃e,d=.slice e)∨d=.string
theorem Cm {t u ty e:TypeId} {d:TypeDesc} (C:P.underlying t=some (.slice e)) (B:P.underlying u=some d) (hd:Ey d) {size n j v:Nat} {x:Value} {L:Array Value} {w':World} {q:Option Addr}
  (hs:(sizeOf e).run P w=.ok size w) (H:(Builtin.lenOf x).run P w=.ok n w) (A:j+n<=v) (I:(Builtin.firstCells size n x).run P w=.ok L w)
  (z:match q with|some p=>(storeCells (p.add (j*size)) L.toList).run P w=.ok () w'|none=>w'=w):
  (Builtin.append_ #[t,u] ty #[.slice q j v,x]).run P w=.ok (.slice q (j+n) v) w':=by
 have J:(do pure (match (<-underlying u)with|.int _=>true|_=>false):Sem Bool).run P w=.ok false w:=by
  rcases hd with ⟨e',rfl⟩|rfl<;>simp [run_underlying B]
 cases q with
 |none=>
  simp only at z
  subst z
  rcases hd with ⟨e',rfl⟩|rfl<;>simp [Builtin.append_,run_underlying C,run_underlying B,hs,H,A,I]
 |some p=>
  simp only at z
  rcases hd with ⟨e',rfl⟩|rfl<;>simp [Builtin.append_,run_underlying C,run_underlying B,hs,H,A,I,z]
theorem DG {t u ty e:TypeId} {d:TypeDesc} (Q:P.underlying t=some (.slice e)) (N:P.underlying u=some d) (hd:Ey d) {i:TypeInfo} {z:Value} (R:P.info? e=some i) (X:i.zero=some z) {n j q:Nat} {x:Value} {O L:Array Value} {v:Option Addr}
  (U:(Builtin.lenOf x).run P w=.ok n w) (M:q<j+n) (J:(Builtin.firstCells i.size j (.slice v j q)).run P w.drew=.ok O w.drew) (V:(Builtin.firstCells i.size n x).run P w.drew=.ok L w.drew)
  (hb:i.bytes<=1048576) (aa:j+n<=1048576):
  ∃B rest,j+n<=B/\rest.size=(B-(j+n))*z.cells.size/\rest=Builtin.zeroCells z.cells (B-(j+n))/\(Builtin.append_ #[t,u] ty #[.slice v j q,x]).run P w=.ok (.slice (some ⟨w.heap.size,0,none⟩) (j+n) B) (w.drew.alloc (.cells (O++L++rest) e)):=by
 have I:¬(j+n<=q):=by omega
 have C:¬(9223372036854775807<((j:Int)+(n:Int))):=by omega
 have A:=nextslicecap_le M
 have Y:Builtin.nextslicecap (j+n) q*i.bytes<=281474976710656:=by
  have:=Nat.mul_le_mul A hb
  have h2:2*(j+n)*1048576<=2*1048576*1048576:=by omega
  omega
 have H:¬(281474976710656<Builtin.nextslicecap (j+n) q*i.bytes):=by omega
 refine ⟨grownCap w (j+n) q e,Builtin.zeroCells z.cells (grownCap w (j+n) q e-(j+n)),?_,by simp [Builtin.zeroCells],rfl,?_⟩
 ·exact Nat.le_add_right _ _
 ·have Z:=J
  rcases hd with ⟨e',rfl⟩|rfl<;>
   simp [Builtin.append_,run_underlying Q,run_underlying N,sizeOf,typeInfo,zeroValue,R,X,U,I,C,H,Question.forced,J,V,newRow,grownCap]
theorem Av.drop (H:AI ρ μ h w) (b:Nat):Av ρ μ h w μ (h.set b none) w:=
 have hs:∀c B,(h.set b none).get c=some B->h.get c=some B:=fun c B hc=>by
  rw [Ak.Bb]at hc
  split at hc
  ·cases hc
  ·exact hc
 ⟨μ.le_refl,H.drop _ rfl rfl hs,Nat.le_refl _,fun r _ j=>⟨rfl,fun ⟨c,B,δ,hc,hm⟩=>j ⟨c,B,δ,hs c B hc,hm⟩⟩,rfl,rfl,Nat.le_refl _,fun _ _=>rfl,fun _ _ h=>.inl h,rfl⟩
theorem Av.WA {w':World} (H:AI ρ μ h w) {b:Nat} {N:Block} {r:Nat} {P:Nat×Nat} (hb:h.get b=some N) (R:μ b=some (r,P)) (B:Block) (δ:Nat×Nat)
  (O:∀i,i≠r->w'.heap[i]?=w.heap[i]?) (Z:w'.heap.size=w.heap.size) (U:w'.os=w.os) (L:w'.output=w.output) (hB:∀M:As,μ.le M->C4 ρ M B w'.heap[r]? δ):
  Av ρ μ h w (μ.put h.next (r,δ)) ((h.set b none).add B) w':=by
 have I:μ.le (μ.put h.next (r,δ)):=As.QM (H.fresh _ (Nat.le_refl _))
 have z:∀c q s v,((h.set b none).add B).get c=some q->μ.put h.next (r,δ) c=some (s,v)->(c=h.next/\s=r/\q=B/\v=δ)∨(h.get c=some q/\μ c=some (s,v)/\c≠b):=fun c q s v hc j=>by
  rw [Ak.JC,Ak.Bb]at hc
  by_cases e:c=h.next
  ·subst e
   rw [As.BD]at j
   simp only [oI,Prod.mk.injEq]at j
   rw [if_pos (Ak.J1 ..).symm]at hc
   simp only [oI]at hc
   exact .inl ⟨rfl,j.1.symm,hc.symm,j.2.symm⟩
  ·rw [if_neg (by rw [Ak.J1];exact e)]at hc
   rw [As.BZ _ _ e]at j
   split at hc
   ·cases hc
   ·rename_i x
    exact .inr ⟨hc,j,x⟩
 have x:∀c q s v,h.get c=some q->μ c=some (s,v)->c≠b->s≠r:=fun c q s v hc j C e=>C (H.inj _ _ _ _ _ _ _ hc hb j (e▸R))
 have A:∀s,s<w.heap.size->¬AJ μ h s->w'.heap[s]?=w.heap[s]?/\¬AJ (μ.put h.next (r,δ)) ((h.set b none).add B) s:=fun s hs Q=>by
  have J:s≠r:=fun e=>Q ⟨b,N,P,hb,e▸R⟩
  refine ⟨O s J,?_⟩
  rintro ⟨c,q,v,hc,j⟩
  rcases z _ _ _ _ hc j with ⟨_,e,_,_⟩|⟨g,n,_⟩
  ·exact J e
  ·exact Q ⟨c,q,v,g,n⟩
 refine ⟨I,⟨fun c hc=>?_,fun c q hc=>?_,fun c c' B1 B2 s δ1 δ2 X V m1 m2=>?_,H.Ga A⟩,by omega,A,U,L,Nat.le_succ _,fun b hb=>As.BZ _ _ (by omega),fun _ _ h=>.inl h,rfl⟩
 ·rw [Ak.J2,Ak.J1]at hc
  rw [As.BZ _ _ (by omega)]
  exact H.fresh c (by omega)
 ·by_cases e:c=h.next
  ·subst e
   refine ⟨r,δ,As.BD _ _ _,?_⟩
   rcases z _ _ _ _ hc (As.BD _ _ _)with ⟨_,_,rfl,_⟩|⟨hg,j,_⟩
   ·exact hB _ I
   ·rw [H.fresh _ (Nat.le_refl _)]at j;cases j
  ·have aa:=hc
   rw [Ak.JC,Ak.Bb,if_neg (by rw [Ak.J1];exact e)]at hc
   split at hc
   ·cases hc
   ·rename_i C
    obtain ⟨s,v,j,Y⟩:=H.blk c q hc
    refine ⟨s,v,by rw [As.BZ _ _ e];exact j,?_⟩
    rw [O s (x _ _ _ _ hc j C)]
    exact Y.mono I
 ·rcases z _ _ _ _ X m1 with ⟨e1,e2,_,_⟩|⟨g1,n1,c1⟩<;>rcases z _ _ _ _ V m2 with ⟨e3,e4,_,_⟩|⟨g2,n2,c2⟩
  ·rw [e1,e3]
  ·exact absurd e2 (x _ _ _ _ g2 n2 c2)
  ·exact absurd e4 (x _ _ _ _ g1 n1 c1)
  ·exact H.inj _ _ _ _ _ _ _ g1 g2 n1 n2
theorem Oq {old new:List Aa} {O L rest:Array Value} {e:TypeId} {m:Nat} (C:Aw ρ μ old O.toList) (J:Aw ρ μ new L.toList) (M:m<=(O++L++rest).size) (B:As) (A:μ.le B):
  C4 ρ B (.cells (old++new)) (some (.cells (O++L++rest) e)) (0,m):=by
 refine ⟨_,e,rfl,by omega,fun i x I=>?_⟩
 have z:=Aw.append C J
 obtain ⟨v,j,hs,H⟩:=z.get I
 refine ⟨v,?_,hs,H.mono A⟩
 rw [Nat.zero_add]
 have q:=(List.getElem?_eq_some_iff.1 j).1
 rw [Array.getElem?_append_left (by simpa using q)]
 rw [<-Array.toList_append]at j
 rw [Array.getElem?_toList]at j
 exact j
theorem Ea {o:Oper} {c:Call} {t u e:TypeId} {d:TypeDesc} {x y:Operand} (ho:o.op=.call c) (b4:c.callee=.builtin .append) (bI:c.args=#[x,y]) (b2:c.argTypes=#[t,u])
  (H:AI ρ μ h w) (hT:AT ρ μ tm a) (ht:P.underlying t=some (.slice e)) (hu:P.underlying u=some d) (hd:Ey d) {i:TypeInfo} (hi:P.info? e=some i) (hb:i.bytes<=1048576) (hz:(i.zero.map fun v=>Nat.beq v.cells.size i.size).getD false=true)
  {n:Nat} {new:List Aa} (hs:∀w',w'=w∨w'=w.drew->(Builtin.lenOf (a.eval y)).run P w'=.ok n w'/\new.length=n*i.size/\∃L:Array Value,(Builtin.firstCells i.size n (a.eval y)).run P w'=.ok L w'/\Aw ρ μ new L.toList) {r:Aa×Ak} (C:GA h i.size (ev tm (AD x)) n new=some r):Ex P ρ μ h a o w (.val r.1 r.2):=by
 have U:=Au hT x
 obtain ⟨z,hz,hzs⟩:∃z,i.zero=some z/\z.cells.size=i.size:=by
  cases e:i.zero with
  |none=>rw [e]at hz;simp at hz
  |some z=>rw [e]at hz;exact ⟨z,rfl,Ao.1 (by simpa using hz)⟩
 obtain ⟨aK,a3,L,hL,ah⟩:=hs w (.inl rfl)
 obtain ⟨_,_,L',bU,aA⟩:=hs w.drew (.inr rfl)
 have bg:(sizeOf e).run P w=.ok i.size w:=by simp [sizeOf,typeInfo,hi]
 have run:∀{v:Value} {wf:World},(Builtin.append_ #[t,u] o.type #[a.eval x,a.eval y]).run P w=.ok v wf->(execOp a.eval o).run P w=.ok (.value v) wf:=fun {v wf} aE=>by
  simp [execOp,ho,resolve,b4,bI,b2,invoke,builtin,aE]
 unfold GA at C
 rw [AH]at C
 by_cases h0:n=0
 ·
  rw [if_pos h0]at C
  subst h0
  have aO:new=[]:=by
   have:new.length=0:=by simpa using a3
   exact List.eq_nil_of_length_eq_zero this
  subst aO
  have cj:L.toList=[]:=by simpa only [Aw]using ah
  have same:∀(J:Option Addr) (len cap:Nat),a.eval x=.slice J len cap->len<=cap->r=(ev tm (AD x),h)->Ex P ρ μ h a o w (.val r.1 r.2):=fun J len cap N ad er=>by
   subst er
   refine ⟨.value (a.eval x),a.eval x,w,μ,run ?_,.inl rfl,Av.refl H,U⟩
   rw [N]
   refine Cm ht hu hd bg aK (by omega) hL ?_
   cases J with
   |none=>rfl
   |some p=>simp [cj,storeCells]
  unfold LB at C
  split at C
  ·rename_i N
   have er:r=(ev tm (AD x),h):=by rw [N];simpa using C.symm
   rw [N]at U
   obtain ⟨p,c',Q,ad,_⟩:=U.D7
   exact same _ _ _ Q ad er
  ·rename_i N
   have er:r=(ev tm (AD x),h):=by rw [N];simpa using C.symm
   rw [N]at U
   obtain ⟨r0,m0,k0,_,Q,_,k1,k2⟩:=U.vec
   exact same _ _ _ Q (by omega) er
  ·rename_i N
   rw [N]at U
   have Q:a.eval x=.slice none 0 0:=by simpa only [Ag]using U
   simp only [oI]at C
   exact same _ _ _ Q (Nat.le_refl _) C.symm
  ·rename_i N
   rw [N]at U
   obtain ⟨_,_,_,_,Q,ad⟩:=U.slice
   simp only [oI]at C
   exact same _ _ _ Q ad C.symm
  ·rename_i N
   rw [N]at U
   obtain ⟨_,_,_,_,_,Q,ad,_⟩:=U.gslice
   simp only [oI]at C
   exact same _ _ _ Q ad C.symm
  ·cases C
 ·rw [if_neg h0]at C
  have fresh:∀(J:Option Addr) (len cap:Nat) (h1:Ak) (old:List Aa) (O:Array Value),a.eval x=.slice J len cap->cap<len+n->len+n<=1048576->Av ρ μ h w μ h1 w->old.length=len*i.size->
    (Builtin.firstCells i.size len (.slice J len cap)).run P w.drew=.ok O w.drew->Aw ρ μ old O.toList->r=(.gslice h1.next 0 (len+n) i.size,h1.add (.cells (old++new)))->Ex P ρ μ h a o w (.val r.1 r.2):=fun J len cap h1 old O N ae M an al V af er=>by
   subst er
   obtain ⟨nc,rest,bB,aQ,_,aE⟩:=DG (P:=P) (ty:=o.type) (O:=O) (L:=L') ht hu hd hi hz aK ae V bU hb M
   have a0:O.size=len*i.size:=by have:=af.length;simp at this;omega
   have aX:L'.size=n*i.size:=by have:=aA.length;simp at this;omega
   have bp:(O++L'++rest).size=nc*i.size:=by
    simp only [Array.size_append,a0,aX,aQ,hzs]
    rw [<-Nat.add_mul,<-Nat.add_mul]
    congr 1;omega
   have a8:=Av.add an.rel.drew (.cells (old++new)) (.cells (O++L'++rest) e) (0,nc*i.size) (fun μ' ad=>Oq af aA (by omega) μ' ad)
   refine ⟨.value _,_,_,_,run (by rw [N];exact aE),.inl rfl,(an.trans (Av.drew an.rel)).trans a8,?_⟩
   simp only [Ag]
   exact ⟨_,_,_,nc,As.BD _ _ _,by simp,by omega,by omega⟩
  have ao:∀(J:Option Addr) (len cap:Nat) (h1:Ak) (Z:ST×Block) (X:List (List PV)) (O:Array Value),a.eval x=.slice J len cap->cap<len+n->Av ρ μ h w μ h1 w->(∃(j:Nat) (A B:List (List PV)),Z.2=.list j i.size/\Z.1.den ρ=((ρ.lst j).length:Int)/\(ρ.lst j).length<=1048576/\ρ.lst j=A++B/\A=X/\B.length=n/\(∀p∈B,p.length=i.size)/\C9 ρ (CG new) B.flatten)->X.length=len->(∀p∈X,p.length=i.size)->
    (Builtin.firstCells i.size len (.slice J len cap)).run P w.drew=.ok O w.drew->O.size=len*i.size->AK μ.AU O 0 X.flatten->r=(.vec h1.next i.size Z.1,h1.add Z.2)->Ex P ρ μ h a o w (.val r.1 r.2):=fun J len cap h1 Z X O N ae an ak aL av V a0 hX er=>by
   subst er
   obtain ⟨j,A,B,eb,et,M,eA,hA,hB,ac,aj⟩:=ak
   subst hA
   have aR:(ρ.lst j).length=len+n:=by rw [eA,lA];omega
   obtain ⟨nc,rest,bB,aQ,_,aE⟩:=DG (P:=P) (ty:=o.type) (O:=O) (L:=L') ht hu hd hi hz aK ae V bU hb (by omega)
   have aX:L'.size=n*i.size:=by have:=aA.length;simp at this;omega
   have bp:(O++L'++rest).size=nc*i.size:=by
    simp only [Array.size_append,a0,aX,aQ,hzs]
    rw [<-Nat.add_mul,<-Nat.add_mul]
    congr 1;omega
   have cz:A.flatten.length=len*i.size:=by rw [BB av,aL]
   have b8:B.flatten.length=n*i.size:=by rw [BB ac,hB]
   have bC:AK μ.AU L' 0 B.flatten:=Aw.freeze aj aA fun i v hv=>by simpa using hv
   have a7:BG μ.AU i.size (O++L'++rest) 0 (ρ.lst j):=by
    rw [Bx]
    refine ⟨fun p R=>?_,?_⟩
    ·rw [eA,List.mem_append]at R
     exact R.elim (av p) (ac p)
    ·rw [eA,List.flatten_append,AK.append_iff]
     refine ⟨AK.congr (fun k hk=>?_) hX,AK.congr (fun k hk=>?_) bC⟩
     ·rw [Array.append_assoc,Array.getElem?_append_left (by omega)]
     ·rw [Array.append_assoc,Array.getElem?_append_right (by omega),Array.getElem?_append_left (by omega)]
      congr 1;omega
   have a8:=Av.add an.rel.drew Z.2 (.cells (O++L'++rest) e) (0,NY (len+n) nc) (fun μ' ad=>by
    rw [eb]
    refine ⟨_,e,rfl,rfl,?_,?_,?_,?_,BG.mono ad.AU a7⟩
    ·rw [Bs (by omega)];omega
    ·rw [Bs (by omega)];omega
    ·rw [Bs (by omega),BF (by omega)];exact bB
    ·rw [BF (by omega),bp];exact Nat.le_refl _)
   refine ⟨.value _,_,_,_,run (by rw [N];exact aE),.inl rfl,(an.trans (Av.drew an.rel)).trans a8,?_⟩
   simp only [Ag]
   refine ⟨_,_,len+n,As.BD _ _ _,?_,?_,?_,?_⟩
   ·rw [BF (by omega)]
   ·rw [et,aR]
   ·rw [Bs (by omega)];exact Nat.le_refl _
   ·rw [Bs (by omega),BF (by omega)];exact bB
  have aC:∀(J:Option Addr) (len cap:Nat) (h1:Ak) (part:AE) (Z:ST×Block) (X:List (List PV)) (O:Array Value),a.eval x=.slice J len cap->cap<len+n->Av ρ μ h w μ h1 w->Il h i.size part n new=some Z->(∀Y,F3 ρ part Y->Y=X)->X.length=len->(∀p∈X,p.length=i.size)->
    (Builtin.firstCells i.size len (.slice J len cap)).run P w.drew=.ok O w.drew->O.size=len*i.size->AK μ.AU O 0 X.flatten->r=(.vec h1.next i.size Z.1,h1.add Z.2)->Ex P ρ μ h a o w (.val r.1 r.2):=fun J len cap h1 part Z X O N ae an aq az aL av V a0 hX er=>by
   obtain ⟨j,A,B,eb,et,M,eA,hA,hB,ac,aj⟩:=JS H.AO.facts aq
   exact ao J len cap h1 Z X O N ae an ⟨j,A,B,eb,et,M,eA,az A hA,hB,ac,aj⟩ aL av V a0 hX er
  unfold Xj at C
  split at C
  ·
   rename_i b es m N
   rw [N]at U
   unfold Xh at C
   obtain ⟨⟨li,ci⟩,bV,C⟩:=Ac C
   obtain ⟨bX,bQ⟩:=Aq C
   clear C
   obtain ⟨Z,aq,bT⟩:=Ac bQ
   clear bQ
   have aM:(Aa.vec h.next i.size Z.1,(h.set b none).add Z.2)=r:=by simpa using bT
   clear bT
   rw [aT,Ao,Ao]at bX
   obtain ⟨au,bb⟩:=bX
   have bb:ci=es:=bb
   subst bb
   subst au
   have aq:Il h i.size (.take li m) n new=some Z:=aq
   obtain ⟨r0,m0,k,hm,Q,hk,cB,bh⟩:=U.vec
   obtain ⟨r1,⟨δ1,m1⟩,ag,c0,ty,ab,h0,h1,h2,h3,h4,h5⟩:=H.blk b _ (CY bV)
   rw [hm]at ag
   simp only [oI,Prod.mk.injEq]at ag
   obtain ⟨rfl,rfl,rfl⟩:=ag
   have h1:(ρ.lst li).length<=BE m0:=h1
   have h4:BL m0*i.size<=c0.size:=h4
   have h5:BG μ.AU i.size c0 0 (ρ.lst li):=h5
   have b1:=aq
   obtain ⟨j,A,B,eb,et,M,eA,hA,hB,ac,aj⟩:=JS H.AO.facts b1
   have cA:k<=(ρ.lst li).length:=by
    obtain ⟨_,q,_⟩:=hA
    rw [hk]at q;omega
   have az:∀Y,F3 ρ (.take li m) Y->Y=(ρ.lst li).take k:=fun Y hY=>by
    obtain ⟨_,_,q⟩:=hY
    rw [q,hk];rfl
   have av:∀p∈(ρ.lst li).take k,p.length=i.size:=fun p R=>(Bx.1 h5).1 p (List.mem_of_mem_take R)
   have aL:((ρ.lst li).take k).length=k:=by rw [lT'];omega
   have hX:AK μ.AU c0 0 ((ρ.lst li).take k).flatten:=by
    have:=(Bx.1 h5).2
    rw [<-List.take_append_drop k (ρ.lst li),List.flatten_append,AK.append_iff]at this
    exact this.1
   have bY:((ρ.lst li).take k).flatten.length=k*i.size:=by rw [BB av,aL]
   by_cases hfit:k+n<=BL m0
   ·
    have:=az A hA
    subst this
    have aR:(ρ.lst j).length=k+n:=by rw [eA,lA];omega
    have a9:(k+n)*i.size<=BL m0*i.size:=Nat.mul_le_mul_right _ hfit
    rw [Nat.add_mul]at a9
    have aX:L.toList.length=n*i.size:=by rw [<-ah.length];exact a3
    obtain ⟨c',aV,bx,bc⟩:=DF (P:=P) L.toList ab (p:=k*i.size) (by omega) ah.one
    have b8:B.flatten.length=n*i.size:=by rw [BB ac,hB]
    have bC:AK μ.AU L 0 B.flatten:=Aw.freeze aj ah fun i v hv=>by simpa using hv
    have a7:BG μ.AU i.size c' 0 (ρ.lst j):=by
     rw [Bx]
     refine ⟨fun p R=>?_,?_⟩
     ·rw [eA,List.mem_append]at R
      exact R.elim (av p) (ac p)
     ·rw [eA,List.flatten_append,AK.append_iff]
      refine ⟨AK.congr (fun q hq=>?_) hX,AK.congr (fun q hq=>?_) bC⟩
      ·rw [bc,if_neg (by omega)]
      ·rw [bc,if_pos (by omega),<-Array.getElem?_toList]
       congr 1;omega
    have bE:=Av.WA (w':=w.setRow r0 c') H (CY bV) hm Z.2 (0,NY (k+n) (BL m0)) (fun i hi=>setRow_other _ _ _ _ hi) (by simp) rfl rfl (fun μ' aP=>by
     rw [Ej _ _ _ _ _ _ ab,eb]
     refine ⟨c',ty,rfl,rfl,?_,?_,?_,?_,BG.mono aP.AU a7⟩
     ·rw [Bs (by omega)];omega
     ·rw [Bs (by omega)];omega
     ·rw [Bs (by omega),BF (by omega)];exact hfit
     ·rw [BF (by omega)];omega)
    subst aM
    refine ⟨.value _,_,_,_,run (v:=.slice (some ⟨r0,0,none⟩) (k+n) (BL m0)) ?_,.inl rfl,bE,?_⟩
    ·rw [Q]
     refine Cm ht hu hd bg aK hfit hL ?_
     simp only [Addr.AY,Nat.zero_add]
     exact aV
    ·simp only [Ag]
     refine ⟨_,_,k+n,As.BD _ _ _,?_,?_,?_,?_⟩
     ·rw [BF (by omega)]
     ·rw [et,aR]
     ·rw [Bs (by omega)];exact Nat.le_refl _
     ·rw [Bs (by omega),BF (by omega)];exact hfit
   ·
    obtain ⟨l,aw,a5,a1⟩:=hX.values
    have V:=run_loadCells_list (P:=P) (w:=w.drew) ⟨r0,0,none⟩ l (fun j v hv=>by
     rw [Addr.AY]
     show w.cell? _=_
     rw [Ci ab];exact a5 j v hv)
    rw [aw,bY]at V
    refine aC _ _ _ (h.set b none) _ Z _ l.toArray Q (by omega) (Av.drop H b) aq az aL av (by simp [Builtin.firstCells,V]) (by simp [aw,bY]) (AK.congr (fun q hq=>?_) hX) ?_
    ·have:=a1 q hq
     simpa using this.symm
    ·rw [<-aM];rfl
  ·
   rename_i li es m N
   rw [N]at U
   unfold Xm at C
   obtain ⟨au,C⟩:=Aq C
   obtain ⟨Z,aq,aM⟩:=Ac C
   simp only [oI]at aM
   have au:=Ao.1 au
   subst au
   obtain ⟨ct,_,bP⟩:=U.lst
   obtain ⟨p,Q⟩:=bP rfl
   obtain ⟨p',c',bm,_,_,b6⟩:=U.D7
   rw [Q]at bm
   simp only [Value.slice.injEq,true_and]at bm
   obtain ⟨rfl,rfl⟩:=bm
   have ae:(ρ.lst li).length<(ρ.lst li).length+n:=by omega
   by_cases hz0:(ρ.lst li).length=0
   ·have aO:ρ.lst li=[]:=List.eq_nil_of_length_eq_zero hz0
    refine aC _ _ _ h _ Z (ρ.lst li) #[] Q ae (Av.refl H) aq (fun Y hY=>hY) rfl (fun q hq=>by rw [aO]at hq;cases hq) ?_ (by simp [hz0]) (by rw [aO];simp only [List.flatten_nil,AK]) aM.symm
    rw [hz0]
    cases p<;>simp [Builtin.firstCells,loadCells,loadCellsFrom]
   ·obtain ⟨r0,δ,c0,ty,rfl,k1,k2⟩:=b6 hz0
    obtain ⟨_,k1⟩:=k1
    have ab:=(H.AO.AU _ _ k1).1
    have aN:=Bx.1 k2
    obtain ⟨l,aw,a5,a1⟩:=aN.2.values
    have bR:=BB aN.1
    have V:=run_loadCells_list (P:=P) (w:=w.drew) ⟨r0,δ,none⟩ l (fun j v hv=>by
     rw [Addr.AY]
     show w.cell? _=_
     rw [Ci ab];exact a5 j v hv)
    rw [aw,bR]at V
    refine aC _ _ _ h _ Z (ρ.lst li) l.toArray Q ae (Av.refl H) aq (fun Y hY=>hY) rfl aN.1 (by simp [Builtin.firstCells,V]) (by simp [aw,bR]) (AK.congr (fun q hq=>?_) aN.2) aM.symm
    have:=a1 q hq
    simpa using this.symm
  ·
   rename_i N
   rw [N]at U
   have Q:a.eval x=.slice none 0 0:=by simpa only [Ag]using U
   obtain hE|C:=SC C
   ·obtain ⟨p,j,t,A,B,R,er,et,M,eA,hA,hB,ac,aj⟩:=JT H.AO.facts hE
    have R:([]:List AE)=p:=by simpa [P3]using R
    subst R
    have hA:A=[]:=hA
    exact ao none 0 0 h (t,.list j i.size) [] #[] Q (by omega) (Av.refl H) ⟨j,A,B,rfl,et,M,eA,hA,hB,ac,aj⟩ rfl (fun _ hq=>by cases hq) (by simp [Builtin.firstCells]) (by simp) (by simp only [List.flatten_nil,AK]) er
   unfold Ik at C
   obtain ⟨M,C⟩:=Aq C
   simp only [oI]at C
   exact fresh none 0 0 h [] #[] Q (by omega) (AL.1 M) (Av.refl H) (by simp) (by simp [Builtin.firstCells]) (by simp only [Aw]) C.symm
  ·
   rename_i b aD len cap N
   have bn:=U
   rw [N]at U
   obtain ⟨r0,δ,m,hm,Q,ad⟩:=U.slice
   cases hcap:Nat.ble (len+n) cap with
   |true=>
    rw [hcap]at C
    simp only [cond_true]at C
    unfold T1 at C
    obtain ⟨vs,be,C⟩:=Ac C
    obtain ⟨cy,aN,C⟩:=Ac C
    simp only [oI]at C
    subst C
    obtain ⟨r1,δ1,m1,ag,w',aV,hg⟩:=GS (P:=P) H be ah aN
    have hg:=hg _ (.inl rfl)
    rw [hm]at ag
    simp only [oI,Prod.mk.injEq]at ag
    obtain ⟨rfl,rfl,rfl⟩:=ag
    refine ⟨.value _,_,w',μ,run (v:=.slice (some ⟨r0,δ+aD,none⟩) (len+n) cap) ?_,.inl rfl,hg,?_⟩
    ·rw [Q]
     refine Cm ht hu hd bg aK (AL.1 hcap) hL ?_
     simp only [Addr.AY,Nat.add_assoc]
     exact aV
    ·simp only [Ag]
     exact ⟨_,_,_,hm,rfl,AL.1 hcap⟩
   |false=>
    rw [hcap]at C
    simp only [cond_false]at C
    have ae:cap<len+n:=by
     rcases Nat.lt_or_ge cap (len+n)with h'|h'
     ·exact h'
     ·rw [AL.2 h']at hcap;cases hcap
    obtain hE|C:=SC C
    ·obtain ⟨p,j,t,X0,B,R,er,et,M,eA,bi,hB,ac,aj⟩:=JT H.AO.facts hE
     unfold P3 at R
     obtain ⟨bv,bW⟩:=Aq R
     clear R
     have bh:=Ao.1 bv
     clear bv
     subst bh
     have R:=bW
     clear bW
     rw [AH]at R
     split at R
     ·rename_i br
      subst br
      simp only [oI]at R
      subst R
      have bi:X0=[]:=bi
      exact ao _ 0 0 h (t,.list j i.size) [] #[] Q (by omega) (Av.refl H) ⟨j,X0,B,rfl,et,M,eA,bi,hB,ac,aj⟩ rfl (fun _ hq=>by cases hq) (by simp [Builtin.firstCells,loadCells,loadCellsFrom]) (by simp) (by simp only [List.flatten_nil,AK]) er
     ·rename_i br
      obtain ⟨s,bG,R⟩:=Ac R
      obtain ⟨cu,R⟩:=Aq R
      obtain ⟨cs,bx,R⟩:=Ac R
      simp only [oI]at R
      subst R
      have b5:DQ ρ cs X0:=by
       obtain ⟨x,y,rfl,h1,h2⟩:=bi
       have h2:y=[]:=h2
       subst h2
       rw [List.append_nil];exact h1
      obtain ⟨c1,c2,c3⟩:=DA bx
      obtain ⟨f1,f2,f3⟩:=DQ.flat b5
      have bD:Jn h i.size false (ev tm (AD x))=some s:=by rw [N];exact bG
      obtain ⟨_,al,O,V,aB⟩:=De (P:=P) (w:=w.drew) H.drew bn (n:=s.1) (cs:=s.2) bD
      have bt:s.1=len:=by
       have I:=bG
       unfold LW at I
       rw [AH,if_neg br]at I
       obtain ⟨_,_,I⟩:=Ac I
       obtain ⟨_,_,I⟩:=Ac I
       simp only [oI]at I;rw [<-I]
      rw [bt]at al V
      rw [Q]at V
      rw [c1]at f1
      refine ao _ _ _ h (t,.list j i.size) X0 O Q ae (Av.refl H) ⟨j,X0,B,rfl,et,M,eA,rfl,hB,ac,aj⟩ (by omega) (f3 _ c3) V ?_ ?_ er
      ·have:=aB.length;simp at this;omega
      ·exact Aw.freeze f1 aB fun q v hv=>by simpa using hv
    obtain ⟨old,af,C⟩:=Ac C
    unfold Ik at C
    obtain ⟨M,C⟩:=Aq C
    simp only [oI]at C
    have bD:Jn h i.size false (ev tm (AD x))=some old:=by rw [N];exact af
    obtain ⟨_,al,O,V,aB⟩:=De (P:=P) (w:=w.drew) H.drew bn bD
    have bt:old.1=len:=by
     have I:=af
     unfold LW at I
     rw [AH]at I
     split at I
     ·simp only [oI]at I;rw [<-I];omega
     ·obtain ⟨_,_,I⟩:=Ac I
      obtain ⟨_,_,I⟩:=Ac I
      simp only [oI]at I;rw [<-I]
    rw [bt]at al V
    rw [Q]at V
    exact fresh _ _ _ h old.2 O Q ae (AL.1 M) (Av.refl H) al V aB C.symm
  ·
   rename_i b aD len es N
   have bn:=U
   rw [N]at U
   obtain ⟨r0,δ,m,cap,hm,Q,ad,co⟩:=U.gslice
   unfold Xi at C
   obtain ⟨vs,be,C⟩:=Ac C
   obtain ⟨bf,C⟩:=Aq C
   obtain ⟨old,af,C⟩:=Ac C
   simp only [oI]at C
   rw [aT,Ao,AL]at bf
   obtain ⟨au,M⟩:=bf
   obtain ⟨B0,cf⟩:=Lo be
   obtain ⟨r1,δ1,m1,c1,e3,ag,ab,cx,aU⟩:=H.cells be
   rw [hm]at ag
   simp only [oI,Prod.mk.injEq]at ag
   obtain ⟨rfl,rfl,rfl⟩:=ag
   by_cases hfit:len+n<=cap
   ·
    have a9:(len+n)*i.size<=cap*es:=by rw [<-au];exact Nat.mul_le_mul_right _ hfit
    rw [Nat.add_mul]at a9
    have aX:L.toList.length=n*i.size:=by rw [<-ah.length];exact a3
    obtain ⟨c',aV,bx,bc⟩:=DF (P:=P) L.toList ab (p:=δ+aD+len*i.size) (by omega) ah.one
    have ak:=JP af
    have bE:=Av.WA (w':=w.setRow r0 c') H cf hm (.cells (old++new)) (δ+aD,m-aD) (fun i hi=>setRow_other _ _ _ _ hi) (by simp) rfl rfl (fun μ' aP=>by
     rw [Ej _ _ _ _ _ _ ab]
     refine ⟨c',e3,rfl,by omega,fun k v hk=>?_⟩
     rw [bc]
     by_cases hko:k<old.length
     ·rw [List.getElem?_append_left hko,ak.2.2 k]at hk
      rw [ak.1]at hko
      rw [if_pos hko]at hk
      obtain ⟨u',aW,bz,bo⟩:=aU _ _ hk
      refine ⟨u',?_,bz,bo.mono aP⟩
      rw [if_neg (by omega),Nat.add_assoc]
      exact aW
     ·rw [List.getElem?_append_right (by omega)]at hk
      obtain ⟨u',aW,bz,bo⟩:=ah.get hk
      refine ⟨u',?_,bz,bo.mono aP⟩
      have b9:=(List.getElem?_eq_some_iff.1 aW).1
      rw [ak.1]at aW b9 hko
      rw [if_pos (by omega),<-aW]
      congr 1
      omega)
    subst C
    refine ⟨.value _,_,_,_,run (v:=.slice (some ⟨r0,δ+aD,none⟩) (len+n) cap) ?_,.inl rfl,bE,?_⟩
    ·rw [Q]
     refine Cm ht hu hd bg aK hfit hL ?_
     simp only [Addr.AY]
     exact aV
    ·simp only [Ag]
     refine ⟨_,_,_,cap,As.BD _ _ _,rfl,hfit,?_⟩
     rw [au];omega
   ·
    obtain ⟨l,aw,bS,bh⟩:=D9 aU af
    have V:=run_loadCells_list (P:=P) (w:=w.drew) ⟨r0,δ+aD,none⟩ l (fun j v hv=>by
     rw [Addr.AY]
     show w.cell? _=_
     rw [Ci ab];exact bh j v hv)
    rw [aw]at V
    refine fresh _ _ _ (h.set b none) old l.toArray Q (by omega) M (Av.drop H b) ?_ ?_ (by simpa using bS) ?_
    ·rw [bS.length,aw]
    ·simp [Builtin.firstCells,V]
    ·rw [<-C];rfl
  ·cases C
theorem Lm {o:Oper} {c:Call} {t u e:TypeId} {d:TypeDesc} {x y:Operand} (C:o.op=.call c) (z:c.callee=.builtin .append) (j:c.args=#[x,y]) (q:c.argTypes=#[t,u])
  (H:AI ρ μ h w) (B:AT ρ μ tm a) (M:P.underlying t=some (.slice e)) (L:P.underlying u=some d) (hd:Ey d) {i:TypeInfo} (N:P.info? e=some i) (hb:i.bytes<=1048576) (O:(i.zero.map fun v=>Nat.beq v.cells.size i.size).getD false=true)
  {bytes:Bool} {s:Nat×List Aa} (hs:Jn h i.size bytes (ev tm (AD y))=some s) {r:Aa×Ak} (J:GA h i.size (ev tm (AD x)) s.1 s.2=some r):Ex P ρ μ h a o w (.val r.1 r.2):=by
 have A:=Au B y
 refine Ea C z j q H B M L hd N hb O (fun w' I=>?_) J
 obtain ⟨n,new⟩:=s
 rcases I with rfl|rfl
 ·exact De (P:=P) H A hs
 ·exact De (P:=P) H.drew A hs
theorem Aw.take:∀{as:List Aa} {vs:List Value} (k:Nat),Aw ρ μ as vs->Aw ρ μ (as.take k) (vs.take k)
 |[],vs,k,e=>by simp only [Aw]at e;subst e;simp only [List.take_nil,Aw]
 |a::as,vs,k,e=>by
  simp only [Aw]at e
  obtain ⟨v,rest,rfl,j,q⟩:=e
  cases k with
  |zero=>simp only [List.take_zero,Aw]
  |succ k=>simp only [List.take_succ_cons,Aw];exact ⟨_,_,rfl,j,Aw.take k q⟩
theorem Sg (H:AI ρ μ h w) {size n m:Nat} {bytes:Bool} {x:Aa} {u:Value} {cs:List Aa} (N:Ag ρ μ x u) (hs:Jn h size bytes x=some (n,cs)) (U:m<=n):
  ∃L:Array Value,(Builtin.firstCells size m u).run P w=.ok L w/\Aw ρ μ (cs.take (m*size)) L.toList:=by
 have key:∀(b B len r δ Z c:Nat),LW h size b B len=some (n,cs)->μ b=some (r,δ,Z)->u=.slice (some ⟨r,δ+B,none⟩) len c->
   ∃L:Array Value,(Builtin.firstCells size m u).run P w=.ok L w/\Aw ρ μ (cs.take (m*size)) L.toList:=fun b B len r δ Z c hs O e=>by
  subst e
  unfold LW at hs
  rw [AH]at hs
  by_cases R:len=0
  ·rw [if_pos R]at hs
   simp only [oI,Prod.mk.injEq]at hs
   obtain ⟨rfl,rfl⟩:=hs
   have:m=0:=by omega
   subst this
   exact ⟨#[],by simp [Builtin.firstCells,loadCells,loadCellsFrom],by simp only [List.take_nil,Aw]⟩
  ·rw [if_neg R]at hs
   obtain ⟨vs,aa,hs⟩:=Ac hs
   obtain ⟨r',Y,hs⟩:=Ac hs
   simp only [oI,Prod.mk.injEq]at hs
   obtain ⟨rfl,rfl⟩:=hs
   obtain ⟨r2,δ2,m2,c2,e2,C,X,_,hc⟩:=H.cells aa
   rw [O]at C
   simp only [oI,Prod.mk.injEq]at C
   obtain ⟨rfl,rfl,rfl⟩:=C
   obtain ⟨l,J,M,Q⟩:=D9 hc Y
   have A:m*size<=l.length:=by rw [J];exact Nat.mul_le_mul_right _ U
   have q:=run_loadCells_list (P:=P) (w:=w) ⟨r,δ+B,none⟩ (l.take (m*size)) (fun j v z=>by
    rw [List.getElem?_take]at z
    split at z
    ·rw [Addr.AY,Ci X];exact Q j v z
    ·cases z)
   rw [lT',Nat.min_eq_left A]at q
   exact ⟨(l.take (m*size)).toArray,by simp [Builtin.firstCells,q],by simpa using M.take (m*size)⟩
 unfold Jn at hs
 split at hs
 ·obtain ⟨k1,⟨rfl,rfl,p,c,rfl⟩|⟨r,δ,c,ar,e,_,rfl,X,hc⟩⟩:=OP H N hs
  ·have R:m=0:=by omega
   subst R
   cases p
   ·exact ⟨#[],by simp [Builtin.firstCells],by simp only [List.take_nil,Aw]⟩
   ·exact ⟨#[],by simp [Builtin.firstCells,loadCells,loadCellsFrom],by simp only [List.take_nil,Aw]⟩
  ·obtain ⟨l,J,M,Q⟩:=D9 hc (WW cs)
   have A:m*size<=l.length:=by rw [J,k1];exact Nat.mul_le_mul_right _ U
   have q:=run_loadCells_list (P:=P) (w:=w) ⟨r,δ,none⟩ (l.take (m*size)) (fun j v z=>by
    rw [List.getElem?_take]at z
    split at z
    ·rw [Addr.AY,Ci X];simpa using Q j v z
    ·cases z)
   rw [lT',Nat.min_eq_left A]at q
   exact ⟨(l.take (m*size)).toArray,by simp [Builtin.firstCells,q],by simpa using M.take (m*size)⟩
 ·simp only [oI,Prod.mk.injEq]at hs
  obtain ⟨rfl,rfl⟩:=hs
  have e:u=.slice none 0 0:=by simpa only [Ag]using N
  subst e
  exact ⟨#[],by simp [Builtin.firstCells],by simp only [List.take_nil,Aw]⟩
 ·obtain ⟨r,δ,m,O,e,_⟩:=N.slice
  exact key _ _ _ _ _ _ _ hs O e
 ·obtain ⟨r,δ,m,c,O,e,_⟩:=N.gslice
  exact key _ _ _ _ _ _ _ hs O e
 ·rename_i s
  obtain ⟨I,V⟩:=Aq hs
  clear hs
  have I:=Ao.1 I
  subst I
  simp only [oI,Prod.mk.injEq]at V
  obtain ⟨rfl,rfl⟩:=V
  obtain ⟨b,rfl,rfl⟩:=N.str
  refine ⟨((b.extract 0 m).data.map fun c=>.int .u8 c.toNat),by simp [Builtin.firstCells],?_⟩
  have hb:=(FA (ρ:=ρ) (μ:=μ) b.data.toList).take (m*1)
  have he:(b.extract 0 m).data.toList=b.data.toList.take m:=by
   obtain ⟨⟨l⟩⟩:=b
   have:=ByteArray.extract_mk l 0 m
   rw [show (⟨⟨l⟩⟩:ByteArray)=ByteArray.mk l.toArray from rfl,this]
   simp
  rw [Array.toList_map,he]
  unfold strOf
  simpa [List.map_take]using hb
 ·cases hs
theorem Pq {o:Oper} {c:Call} {t u e:TypeId} {x y:Operand} (ho:o.op=.call c) (ac:c.callee=.builtin .copy) (U:c.args=#[x,y]) (X:c.argTypes=#[t,u])
  (H:AI ρ μ h w) (hT:AT ρ μ tm a) (Y:P.underlying t=some (.slice e)) {size:Nat} (hn:AW P e=some size)
  {bytes:Bool} {s:Nat×List Aa} (hs:Jn h size bytes (ev tm (AD y))=some s) {r:Aa×Ak} (j:Acj h size (ev tm (AD x)) s.1 s.2=some r):Ex P ρ μ h a o w (.val r.1 r.2):=by
 have B:=Au hT x
 have hy:=Au hT y
 have O:=Bn (w:=w) hn
 obtain ⟨n,src⟩:=s
 obtain ⟨M,an,_⟩:=De (P:=P) H hy hs
 have run:∀{v:Value} {wf:World},(Builtin.copy_ #[t,u] o.type #[a.eval x,a.eval y]).run P w=.ok v wf->(execOp a.eval o).run P w=.ok (.value v) wf:=fun {v wf} hrun=>by
  simp [execOp,ho,resolve,ac,U,X,invoke,builtin,hrun]
 have key:∀(b N len:Nat) (C δ V cap:Nat),μ b=some (C,δ,V)->a.eval x=.slice (some ⟨C,δ+N,none⟩) len cap->
   WX h size b N (bif Nat.ble n len then n else len) src=some r->Ex P ρ μ h a o w (.val r.1 r.2):=fun b N len C δ V cap Q q j=>by
  have aa:(bif Nat.ble n len then n else len)=min n len:=by
   cases hb:Nat.ble n len with
   |true=>simp only [cond_true];have:=AL.1 hb;omega
   |false=>
    simp only [cond_false]
    have:¬n<=len:=fun h'=>by rw [AL.2 h']at hb;cases hb
    omega
  rw [aa]at j
  obtain ⟨L,J,z⟩:=Sg (P:=P) H hy hs (Nat.min_le_left n len)
  unfold WX at j
  rw [AH]at j
  by_cases A:min n len=0
  ·rw [if_pos A]at j
   simp only [oI]at j
   subst j
   rw [A]at z J
   simp only [Nat.zero_mul,List.take_zero,Aw]at z
   refine ⟨.value (goInt 0),goInt 0,w,μ,run ?_,.inl rfl,Av.refl H,by simp only [lit,Ag,ST.den];rfl⟩
   have ak:Nat.min n len=0:=A
   simp [Builtin.copy_,run_underlying Y,q,M,O,ak,J,z,storeCells,goInt]
  ·rw [if_neg A]at j
   obtain ⟨vs,aj,j⟩:=Ac j
   obtain ⟨new,ab,j⟩:=Ac j
   obtain ⟨aq,ai,j⟩:=Ac j
   simp only [oI]at j
   subst j
   obtain ⟨rfl,_⟩:=FZ ab
   obtain ⟨r1,δ1,m1,I,w',af,Z⟩:=GS (P:=P) H aj z ai
   have Z:=Z _ (.inl rfl)
   rw [Q]at I
   simp only [oI,Prod.mk.injEq]at I
   obtain ⟨rfl,rfl,rfl⟩:=I
   refine ⟨.value (goInt (min n len:Nat)),_,w',μ,run ?_,.inl rfl,Z,by simp only [lit,Ag,ST.den];rfl⟩
   have ah:(Builtin.firstCells size (Nat.min n len) (a.eval y)).run P w=.ok L w:=J
   simp [Builtin.copy_,run_underlying Y,q,M,O,ah,af,goInt]
 unfold Acj at j
 split at j
 ·rename_i R
  rw [R]at B
  have q:a.eval x=.slice none 0 0:=by simpa only [Ag]using B
  simp only [oI]at j
  subst j
  obtain ⟨L,J,z⟩:=Sg (P:=P) H hy hs (Nat.zero_le n)
  refine ⟨.value (goInt 0),goInt 0,w,μ,run ?_,.inl rfl,Av.refl H,by simp only [lit,Ag,ST.den];rfl⟩
  have A:Nat.min n 0=0:=Nat.min_zero n
  simp [Builtin.copy_,run_underlying Y,q,M,O,A,J,goInt]
 ·rename_i R
  rw [R]at B
  obtain ⟨C,δ,V,Q,q,_⟩:=B.slice
  exact key _ _ _ _ _ _ _ Q q j
 ·rename_i R
  rw [R]at B
  obtain ⟨C,δ,V,cap,Q,q,_⟩:=B.gslice
  exact key _ _ _ _ _ _ _ Q q j
 ·cases j
end
end
section
section
variable {P:Program} {Γ:Ap} {ρ:Env} {μ:As} {tm:Tr Aa} {a:Act} {w:World} {h:Ak}
def F4 (L:List Value):Prop:=∀v∈L,∃x:UInt8,v=.int .u8 x.toNat
theorem XZ {v:Aa} (h:AdD v=true):∃n,v=.int .u8 (.lit (.ofNat n))/\n<=255:=by
 unfold AdD at h
 split at h
 ·exact ⟨_,rfl,AL.1 h⟩
 ·cases h
theorem Lv:∀{cs:List Aa} {L:List Value},Aw ρ μ cs L->Xn cs=true->F4 L
 |[],L,h,_=>by simp only [Aw]at h;subst h;intro v q;cases q
 |c::cs,L,h,j=>by
  simp only [Aw]at h
  obtain ⟨v,rest,rfl,⟨_,q⟩,A⟩:=h
  have j:(AdD c&&Xn cs)=true:=j
  rw [aT]at j
  intro u x
  cases x with
  |head=>
   obtain ⟨n,z,B⟩:=XZ j.1
   subst z
   have e:=q.int
   refine ⟨UInt8.ofNat n,?_⟩
   rw [e]
   simp only [ST.den]
   have:(UInt8.ofNat n).toNat=n:=by simp;omega
   rw [this];rfl
  |tail _ hm=>exact Lv A j.2 u hm
theorem T4 (l:List UInt8):F4 (l.map fun c=>.int .u8 (c.toNat:Int)):=fun v j=>by
 obtain ⟨c,_,rfl⟩:=List.mem_map.1 j
 exact ⟨c,rfl⟩
theorem LX (H:AI ρ μ h w) {bytes:Bool} {y:Aa} {u:Value} {lo n:Nat} (z:Ag ρ μ y u) (hs:Adl h bytes y=some (lo,n)):
  ∃k,lo<=k/\k<=n/\(Builtin.lenOf u).run P w=.ok k w/\∃L:Array Value,(Builtin.firstCells 1 k u).run P w=.ok L w/\L.size=k/\F4 L.toList:=by
 have str:∀b:ByteArray,u=.string b->(Builtin.lenOf u).run P w=.ok b.size w/\∃L:Array Value,(Builtin.firstCells 1 b.size u).run P w=.ok L w/\L.size=b.size/\F4 L.toList:=fun b e=>by
  subst e
  refine ⟨by simp [Builtin.lenOf],(b.data.map fun c=>.int .u8 c.toNat),?_,by rw [Array.size_map];rfl,?_⟩
  ·have:b.extract 0 b.size=b:=by
    obtain ⟨⟨l⟩⟩:=b
    have:=ByteArray.extract_mk l 0 l.length
    rw [show (⟨⟨l⟩⟩:ByteArray)=ByteArray.mk l.toArray from rfl]
    rw [show (ByteArray.mk l.toArray).size=l.length from by simp [ByteArray.size],this]
    simp
   simp [Builtin.firstCells,this]
  ·simpa using T4 b.data.toList
 have J:∀s,Jn h 1 false y=some s->Xn s.2=true->(s.1,s.1)=(lo,n)->∃k,lo<=k/\k<=n/\(Builtin.lenOf u).run P w=.ok k w/\∃L:Array Value,(Builtin.firstCells 1 k u).run P w=.ok L w/\L.size=k/\F4 L.toList:=fun s x v I=>by
  simp only [Prod.mk.injEq]at I
  obtain ⟨rfl,rfl⟩:=I
  obtain ⟨j,q,L,O,M⟩:=De (P:=P) H z x
  refine ⟨s.1,Nat.le_refl _,Nat.le_refl _,j,L,O,?_,Lv M v⟩
  have:=M.length
  simp at this;omega
 unfold Adl at hs
 split at hs
 ·rename_i i
  obtain ⟨r,N,hs⟩:=Ac hs
  simp only [oI]at hs
  obtain ⟨b,e,C⟩:=z.svar
  obtain ⟨j,q⟩:=str b e
  obtain ⟨_,A,B⟩:=H.AO.facts.BQ _ (Kv N)
  have A:r.2.1<=(ρ.str i).length:=A
  have B:(ρ.str i).length<=r.2.2:=B
  rw [hs,<-C,B8]at A B
  exact ⟨b.size,A,B,j,q⟩
 ·rename_i s
  simp only [oI,Prod.mk.injEq]at hs
  obtain ⟨rfl,rfl⟩:=hs
  obtain ⟨b,e,rfl⟩:=z.str
  obtain ⟨j,q⟩:=str b e
  refine ⟨b.size,?_,?_,j,q⟩<;>rw [Df,B8]<;>exact Nat.le_refl _
 ·rename_i m
  simp only [oI,Prod.mk.injEq]at hs
  obtain ⟨rfl,rfl⟩:=hs
  obtain ⟨b,e,x,v⟩:=z.anyStr
  obtain ⟨j,q⟩:=str b e
  exact ⟨b.size,x,v,j,q⟩
 ·obtain ⟨s,x,hs⟩:=Ac hs
  obtain ⟨v,hs⟩:=Aq hs
  simp only [oI]at hs
  exact J s x v hs
 ·cases hs
theorem YM {e:TypeId} {size t:Nat} (h:u8T P e size=some t):t=e/\size=1/\P.underlying e=some (.int .u8)/\∃i,P.info? e=some i/\i.zero=some (.int .u8 0):=by
 unfold u8T at h
 split at h
 ·rename_i i j q
  split at h
  ·rename_i v
   split at h
   ·rename_i hs
    simp only [oI]at h
    exact ⟨h.symm,Ao.1 hs,j,i,q,v⟩
   ·cases h
  ·cases h
 ·cases h
theorem AI.bytes (H:AI ρ μ h w) {b n e:Nat} (hb:h.get b=some (.bytes n e)):∃r m c,μ b=some (r,0,m)/\w.heap[r]?=some (.cells c e (0,0))/\1<=BE m/\BE m<=n/\n<=1048576/\BE m<=BL m/\BL m<=c.size/\∀i,i<BL m->∃x:UInt8,c[i]?=some (.int .u8 x.toNat):=by
 obtain ⟨r,⟨δ,m⟩,v,c,j,z,q⟩:=H.blk b _ hb
 subst z
 exact ⟨r,m,c,v,j,q⟩
theorem AI.sbytes (H:AI ρ μ h w) {b e:Nat} {n:ST} (hb:h.get b=some (.sbytes n e)):∃r m c,μ b=some (r,0,m)/\w.heap[r]?=some (.cells c e (0,0))/\1<=BE m/\(BE m:Int)<=n.den ρ/\n.den ρ<=1048576/\BE m<=BL m/\BL m<=c.size/\∀i,i<BL m->∃x:UInt8,c[i]?=some (.int .u8 x.toNat):=by
 obtain ⟨r,⟨δ,m⟩,v,c,j,z,q⟩:=H.blk b _ hb
 subst z
 exact ⟨r,m,c,v,j,q⟩
theorem NP {o:Option Block} {m:ST×Nat} (h:Ho o=some m):o=some (.sbytes m.1 m.2):=by
 unfold Ho at h
 split at h
 ·simp only [oI]at h;rw [<-h]
 ·cases h
theorem YD (k:Nat):F4 (Builtin.zeroCells (Value.int .u8 0).cells k).toList:=fun v j=>by
 refine ⟨0,?_⟩
 have hc:(Value.int .u8 0).cells=#[.int .u8 0]:=rfl
 rw [hc]at j
 unfold Builtin.zeroCells at j
 simp only [Array.toList_map,List.mem_map]at j
 obtain ⟨i,_,rfl⟩:=j
 have:i%(#[Value.int .u8 0]:Array Value).size=0:=Nat.mod_one i
 rw [this];rfl
theorem F4.append {x y:List Value} (z:F4 x) (q:F4 y):F4 (x++y):=fun v j=>by
 rcases List.mem_append.1 j with h|h
 ·exact z v h
 ·exact q v h
theorem F4.get {x:Array Value} (v:F4 x.toList) {i:Nat} (q:i<x.size):∃u:UInt8,x[i]?=some (.int .u8 u.toNat):=by
 obtain ⟨u,j⟩:=v x[i] (by simp)
 exact ⟨u,by rw [Array.getElem?_eq_getElem q,j]⟩
theorem R7 {o:Oper} {c:Call} {t u e:TypeId} {d:TypeDesc} {x y:Operand} (ho:o.op=.call c) (aY:c.callee=.builtin .append) (aE:c.args=#[x,y]) (aW:c.argTypes=#[t,u])
  (H:AI ρ μ h w) (hT:AT ρ μ tm a) (ht:P.underlying t=some (.slice e)) (hu:P.underlying u=some d) (hd:Ey d) {i:TypeInfo} (hi:P.info? e=some i) (hb:i.bytes<=1048576) {X:Nat} (he:u8T P e i.size=some X)
  {bytes:Bool} {s:Nat×Nat} (hs:Adl h bytes (ev tm (AD y))=some s) {r:Aa×Ak} (B:RJ h X (ev tm (AD x)) s.1 s.2=some r):Ex P ρ μ h a o w (.val r.1 r.2):=by
 have hx:=Au hT x
 have hy:=Au hT y
 obtain ⟨rfl,aw,_,i',au,hz⟩:=YM he
 rw [hi]at au
 simp only [oI]at au
 subst au
 obtain ⟨lo,n⟩:=s
 obtain ⟨k,bI,bE,ai,L,hL,aJ,aH⟩:=LX (P:=P) H hy hs
 obtain ⟨z,_,_,aX,L',ba,aP,aO⟩:=LX (P:=P) H.drew hy hs
 have a2:z=k:=by
  have R:(Builtin.lenOf (a.eval y)).run P w=.ok k w:=ai
  have h2:(Builtin.lenOf (a.eval y)).run P w.drew=.ok z w.drew:=aX
  have:∀v:Value,∀k z:Nat,(Builtin.lenOf v).run P w=.ok k w->(Builtin.lenOf v).run P w.drew=.ok z w.drew->z=k:=fun v k z R h2=>by
   cases v<;>simp [Builtin.lenOf,stuck]at R h2<;>omega
  exact this _ _ _ R h2
 subst a2
 have aK:(sizeOf X).run P w=.ok 1 w:=by simp [sizeOf,typeInfo,hi,aw]
 have run:∀{v:Value} {wf:World},(Builtin.append_ #[t,u] o.type #[a.eval x,a.eval y]).run P w=.ok v wf->(execOp a.eval o).run P w=.ok (.value v) wf:=fun {v wf} ag=>by
  simp [execOp,ho,resolve,aY,aE,aW,invoke,builtin,ag]
 have fresh:∀(ae:Option Addr) (len cap:Nat) (Z:Block) (R:Ak) (O:Array Value),a.eval x=.slice ae len cap->cap<len+z->len+z<=1048576->(∀(Y:As) (C:Array Value) (I:Nat),BE I=len+z->BE I<=BL I->BL I<=C.size->(∀i,i<BL I->∃x:UInt8,C[i]?=some (.int .u8 x.toNat))->C4 ρ Y Z (some (.cells C X (0,0))) (0,I))->1<=len+z->Av ρ μ h w μ R w->O.size=len->F4 O.toList->
   (Builtin.firstCells 1 len (.slice ae len cap)).run P w.drew=.ok O w.drew->r=(.gbytes R.next,R.add Z)->Ex P ρ μ h a o w (.val r.1 r.2):=fun ae len cap Z R O e1 a3 A al bC ay bm a1 hO er=>by
  subst er
  obtain ⟨nc,rest,bH,aj,a8,ag⟩:=DG (P:=P) (ty:=o.type) (O:=O) (L:=L') ht hu hd hi hz ai a3 (by rw [aw];exact hO) (by rw [aw];exact ba) hb (by omega)
  have a9:(Value.int .u8 0).cells.size=1:=rfl
  rw [a9,Nat.mul_one]at aj
  have bo:(O++L'++rest).size=nc:=by simp only [Array.size_append,bm,aP,aj];omega
  have a0:F4 (O++L'++rest).toList:=by
   rw [Array.toList_append,Array.toList_append]
   exact (a1.append aO).append (by rw [a8];exact YD _)
  have N:=Bs (len:=len+z) (cap:=nc) (by omega)
  have af:=BF (len:=len+z) (cap:=nc) (by omega)
  have aR:=Av.add ay.rel.drew Z (.cells (O++L'++rest) X) (0,NY (len+z) nc) (fun Y bL=>al Y _ _ N (by omega) (by omega) fun i hi=>a0.get (by omega))
  refine ⟨.value _,_,_,_,run (by rw [e1];exact ag),.inl rfl,(ay.trans (Av.drew ay.rel)).trans aR,?_⟩
  simp only [Ag]
  exact ⟨_,_,As.BD _ _ _,by rw [N,af],by omega,by omega⟩
 unfold RJ at B
 split at B
 ·
  rename_i e1
  have aG:=hx
  rw [e1]at hx
  have e2:a.eval x=.slice none 0 0:=by simpa only [Ag]using hx
  simp only [AH]at B
  split at B
  ·split at B
   ·rename_i h0 R
    have R:n=0:=R
    have hk:z=0:=by omega
    subst hk
    simp only [oI]at B
    subst B
    refine ⟨.value (a.eval x),a.eval x,w,μ,run ?_,.inl rfl,Av.refl H,by rw [e1]at aG⊢;exact aG⟩
    rw [e2]
    exact Cm ht hu hd aK ai (by omega) hL rfl
   ·cases B
  ·rename_i h0
   obtain ⟨A,B⟩:=Aq B
   simp only [oI]at B
   have A:=AL.1 A
   exact fresh none 0 0 (.bytes n X) h #[] e2 (by omega) (by omega) (fun Y C I q1 q2 q3 q4=>⟨C,rfl,rfl,by omega,by omega,by omega,q2,q3,q4⟩) (by omega) (Av.refl H) rfl (fun v Q=>by cases Q) (by simp [Builtin.firstCells]) B.symm
 ·
  rename_i b e1
  rw [e1]at hx
  obtain ⟨r0,m,hm,e2,bJ,bG⟩:=hx.gbytes
  have key:∀(B0 Z:Block) (V:Array Value),h.get b=some B0->w.heap[r0]?=some (.cells V X (0,0))->BL m<=V.size->(∀i,i<BL m->∃x:UInt8,V[i]?=some (.int .u8 x.toNat))->BE m+z<=1048576->
    (∀(Y:As) (C:Array Value) (I:Nat),BE I=BE m+z->BE I<=BL I->BL I<=C.size->(∀i,i<BL I->∃x:UInt8,C[i]?=some (.int .u8 x.toNat))->C4 ρ Y Z (some (.cells C X (0,0))) (0,I))->
    r=(.gbytes h.next,(h.set b none).add Z)->Ex P ρ μ h a o w (.val r.1 r.2):=fun B0 Z V M J an aa A al er=>by
   by_cases hfit:BE m+z<=BL m
   ·
    obtain ⟨C,bi,bK,a7⟩:=DF (P:=P) L.toList J (p:=BE m) (by simp [aJ];omega) (fun v Q=>by obtain ⟨x,rfl⟩:=aH v Q;rfl)
    have N:=Bs (len:=BE m+z) (cap:=BL m) (by omega)
    have af:=BF (len:=BE m+z) (cap:=BL m) (by omega)
    have bh:=Av.WA (w':=w.setRow r0 C) H M hm Z (0,NY (BE m+z) (BL m)) (fun i hi=>setRow_other _ _ _ _ hi) (by simp) rfl rfl (fun Y bv=>by
     rw [Ej _ _ _ _ _ _ J]
     refine al Y C _ N (by omega) (by omega) fun j hj=>?_
     rw [a7]
     split
     ·rename_i bk
      simp only [Array.length_toList,aJ]at bk
      obtain ⟨x,hx⟩:=aH.get (i:=j-BE m) (by omega)
      exact ⟨x,by rw [Array.getElem?_toList];exact hx⟩
     ·exact aa j (by omega))
    subst er
    refine ⟨.value _,_,_,_,run (v:=.slice (some ⟨r0,0,none⟩) (BE m+z) (BL m)) ?_,.inl rfl,bh,?_⟩
    ·rw [e2]
     refine Cm ht hu hd aK ai hfit hL ?_
     simp only [Addr.AY,Nat.mul_one,Nat.zero_add]
     exact bi
    ·simp only [Ag]
     exact ⟨_,_,As.BD _ _ _,by rw [N,af],by omega,by omega⟩
   ·
    have hO:=run_loadCells_list (P:=P) (w:=w.drew) ⟨r0,0,none⟩ (V.toList.take (BE m)) (fun j v Q=>by
     rw [Addr.AY]
     show w.cell? _=_
     rw [Ci J,Nat.zero_add]
     rw [List.getElem?_take]at Q
     split at Q
     ·rw [<-Array.getElem?_toList];exact Q
     ·cases Q)
    have aI:(V.toList.take (BE m)).length=BE m:=by simp;omega
    rw [aI]at hO
    refine fresh _ _ _ Z (h.set b none) (V.toList.take (BE m)).toArray e2 (by omega) A al (by omega) (Av.drop H b) (by simpa using aI) ?_ ?_ er
    ·intro v Q
     simp only at Q
     obtain ⟨j,hj⟩:=List.mem_iff_getElem?.1 Q
     rw [List.getElem?_take]at hj
     split at hj
     ·rename_i bF
      obtain ⟨x,hx⟩:=aa j (by omega)
      rw [Array.getElem?_toList,hx]at hj
      simp only [oI]at hj
      exact ⟨x,hj.symm⟩
     ·cases hj
    ·simp [Builtin.firstCells,hO]
  unfold Xl at B
  split at B
  ·rename_i mm ax
   obtain ⟨ac,aq⟩:=Aq B
   obtain ⟨t',a6,ad⟩:=Ac aq
   simp only [oI]at ad
   have ac:=Ao.1 ac
   have M:=NP ax
   rw [ac]at M
   obtain ⟨r1,m1,V,U,J,be,bn,bb,bc,an,aa⟩:=H.sbytes M
   rw [hm]at U
   simp only [oI,Prod.mk.injEq,true_and]at U
   obtain ⟨rfl,rfl⟩:=U
   obtain ⟨q,aL,bg⟩:=OV a6
   obtain ⟨b1,b2⟩:=H.AO.facts.C8 _ bg
   have b1:mm.1.den ρ+(q:Int)<=t'.den ρ:=b1
   have b2:t'.den ρ<=1048576:=b2
   have aL:n<=q:=aL
   exact key _ (.sbytes t' X) V M J an aa (by omega) (fun Y C I g1 g2 g3 g4=>⟨C,rfl,rfl,by omega,by omega,b2,g2,g3,g4⟩) ad.symm
  ·obtain ⟨mm,ax,aq⟩:=Ac B
   obtain ⟨ak,ad⟩:=Aq aq
   simp only [oI]at ad
   rw [aT,Ao,AL]at ak
   obtain ⟨ac,A⟩:=ak
   have M:=JR ax
   rw [ac]at M
   obtain ⟨r1,m1,V,U,J,be,bn,bb,bc,an,aa⟩:=H.bytes M
   rw [hm]at U
   simp only [oI,Prod.mk.injEq,true_and]at U
   obtain ⟨rfl,rfl⟩:=U
   have A:mm.1+n<=1048576:=A
   exact key _ (.bytes (mm.1+n) X) V M J an aa (by omega) (fun Y C I g1 g2 g3 g4=>⟨C,rfl,rfl,by omega,by omega,A,g2,g3,g4⟩) ad.symm
 ·cases B
theorem Av.lost {w':World} (H:AI ρ μ h w) {b:Nat} {I:Block} {r:Nat} {δ:Nat×Nat} (hb:h.get b=some I) (M:μ b=some (r,δ))
  (J:∀i,i≠r->w'.heap[i]?=w.heap[i]?) (R:w'.heap.size=w.heap.size) (N:w'.os=w.os) (B:w'.output=w.output):Av ρ μ h w μ (h.set b none) w':=by
 have v:∀c q s A,(h.set b none).get c=some q->μ c=some (s,A)->h.get c=some q/\s≠r:=fun c q s A hc j=>by
  rw [Ak.Bb]at hc
  split at hc
  ·cases hc
  ·rename_i C
   exact ⟨hc,fun e=>C (H.inj _ _ _ _ _ _ _ hc hb j (e▸M))⟩
 have x:∀s,s<w.heap.size->¬AJ μ h s->w'.heap[s]?=w.heap[s]?/\¬AJ μ (h.set b none) s:=fun s hs L=>by
  refine ⟨J s fun e=>L ⟨b,I,δ,hb,e▸M⟩,?_⟩
  rintro ⟨c,q,A,hc,j⟩
  exact L ⟨c,q,A,(v _ _ _ _ hc j).1,j⟩
 refine ⟨μ.le_refl,⟨fun c hc=>H.fresh c hc,fun c q hc=>?_,fun c V Y Z s X U P O m1 m2=>?_,H.Ga x⟩,by omega,x,N,B,Nat.le_refl _,fun _ _=>rfl,fun _ _ h=>.inl h,rfl⟩
 ·have z:=hc
  rw [Ak.Bb]at z
  split at z
  ·cases z
  ·obtain ⟨s,A,j,Q⟩:=H.blk c q z
   exact ⟨s,A,j,by rw [J s (v _ _ _ _ hc j).2];exact Q⟩
 ·exact H.inj _ _ _ _ _ _ _ (v _ _ _ _ P m1).1 (v _ _ _ _ O m2).1 m1 m2
theorem Rm (w:World) (r i n:Nat) (j:i≠r):(w.freeze ⟨r,0,none⟩ n).heap[i]?=w.heap[i]?:=by
 unfold World.freeze
 split
 ·rfl
 ·simp only [Array.getElem?_modify]
  rw [if_neg (Ne.symm j)]
theorem Tb (w:World) (p:Addr) (n:Nat):(w.freeze p n).heap.size=w.heap.size:=by
 unfold World.freeze
 split<;>simp
theorem Ph (w:World) (p:Addr) (n:Nat):(w.freeze p n).os=w.os/\(w.freeze p n).output=w.output:=by
 unfold World.freeze
 split<;>exact ⟨rfl,rfl⟩
theorem Ym {o:Oper} {c:Call} {pt it e:TypeId} {p n:Operand} (ho:o.op=.call c) (au:c.callee=.builtin .unsafeString) (af:c.args=#[p,n]) (ap:c.argTypes=#[pt,it])
  (H:AI ρ μ h w) (hT:AT ρ μ tm a) (hp:P.underlying pt=some (.pointer e)) (hc:P.cellsOf e=1) {r:GN} (B:YK h e (ev tm (AD p)) (ev tm (AD n))=some r):Ex P ρ μ h a o w r:=by
 have Z:=Au hT p
 have hy:=Au hT n
 have run:∀{v:Value} {wf:World},(Builtin.unsafeString_ #[pt,it] o.type #[a.eval p,a.eval n]).run P w=.ok v wf->(execOp a.eval o).run P w=.ok (.value v) wf:=fun {v wf} N=>by
  simp [execOp,ho,resolve,au,af,ap,invoke,builtin,N]
 unfold YK at B
 split at B
 ·rename_i e1 e2
  rw [e1]at Z
  rw [e2]at hy
  have f1:a.eval p=.pointer none:=by simpa only [Ag]using Z
  have f2:a.eval n=.int .i64 0:=by have:=hy.int;simpa [ST.den]using this
  simp only [oI]at B
  subst B
  refine ⟨.value (.string .empty),.string .empty,w,μ,run ?_,.inl rfl,Av.refl H,by simp only [Ag];exact ⟨_,rfl,rfl⟩⟩
  rw [f1,f2]
  exact Lib.run_unsafeString_none w pt it o.type none
 ·rename_i b k e1 e2
  rw [e1]at Z
  rw [e2]at hy
  obtain ⟨ad,O⟩:=Aq B
  clear B
  have ad:=Ao.1 ad
  subst ad
  obtain ⟨nn,blk,z,rfl,M,m1,L,J,A,X,V,aa,R,Y,U⟩:∃(nn:Nat) (blk:Block),h.get b=some blk/\r=.val (.anyStr nn) (h.set b none)/\∃M m1 L,μ b=some (M,0,m1)/\w.heap[M]?=some (.cells L e (0,0))/\1<=BE m1/\BE m1<=nn/\nn<=1048576/\BE m1<=BL m1/\BL m1<=L.size/\∀i,i<BL m1->∃x:UInt8,L[i]?=some (.int .u8 x.toNat):=by
   unfold Aef at O
   split at O
   ·rename_i sm Q
    obtain ⟨C,B⟩:=Aq O
    have C:=Ao.1 C
    simp only [oI]at B
    have z:h.get b=some (.sbytes sm.1 sm.2):=by
     unfold Ho at Q
     split at Q
     ·rename_i t' e' hb
      simp only [oI]at Q
      rw [hb,<-Q]
     ·cases Q
    rw [C]at z
    obtain ⟨M,⟨δ1,m1⟩,J,L,A,h0,X,V,aa,R,Y,U⟩:=H.blk b _ z
    have h0:δ1=0:=h0
    subst h0
    have V:(BE m1:Int)<=sm.1.den ρ:=V
    exact ⟨1048576,_,z,B.symm,M,m1,L,J,A,X,by omega,Nat.le_refl _,R,Y,U⟩
   ·obtain ⟨m,hm,ah⟩:=Ac O
    unfold Aeg at ah
    obtain ⟨C,B⟩:=Aq ah
    have C:=Ao.1 C
    simp only [oI]at B
    have z:=JR hm
    rw [C]at z
    obtain ⟨M,m1,L,J,A,X,V,aa,R,Y,U⟩:=H.bytes z
    exact ⟨m.1,_,z,B.symm,M,m1,L,J,A,X,V,aa,R,Y,U⟩
  clear O
  obtain ⟨r2,δ2,m2,ac,f1⟩:=Z.ptr
  rw [J]at ac
  simp only [oI,Prod.mk.injEq]at ac
  obtain ⟨rfl,rfl,rfl⟩:=ac
  obtain ⟨r3,m3,ab,f2⟩:=hy.glen
  rw [J]at ab
  simp only [oI,Prod.mk.injEq,true_and]at ab
  obtain ⟨rfl,rfl⟩:=ab
  obtain ⟨l,hl1,hl2⟩:∃l:List UInt8,l.length=BE m1/\∀(j:Nat) (x:UInt8),l[j]?=some x->L[j]?=some (Value.int .u8 (x.toNat:Int)):=by
   have:∀q,q<=BL m1->∃l:List UInt8,l.length=q/\∀(j:Nat) (x:UInt8),l[j]?=some x->L[j]?=some (Value.int .u8 (x.toNat:Int)):=fun q=>by
    induction q with
    |zero=>exact fun _=>⟨[],rfl,fun j x I=>by simp at I⟩
    |succ q ih=>
     intro hq
     obtain ⟨l,h1,h2⟩:=ih (by omega)
     obtain ⟨x,Z⟩:=U q (by omega)
     refine ⟨l++[x],by simp [h1],fun j y I=>?_⟩
     rw [List.getElem?_append]at I
     split at I
     ·exact h2 j y I
     ·rename_i aF
      have av:j=q:=by
       have:=(List.getElem?_eq_some_iff.1 I).1
       simp at this;omega
      subst av
      rw [h1]at I
      simp at I
      subst I
      exact Z
   exact this _ R
  have N:=Lib.run_unsafeString_row (P:=P) w pt it o.type e hp hc M L.size (by simp [World.shape?,A]) l (by rintro rfl;simp at hl1;omega) (by omega) (by omega) (fun j x I=>by
   rw [Addr.AY,Ci A,Nat.zero_add]
   exact hl2 j x I)
  rw [hl1]at N
  have hg:Av ρ μ h w μ (h.set b none) (w.freeze ⟨M,0,none⟩ (BE m1)):=Av.lost H z J (fun i hi=>Rm w M i _ hi) (Tb w _ _) (Ph w _ _).1 (Ph w _ _).2
  refine ⟨.value (.string ⟨l.toArray⟩),_,_,μ,run ?_,.inl rfl,hg,?_⟩
  ·rw [f1,f2];exact N
  ·simp only [Ag]
   exact ⟨_,rfl,by simp [ByteArray.size,hl1];omega,by simp [ByteArray.size,hl1];omega⟩
 ·cases B
end
end
section
section
variable {P:Program} {Γ:Ap} {ρ:Env} {μ:As} {tm:Tr Aa} {a:Act} {w:World} {h:Ak}
theorem GQ.one {AU:Nat->Option Obj} {p:PV} {v:Value} (h:GQ AU p v):v.oneCell'=true:=by
 cases p<;>simp only [GQ]at h
 case bool|int|nilp=>subst h;rfl
 case str=>obtain ⟨_,rfl,_⟩:=h;rfl
 case list=>
  obtain ⟨_,_,⟨_,_,rfl⟩|⟨_,_,_,_,rfl,_⟩⟩:=h<;>rfl
theorem AK.one {AU:Nat->Option Obj} {c:Array Value}:∀{ps:List PV} {δ:Nat},AK AU c δ ps->∀k v,k<ps.length->c[δ+k]?=some v->v.oneCell'=true
 |[],_,_,k,v,hk,_=>by simp at hk
 |p::ps,δ,h,k,v,hk,hv=>by
  simp only [AK]at h
  obtain ⟨⟨u,q,j⟩,x⟩:=h
  cases k with
  |zero=>
   rw [Nat.add_zero,q]at hv
   simp only [oI]at hv
   subst hv
   exact j.one
  |succ k=>exact AK.one x k v (by simpa using hk) (by rw [show δ+1+k=δ+(k+1) by omega];exact hv)
theorem QI (H:AI ρ μ h w) {f:Bool} {i z:Nat} {t:ST} {u:Value} (R:Ag ρ μ (.lst f i z t) u):
  (Builtin.lenOf u).run P w=.ok (ρ.lst i).length w/\∃L:Array Value,(Builtin.firstCells z (ρ.lst i).length u).run P w=.ok L w/\AK μ.AU L 0 (ρ.lst i).flatten/\((ρ.lst i).length≠0->(∀p∈ρ.lst i,p.length=z)/\L.size=(ρ.lst i).length*z):=by
 obtain ⟨p,c,rfl,_,_,Q⟩:=R.D7
 refine ⟨by simp [Builtin.lenOf],?_⟩
 by_cases hz:(ρ.lst i).length=0
 ·have I:ρ.lst i=[]:=List.eq_nil_of_length_eq_zero hz
  refine ⟨#[],?_,by rw [I];simp only [List.flatten_nil,AK],fun h=>absurd hz h⟩
  rw [hz]
  cases p<;>simp [Builtin.firstCells,loadCells,loadCellsFrom]
 ·obtain ⟨r,δ,a,e,rfl,C,U⟩:=Q hz
  obtain ⟨_,C⟩:=C
  have N:=(H.AO.AU _ _ C).1
  have x:=Bx.1 U
  obtain ⟨l,A,M,J⟩:=x.2.values
  have B:=BB x.1
  have O:=run_loadCells_list (P:=P) (w:=w) ⟨r,δ,none⟩ l (fun j v X=>by
   rw [Addr.AY]
   show w.cell? _=_
   rw [Ci N];exact M j v X)
  rw [A,B]at O
  refine ⟨l.toArray,by simp [Builtin.firstCells,O],AK.congr (fun q V=>?_) x.2,fun _=>⟨x.1,by simp [A,B]⟩⟩
  have:=J q V
  simpa using this.symm
theorem Bu.split:∀{p q:List AE} {l:List (List PV)},Bu ρ (p++q) l->∃x y,l=x++y/\Bu ρ p x/\Bu ρ q y
 |[],q,l,h=>⟨[],l,rfl,rfl,h⟩
 |z::p,q,l,h=>by
  obtain ⟨x,y,rfl,B,v⟩:=h
  obtain ⟨j,H,rfl,C,A⟩:=Bu.split v
  exact ⟨x++j,H,(List.append_assoc _ _ _).symm,⟨x,j,rfl,B,C⟩,A⟩
theorem Bu.single {p:AE} {l:List (List PV)} (h:Bu ρ [p] l):F3 ρ p l:=by
 obtain ⟨x,y,rfl,q,j⟩:=h
 have j:y=[]:=j
 subst j
 rw [List.append_nil];exact q
theorem U4 {y:Aa} {bytes:Bool} {l:Nat×Nat×ST} (h:Wx y bytes=some l):∃f,y=.lst f l.1 l.2.1 l.2.2:=by
 unfold Wx at h
 split at h
 ·cases h
 ·simp only [oI]at h
  subst h
  exact ⟨_,rfl⟩
 ·cases h
theorem R5 {o:Oper} {c:Call} {t u e:TypeId} {d:TypeDesc} {x y:Operand} (ho:o.op=.call c) (aI:c.callee=.builtin .append) (ax:c.args=#[x,y]) (aP:c.argTypes=#[t,u])
  (H:AI ρ μ h w) (hT:AT ρ μ tm a) (ht:P.underlying t=some (.slice e)) (hu:P.underlying u=some d) (hd:Ey d) {i:TypeInfo} (hi:P.info? e=some i) (hb:i.bytes<=1048576) (hz:(i.zero.map fun v=>Nat.beq v.cells.size i.size).getD false=true)
  {bytes:Bool} {l:Nat×Nat×ST} (hs:Wx (ev tm (AD y)) bytes=some l) {r:Aa×Ak} (hr:LC h i.size (ev tm (AD x)) l.1 l.2.1 l.2.2=some r):Ex P ρ μ h a o w (.val r.1 r.2):=by
 have hx:=Au hT x
 have hy:=Au hT y
 obtain ⟨z,hz,hzs⟩:∃z,i.zero=some z/\z.cells.size=i.size:=by
  cases e:i.zero with
  |none=>rw [e]at hz;simp at hz
  |some z=>rw [e]at hz;exact ⟨z,rfl,Ao.1 (by simpa using hz)⟩
 obtain ⟨li,es,nt⟩:=l
 obtain ⟨f,e0⟩:=U4 hs
 have e0:ev tm (AD y)=.lst f li es nt:=e0
 rw [e0]at hy
 have hr:LC h i.size (ev tm (AD x)) li es nt=some r:=hr
 unfold LC at hr
 by_cases hg:(Nat.beq i.size es&&C0 h.fx .gtr nt (.lit (.ofNat 0)))=false
 ·
  rw [hg]at hr
  obtain ⟨hc,au⟩:=Aq (show (bif Nat.beq i.size es&&C0 h.fx .leq nt (.lit (.ofNat 0))then LB (ev tm (AD x)) h else none)=some r from hr)
  rw [aT,Ao]at hc
  obtain ⟨U,ah⟩:=hc
  have Y:(ρ.lst li).length=0:=by
   have h1:=ES H.AO.facts ah
   have h2:nt.den ρ=((ρ.lst li).length:Int):=hy.lst.2.1
   simp only [ST.den,Int.ofNat_eq_natCast]at h1
   omega
  obtain ⟨q,c',M,_,_⟩:=hy.D7
  refine Ea ho aI ax aP H hT ht hu hd hi hb (by rw [hz];exact Ao.2 hzs) (n:=0) (new:=[]) (fun w' _=>⟨?_,by simp,#[],?_,by simp [Aw]⟩) (r:=r) (by unfold GA;rw [AH,if_pos rfl];exact au)
  ·rw [M];simp [Builtin.lenOf,Y]
  ·rw [M,Y];cases q<;>simp [Builtin.firstCells,loadCells,loadCellsFrom]
 rw [Bool.not_eq_false]at hg
 rw [hg]at hr
 obtain ⟨_,au⟩:=Aq (c:=true) hr
 have hc:=hg
 obtain ⟨p,A,bh⟩:=Ac au
 obtain ⟨j,hj,a6⟩:=Ac bh
 obtain ⟨tt,bK,bb⟩:=Ac a6
 obtain ⟨ah,C⟩:=Aq bb
 simp only [oI]at C
 clear hr au bh a6 bb
 rw [aT,Ao]at hc
 obtain ⟨U,bE⟩:=hc
 have hΓ:=H.AO.facts
 have b2:nt.den ρ=((ρ.lst li).length:Int):=hy.lst.2.1
 have bz:0<(ρ.lst li).length:=by
  have:=UK hΓ bE
  simp only [ST.den,Int.ofNat_eq_natCast]at this
  omega
 have ce:tt.den ρ<=1048576:=by
  have:=ES hΓ ah
  simpa [ST.den]using this
 have bf:tt.den ρ=((ρ.lst j).length:Int):=hΓ.Bc _ (Cy bK)
 obtain ⟨N,Y0,a5,Q,bg⟩:=Bu.split (hΓ.defs _ (EI hj))
 have bO:Y0=ρ.lst li:=Bu.single bg
 clear bg
 subst bO
 have ej:ρ.lst j=N++ρ.lst li:=a5
 clear a5
 subst U
 obtain ⟨aD,L,hL,aH,bm⟩:=QI (P:=P) H hy
 obtain ⟨af,bj⟩:=bm (by omega)
 obtain ⟨_,L',a8,aC,aM⟩:=QI (P:=P) H.drew hy
 obtain ⟨_,aO⟩:=aM (by omega)
 clear bm aM
 generalize hBg:ρ.lst li=B at bz b2 ej aD hL aH af bj a8 aC aO
 have bP:(sizeOf e).run P w=.ok i.size w:=by simp [sizeOf,typeInfo,hi]
 have run:∀{v:Value} {wf:World},(Builtin.append_ #[t,u] o.type #[a.eval x,a.eval y]).run P w=.ok v wf->(execOp a.eval o).run P w=.ok (.value v) wf:=fun {v wf} aq=>by
  simp [execOp,ho,resolve,aI,ax,aP,invoke,builtin,aq]
 have J:∀(ap:Option Addr) (len cap:Nat) (h1:Ak) (X:List (List PV)) (O:Array Value),a.eval x=.slice ap len cap->cap<len+B.length->Av ρ μ h w μ h1 w->N=X->X.length=len->(∀p∈X,p.length=i.size)->
   (Builtin.firstCells i.size len (.slice ap len cap)).run P w.drew=.ok O w.drew->O.size=len*i.size->AK μ.AU O 0 X.flatten->r=(.vec h1.next i.size tt,h1.add (.list j i.size))->Ex P ρ μ h a o w (.val r.1 r.2):=fun ap len cap h1 X O Z bR aE b3 aw ac V bW hX er=>by
  subst er
  subst b3
  have ad:(ρ.lst j).length=len+B.length:=by rw [ej,lA];omega
  obtain ⟨nc,rest,a7,aU,_,aq⟩:=DG (P:=P) (ty:=o.type) (O:=O) (L:=L') ht hu hd hi hz aD bR V a8 hb (by omega)
  have bG:(O++L'++rest).size=nc*i.size:=by
   simp only [Array.size_append,bW,aO,aU,hzs]
   rw [<-Nat.add_mul,<-Nat.add_mul]
   congr 1;omega
  have cg:N.flatten.length=len*i.size:=by rw [BB ac,aw]
  have bM:B.flatten.length=B.length*i.size:=BB af
  have ak:BG μ.AU i.size (O++L'++rest) 0 (ρ.lst j):=by
   rw [Bx]
   refine ⟨fun p A=>?_,?_⟩
   ·rw [ej,List.mem_append]at A
    exact A.elim (ac p) (af p)
   ·rw [ej,List.flatten_append,AK.append_iff]
    refine ⟨AK.congr (fun k hk=>?_) hX,AK.congr (fun k hk=>?_) aC⟩
    ·rw [Array.append_assoc,Array.getElem?_append_left (by omega)]
    ·rw [Array.append_assoc,Array.getElem?_append_right (by omega),Array.getElem?_append_left (by omega)]
     congr 1;omega
  have bB:=Av.add aE.rel.drew (.list j i.size) (.cells (O++L'++rest) e) (0,NY (len+B.length) nc) (fun μ' ah=>by
   refine ⟨_,e,rfl,rfl,?_,?_,?_,?_,BG.mono ah.AU ak⟩
   ·rw [Bs (by omega)];omega
   ·rw [Bs (by omega)];omega
   ·rw [Bs (by omega),BF (by omega)];exact a7
   ·rw [BF (by omega),bG];exact Nat.le_refl _)
  refine ⟨.value _,_,_,_,run (by rw [Z];exact aq),.inl rfl,(aE.trans (Av.drew aE.rel)).trans bB,?_⟩
  simp only [Ag]
  refine ⟨_,_,len+B.length,As.BD _ _ _,?_,?_,?_,?_⟩
  ·rw [BF (by omega)]
  ·rw [bf,ad]
  ·rw [Bs (by omega)];exact Nat.le_refl _
  ·rw [Bs (by omega),BF (by omega)];exact a7
 unfold P3 at A
 split at A
 ·
  rename_i Z
  simp only [oI]at A
  subst A
  have Q:N=[]:=Q
  rw [Z]at hx C
  have M:a.eval x=.slice none 0 0:=by simpa only [Ag]using hx
  exact J none 0 0 h [] #[] M (by omega) (Av.refl H) Q rfl (fun _ R=>by cases R) (by simp [Builtin.firstCells]) (by simp) (by simp only [List.flatten_nil,AK]) C.symm
 ·
  rename_i b cj len cap Z
  obtain ⟨aN,ba⟩:=Aq A
  clear A
  have bl:=Ao.1 aN
  clear aN
  subst bl
  have A:=ba
  clear ba
  have bY:=hx
  rw [Z]at hx C
  obtain ⟨r0,δ,m,hm,M,_⟩:=hx.slice
  rw [AH]at A
  split at A
  ·rename_i aK
   subst aK
   simp only [oI]at A
   subst A
   have Q:N=[]:=Q
   exact J _ 0 0 h [] #[] M (by omega) (Av.refl H) Q rfl (fun _ R=>by cases R) (by simp [Builtin.firstCells,loadCells,loadCellsFrom]) (by simp) (by simp only [List.flatten_nil,AK]) C.symm
  ·rename_i aK
   obtain ⟨s,aJ,A⟩:=Ac A
   obtain ⟨b8,A⟩:=Aq A
   obtain ⟨cs,bk,A⟩:=Ac A
   simp only [oI]at A
   subst A
   have ab:DQ ρ cs N:=Bu.single Q
   obtain ⟨c1,c2,c3⟩:=DA bk
   obtain ⟨f1,f2,f3⟩:=DQ.flat ab
   have bV:Jn h i.size false (ev tm (AD x))=some s:=by rw [Z];exact aJ
   obtain ⟨_,aY,O,V,av⟩:=De (P:=P) (w:=w.drew) H.drew bY (n:=s.1) (cs:=s.2) bV
   have bL:s.1=len:=by
    have I:=aJ
    unfold LW at I
    rw [AH,if_neg aK]at I
    obtain ⟨_,_,I⟩:=Ac I
    obtain ⟨_,_,I⟩:=Ac I
    simp only [oI]at I;rw [<-I]
   rw [bL]at aY V
   rw [M]at V
   rw [c1]at f1
   refine J _ _ _ h N O M (by omega) (Av.refl H) rfl (by omega) (f3 _ c3) V ?_ ?_ C.symm
   ·have:=av.length;simp at this;omega
   ·exact Aw.freeze f1 av fun q v hv=>by simpa using hv
 ·
  rename_i k a4 m Z
  obtain ⟨U,A⟩:=Aq A
  simp only [oI]at A
  subst A
  have U:=Ao.1 U
  subst U
  have ab:N=ρ.lst k:=Bu.single Q
  rw [Z]at hx C
  obtain ⟨_,_,a2⟩:=hx.lst
  obtain ⟨q,M⟩:=a2 rfl
  obtain ⟨_,O,V,b0,b1⟩:=QI (P:=P) H.drew hx
  rw [M]at V
  by_cases Y:(ρ.lst k).length=0
  ·have aL:ρ.lst k=[]:=List.eq_nil_of_length_eq_zero Y
   refine J _ _ _ h (ρ.lst k) #[] M (by omega) (Av.refl H) ab rfl (fun q R=>by rw [aL]at R;cases R) ?_ (by simp [Y]) (by rw [aL];simp only [List.flatten_nil,AK]) C.symm
   rw [Y]
   cases q<;>simp [Builtin.firstCells,loadCells,loadCellsFrom]
  ·obtain ⟨h2,h3⟩:=b1 Y
   exact J _ _ _ h (ρ.lst k) O M (by omega) (Av.refl H) ab rfl h2 V h3 b0 C.symm
 ·
  rename_i b a4 m Z
  obtain ⟨⟨bi,bX⟩,a9,A⟩:=Ac A
  obtain ⟨bo,A⟩:=Aq A
  simp only [oI]at A
  subst A
  rw [aT,Ao,Ao]at bo
  obtain ⟨U,an⟩:=bo
  have an:bX=a4:=an
  subst an
  subst U
  have ab:F3 ρ (.take bi m) N:=Bu.single Q
  rw [Z]at hx C
  have C:(Aa.vec h.next i.size tt,(h.set b none).add (.list j i.size))=r:=C
  obtain ⟨r0,m0,k,hm,M,hk,ci,bl⟩:=hx.vec
  obtain ⟨r1,⟨δ1,m1⟩,aQ,c0,ty,al,h0,h1,h2,h3,h4,h5⟩:=H.blk b _ (CY a9)
  rw [hm]at aQ
  simp only [oI,Prod.mk.injEq]at aQ
  obtain ⟨rfl,rfl,rfl⟩:=aQ
  have h1:(ρ.lst bi).length<=BE m0:=h1
  have h4:BL m0*i.size<=c0.size:=h4
  have h5:BG μ.AU i.size c0 0 (ρ.lst bi):=h5
  obtain ⟨_,bc,ai⟩:=ab
  have bc:k<=(ρ.lst bi).length:=by rw [hk]at bc;omega
  have ai:N=(ρ.lst bi).take k:=by rw [ai,hk];rfl
  have ac:∀p∈N,p.length=i.size:=fun p A=>(Bx.1 h5).1 p (List.mem_of_mem_take (by rw [ai]at A;exact A))
  have aw:N.length=k:=by rw [ai,lT'];omega
  have hX:AK μ.AU c0 0 N.flatten:=by
   have:=(Bx.1 h5).2
   rw [<-List.take_append_drop k (ρ.lst bi),List.flatten_append,AK.append_iff]at this
   rw [ai];exact this.1
  have bn:N.flatten.length=k*i.size:=by rw [BB ac,aw]
  by_cases hfit:k+B.length<=BL m0
  ·
   have ad:(ρ.lst j).length=k+B.length:=by rw [ej,lA];omega
   have bC:(k+B.length)*i.size<=BL m0*i.size:=Nat.mul_le_mul_right _ hfit
   rw [Nat.add_mul]at bC
   have bM:B.flatten.length=B.length*i.size:=BB af
   have co:L.toList.length=B.length*i.size:=by simpa using bj
   have bv:∀v∈L.toList,v.oneCell'=true:=fun v hv=>by
    obtain ⟨q,R⟩:=List.mem_iff_getElem?.1 hv
    have cf:=(List.getElem?_eq_some_iff.1 R).1
    exact aH.one q v (by omega) (by rw [Nat.zero_add,<-Array.getElem?_toList];exact R)
   obtain ⟨c',bN,bk,a3⟩:=DF (P:=P) L.toList al (p:=k*i.size) (by omega) bv
   have ak:BG μ.AU i.size c' 0 (ρ.lst j):=by
    rw [Bx]
    refine ⟨fun p A=>?_,?_⟩
    ·rw [ej,List.mem_append]at A
     exact A.elim (ac p) (af p)
    ·rw [ej,List.flatten_append,AK.append_iff]
     refine ⟨AK.congr (fun q R=>?_) hX,AK.congr (fun q R=>?_) aH⟩
     ·rw [a3,if_neg (by omega)]
     ·rw [a3,if_pos (by omega),<-Array.getElem?_toList]
      congr 1;omega
   have b4:=Av.WA (w':=w.setRow r0 c') H (CY a9) hm (.list j i.size) (0,NY (k+B.length) (BL m0)) (fun i hi=>setRow_other _ _ _ _ hi) (by simp) rfl rfl (fun μ' bt=>by
    rw [Ej _ _ _ _ _ _ al]
    refine ⟨c',ty,rfl,rfl,?_,?_,?_,?_,BG.mono bt.AU ak⟩
    ·rw [Bs (by omega)];omega
    ·rw [Bs (by omega)];omega
    ·rw [Bs (by omega),BF (by omega)];exact hfit
    ·rw [BF (by omega)];omega)
   subst C
   refine ⟨.value _,_,_,_,run (v:=.slice (some ⟨r0,0,none⟩) (k+B.length) (BL m0)) ?_,.inl rfl,b4,?_⟩
   ·rw [M]
    refine Cm ht hu hd bP aD hfit hL ?_
    simp only [Addr.AY,Nat.zero_add]
    exact bN
   ·simp only [Ag]
    refine ⟨_,_,k+B.length,As.BD _ _ _,?_,?_,?_,?_⟩
    ·rw [BF (by omega)]
    ·rw [bf,ad]
    ·rw [Bs (by omega)];exact Nat.le_refl _
    ·rw [Bs (by omega),BF (by omega)];exact hfit
  ·
   obtain ⟨l,be,bx,bF⟩:=hX.values
   have V:=run_loadCells_list (P:=P) (w:=w.drew) ⟨r0,0,none⟩ l (fun j v hv=>by
    rw [Addr.AY]
    show w.cell? _=_
    rw [Ci al];exact bx j v hv)
   rw [be,bn]at V
   refine J _ _ _ (h.set b none) N l.toArray M (by omega) (Av.drop H b) rfl aw ac (by simp [Builtin.firstCells,V]) (by simp [be,bn]) (AK.congr (fun q R=>?_) hX) ?_
   ·have:=bF q R
    simpa using this.symm
   ·rw [<-C];rfl
 ·cases A
end
end
section
theorem Ih (b off len es j:Nat) (v:Aa) (r:List Aa):L0 b off len es j (v::r)=Vd b off len es j v::L0 b off len es j r:=rfl
theorem MN {b off len es j:Nat}:∀{l:List Aa} {i:Nat},(L0 b off len es j l)[i]?=(l[i]?).map (Vd b off len es j)
 |[],i=>by show ([]:List Aa)[i]?=_;simp
 |v::r,i=>by
  rw [Ih]
  cases i with
  |zero=>simp
  |succ i=>simpa using MN (l:=r) (i:=i)
def As.Eb (μ:As) (r:Nat) (o:Option Obj):As:=⟨μ.spot,fun g=>if g=r then o else μ.AU g⟩
section
variable {ρ:Env} {μ:As} {w:World} {h:Ak} {b off len es j:Nat}
theorem As.J6 {r:Nat} {o:Option Obj} (j:∀x,μ.AU r=some x->o=some x):μ.le (μ.Eb r o):=
 ⟨fun _ _ e=>e,fun g x e=>by
  show (if g=r then o else μ.AU g)=some x
  by_cases hg:g=r
  ·subst hg;rw [if_pos rfl];exact j x e
  ·rw [if_neg hg];exact e⟩
structure Frz (ρ:Env) (μ:As) (b off len es j r δ m:Nat) (c:Array Value) (e:TypeId):Prop where
 spot:μ b=some (r,δ,m)
 len:(ρ.lst j).length=len
 AU:μ.AU r=some (.cells c e (0,0))
 rep:BG μ.AU es c (δ+off) (ρ.lst j)
theorem Hx {r δ m:Nat} {c:Array Value} {e:TypeId} (F:Frz ρ μ b off len es j r δ m c e) {v:Aa} {u:Value} (A:Ag ρ μ v u):Ag ρ μ (Vd b off len es j v) u/\(Vd b off len es j v).single=v.single:=by
 have key:∀(cap:Nat),u=.slice (some ⟨r,δ+off,none⟩) len cap->len<=cap->Ag ρ μ (.lst false j es (.lit (.ofNat len))) u:=fun cap L hc=>by
  simp only [Ag,GQ]
  refine ⟨⟨cap,by rw [F.len];exact hc,.inr ⟨r,δ+off,c,e,by rw [F.len];exact L,⟨_,F.AU⟩,F.rep⟩⟩,?_,fun e=>by cases e⟩
  rw [F.len];rfl
 unfold Vd
 split
 ·rename_i H q z cap
  cases hc:Nat.beq b H&&(Nat.beq off q&&Nat.beq len z)with
  |false=>exact ⟨A,rfl⟩
  |true=>
   rw [aT,aT,Ao,Ao,Ao]at hc
   obtain ⟨rfl,rfl,rfl⟩:=hc
   obtain ⟨J,M,N,x,B,C⟩:=A.slice
   rw [F.spot]at x
   simp only [oI,Prod.mk.injEq]at x
   obtain ⟨rfl,rfl,rfl⟩:=x
   refine ⟨?_,rfl⟩
   have I:=key cap B C
   simp only [Ag]at I⊢
   obtain ⟨O,P,_⟩:=I
   refine ⟨O,P,fun e=>?_⟩
   have e:=Ao.1 e
   exact ⟨_,by rw [F.len];rw [B,e]⟩
 ·rename_i H q z Q
  cases hc:Nat.beq b H&&(Nat.beq off q&&Nat.beq len z)with
  |false=>exact ⟨A,rfl⟩
  |true=>
   rw [aT,aT,Ao,Ao,Ao]at hc
   obtain ⟨rfl,rfl,rfl⟩:=hc
   obtain ⟨J,M,N,cap,x,B,C,_⟩:=A.gslice
   rw [F.spot]at x
   simp only [oI,Prod.mk.injEq]at x
   obtain ⟨rfl,rfl,rfl⟩:=x
   exact ⟨key cap B C,rfl⟩
 ·exact ⟨A,rfl⟩
theorem Rj {r δ m:Nat} {c:Array Value} {e:TypeId} (F:Frz ρ μ b off len es j r δ m c e):∀{l:List Aa} {us:List Value},Aw ρ μ l us->Aw ρ μ (L0 b off len es j l) us
 |[],us,h=>h
 |v::l,us,h=>by
  rw [Ih]
  simp only [Aw]at h⊢
  obtain ⟨u,rest,rfl,⟨A,z⟩,B⟩:=h
  obtain ⟨q,x⟩:=Hx F z
  exact ⟨u,rest,rfl,⟨by rw [x];exact A,q⟩,Rj F B⟩
theorem Fq {o:Option Bool}:CN o=true↔o=some true:=by
 unfold CN
 split
 ·simp
 ·rename_i h
  constructor
  ·intro e;cases e
  ·intro e;exact absurd e h
theorem MM {Γ:Ap} (hΓ:Γ.AG ρ) {vs:List Aa} (L:Pg Γ off len es j vs=true):∃cs,cut vs off (len*es)=some cs/\(ρ.lst j).length=len/\(∀p∈ρ.lst j,p.length=es)/\C9 ρ (CG cs) (ρ.lst j).flatten:=by
 unfold Pg at L
 obtain ⟨cs,I,z⟩:=Ac (Fq.1 L)
 obtain ⟨_,J⟩:=Aq z
 obtain ⟨E,N,C⟩:=Ac J
 obtain ⟨j',H,q⟩:=Ac C
 simp only [oI]at q
 have q:=Ao.1 q
 subst q
 obtain ⟨R,U,O⟩:=DA N
 obtain ⟨A,B,v,Q,x⟩:=hΓ.defs _ (EI H)
 have x:B=[]:=x
 subst x
 rw [List.append_nil]at v
 have v:ρ.lst j'=A:=v
 subst v
 obtain ⟨M,V,P⟩:=DQ.flat Q
 exact ⟨cs,I,by omega,P es O,by rw [R]at M;exact M⟩
theorem Nk {vs cs:List Aa} {c:Array Value} {δ n:Nat} (hc:∀(i:Nat) (x:Aa),vs[i]?=some x->∃v,c[δ+i]?=some v/\x.single=true/\Ag ρ μ x v) (j:cut vs off n=some cs) {ps:List PV} (hd:C9 ρ (CG cs) ps):AK μ.AU c (δ+off) ps:=by
 obtain ⟨l,B,z,A⟩:=D9 hc j
 exact Aw.freeze hd z fun i v q=>A i v q
theorem Yn (H:AI ρ μ h w) {X:Block} {r:Nat} {Q:Nat×Nat} (hb:h.get b=some X) (U:μ b=some (r,Q)):
  AI ρ (μ.Eb r w.heap[r]?) (h.set b none) w/\Av ρ μ h w (μ.Eb r w.heap[r]?) (h.set b none) w:=by
 have A:AJ μ h r:=⟨b,_,Q,hb,U⟩
 have M:∀x,μ.AU r=some x->w.heap[r]?=some x:=fun x Y=>absurd A (H.AO.AU r x Y).2
 have J:μ.le (μ.Eb r w.heap[r]?):=As.J6 M
 have z:∀d B,(h.set b none).get d=some B->h.get d=some B/\d≠b:=fun d B hd=>by
  have hd:(Tr.set h.DD b none).get d=some B:=hd
  rw [Tr.Bb]at hd
  by_cases e:d=b
  ·rw [if_pos e]at hd;cases hd
  ·rw [if_neg e]at hd;exact ⟨hd,e⟩
 have v:∀s,AJ (μ.Eb r w.heap[r]?) (h.set b none) s->AJ μ h s/\s≠r:=fun s ⟨d,B,x,O,C⟩=>by
  obtain ⟨I,P⟩:=z d B O
  exact ⟨⟨d,B,x,I,C⟩,fun e=>P (H.inj _ _ _ _ _ _ _ I hb C (e▸U))⟩
 have R:AI ρ (μ.Eb r w.heap[r]?) (h.set b none) w:=by
  refine ⟨fun d hd=>H.fresh d hd,fun d B hd=>?_,fun d d' B B' s x x' O C m1 m2=>?_,⟨fun g o j=>?_,fun g o j=>?_,H.AO.facts⟩⟩
  ·obtain ⟨I,P⟩:=z d B hd
   obtain ⟨s,x,Z,V⟩:=H.blk d B I
   exact ⟨s,x,Z,V.mono J⟩
  ·exact H.inj _ _ _ _ _ _ _ (z _ _ O).1 (z _ _ C).1 m1 m2
  ·obtain ⟨N,L⟩:=H.AO.AO g o j
   exact ⟨N,fun e=>L (v g e).1⟩
  ·have j:(if g=r then w.heap[r]? else μ.AU g)=some o:=j
   by_cases e:g=r
   ·subst e
    rw [if_pos rfl]at j
    exact ⟨j,fun q=>(v _ q).2 rfl⟩
   ·rw [if_neg e]at j
    obtain ⟨N,L⟩:=H.AO.AU g o j
    exact ⟨N,fun q=>L (v g q).1⟩
 refine ⟨R,⟨J,R,Nat.le_refl _,fun s _ hs=>⟨rfl,fun q=>hs (v s q).1⟩,rfl,rfl,Nat.le_refl _,fun _ _=>rfl,fun g o j=>?_,rfl⟩⟩
 have j:(if g=r then w.heap[r]? else μ.AU g)=some o:=j
 by_cases e:g=r
 ·subst e;exact .inr (.inl A)
 ·rw [if_neg e]at j;exact .inl j
theorem Ns (H:AI ρ μ h w) (z:Nat×Nat×Nat×Nat×Nat) (new:List Aa):
  ∃q,AI ρ q (EY h z new).1 w/\Av ρ μ h w q (EY h z new).1 w/\∀us,Aw ρ μ new us->Aw ρ q (EY h z new).2 us:=by
 have same:∃q,AI ρ q h w/\Av ρ μ h w q h w/\∀us,Aw ρ μ new us->Aw ρ q new us:=⟨μ,H,Av.refl H,fun _ h=>h⟩
 unfold EY
 split
 case h_2=>exact same
 rename_i vs hb
 cases hk:Pg h.fx z.2.1 z.2.2.1 z.2.2.2.1 z.2.2.2.2 vs with
 |false=>exact same
 |true=>
 simp only [cond_true]
 obtain ⟨b,off,len,es,j⟩:=z
 simp only at hb hk⊢
 obtain ⟨cs,B,L,C,hd⟩:=MM H.AO.facts hk
 obtain ⟨r,⟨δ,m⟩,I,c,t,M,Q,hc⟩:=H.blk b _ hb
 obtain ⟨N,P⟩:=Yn H hb I
 have A:AJ μ h r:=⟨b,_,(δ,m),hb,I⟩
 have v:μ.le (μ.Eb r w.heap[r]?):=As.J6 fun x O=>absurd A (H.AO.AU r x O).2
 have J:AK μ.AU c (δ+off) (ρ.lst j).flatten:=Nk hc B hd
 have Z:Frz ρ (μ.Eb r w.heap[r]?) b off len es j r δ m c t:=by
  refine ⟨I,L,?_,?_⟩
  ·show (if r=r then w.heap[r]? else μ.AU r)=_
   rw [if_pos rfl];exact M
  ·exact BG.mono v.AU (Bx.2 ⟨C,J⟩)
 exact ⟨_,N,P,fun us h=>Rj Z (h.mono v)⟩
theorem HJ:∀(l:List (Nat×Nat×Nat×Nat×Nat)) {μ:As} {h:Ak} (new:List Aa),AI ρ μ h w->
  ∃j,AI ρ j (FV l h new).1 w/\Av ρ μ h w j (FV l h new).1 w/\∀us,Aw ρ μ new us->Aw ρ j (FV l h new).2 us
 |[],μ,h,new,H=>⟨μ,H,Av.refl H,fun _ h=>h⟩
 |z::l,μ,h,new,H=>by
  obtain ⟨I,x,g1,C⟩:=Ns H z new
  obtain ⟨B,v,g2,q⟩:=HJ l (EY h z new).2 x
  exact ⟨B,v,g1.trans g2,fun us A=>q us (C us A)⟩
end
section
variable {P:Program} {ρ:Env} {μ:As} {tm:Tr Aa} {a:Act} {w:World} {h:Ak}
theorem R6 {o:Oper} {c:Call} {t u e:TypeId} {d:TypeDesc} {x y:Operand} (M:o.op=.call c) (A:c.callee=.builtin .append) (j:c.args=#[x,y]) (z:c.argTypes=#[t,u])
  (H:AI ρ μ h w) (C:AT ρ μ tm a) (I:P.underlying t=some (.slice e)) (O:P.underlying u=some d) (hd:Ey d) {i:TypeInfo} (Q:P.info? e=some i) (hb:i.bytes<=1048576) (L:(i.zero.map fun v=>Nat.beq v.cells.size i.size).getD false=true)
  {bytes:Bool} {s:Nat×List Aa} (hs:Jn h i.size bytes (ev tm (AD y))=some s) {r:Aa×Ak} (q:RI h i.size (ev tm (AD x)) s.1 s.2=some r):Ex P ρ μ h a o w (.val r.1 r.2):=by
 unfold RI at q
 split at q
 ·rename_i b es m U
  rw [<-U]at q
  cases hden:RB s.2 with
  |true=>rw [hden]at q;exact Lm M A j z H C I O hd Q hb L hs q
  |false=>
   rw [hden]at q
   simp only [cond_false]at q
   obtain ⟨n,new⟩:=s
   have R:=Au C y
   obtain ⟨μ1,H1,g1,J⟩:=HJ h.fx.Od new H
   obtain ⟨Z,q2,L1,q3,N⟩:=De (P:=P) H R hs
   obtain ⟨p1,p2,L2,V,X⟩:=De (P:=P) H.drew R hs
   have B:(FV h.fx.Od h new).2.length=n*i.size:=by
    have U:=(J _ N).length
    have e2:=N.length
    omega
   have D:=Ea (P:=P) M A j z H1 (C.mono g1.le) I O hd Q hb L (n:=n) (new:=(FV h.fx.Od h new).2) (fun w' hw=>by
    rcases hw with rfl|rfl
    ·exact ⟨Z,B,L1,q3,J _ N⟩
    ·exact ⟨p1,B,L2,V,J _ X⟩) q
   obtain ⟨nx,v,w',μ',d1,d2,Y,d4⟩:=D
   exact ⟨nx,v,w',μ',d1,d2,g1.trans Y,d4⟩
 ·exact Lm M A j z H C I O hd Q hb L hs q
end
end
section
section
variable {P:Program} {Γ:Ap} {ρ:Env} {μ:As} {tm:Tr Aa} {a:Act} {w:World} {h:Ak}
theorem KY (H:AI ρ μ h w) (A:AT ρ μ tm a) {pl:List Co} {o:Oper} {q:MOp} (hc:Dq P pl o=some (.m q)) {r:GN} (B:Kp tm h q=some r):Ex P ρ μ h a o w r:=by
 cases hop:o.op<;>simp only [Dq,hop,reduceCtorEq,oI]at hc
 case store t x y=>
  obtain ⟨n,C,e⟩:=mS hc
  simp only [DC.m.injEq]at e
  subst e
  obtain ⟨X,hs,e⟩:=Ac B
  simp only [oI]at e
  subst e
  exact Vr hop H A C hs
 case insert t m k x=>
  split at hc
  ·rename_i kt e I
   obtain ⟨kk,V,e⟩:=mS hc
   simp only [DC.m.injEq]at e
   subst e
   obtain ⟨X,hs,e⟩:=Ac B
   simp only [oI]at e
   subst e
   exact Nj (.inr hop) H A I V hs
  ·cases hc
 case mapUpdate t m k x=>
  split at hc
  ·rename_i kt e I
   obtain ⟨kk,V,e⟩:=mS hc
   simp only [DC.m.injEq]at e
   subst e
   obtain ⟨X,hs,e⟩:=Ac B
   simp only [oI]at e
   subst e
   exact Nj (.inl hop) H A I V hs
  ·cases hc
 case panic x=>
  simp only [DC.m.injEq]at hc
  subst hc
  exact Vs hop A B
 case call c=>
  unfold EX at hc
  split at hc
  ·rename_i f hf
   split at hc
   ·rename_i fn U
    split at hc
    ·simp only [oI,DC.m.injEq]at hc
     subst hc
     simp only [Kp]at B
     obtain ⟨p,j,e⟩:=Ac B
     simp only [oI]at e
     subst e
     exact Pr hop hf A j
    ·rename_i hb
     split at hc
     ·rename_i C
      split at hc
      ·rename_i x M
       have J:c.args=#[x]:=by rw [<-Array.toList_inj];simpa using M
       simp only [oI,DC.m.injEq]at hc
       subst hc
       rw [aT,beq_iff_eq,beq_iff_eq]at C
       exact Vv hop hf J U (by simpa using hb) C.1 C.2 H A B
      ·cases hc
     ·split at hc
      ·rename_i C
       split at hc
       ·rename_i x M
        have J:c.args=#[x]:=by rw [<-Array.toList_inj];simpa using M
        simp only [oI,DC.m.injEq]at hc
        subst hc
        rw [aT,beq_iff_eq,beq_iff_eq]at C
        exact Vt hop hf J U (by simpa using hb) C.1 C.2 H A B
       ·cases hc
      ·cases hc
   ·cases hc
  ·rename_i f _ hf
   simp only [oI,DC.m.injEq]at hc
   subst hc
   obtain ⟨p,j,e⟩:=Ac B
   simp only [oI]at e
   subst e
   exact Pr hop hf A j
  ·cases hc
  ·rename_i b hb
   split at hc
   ·split at hc<;>simp at hc
   ·rename_i x y t u M Q
    have J:c.args=#[x,y]:=by rw [<-Array.toList_inj];simpa using M
    have N:c.argTypes=#[t,u]:=by rw [<-Array.toList_inj];simpa using Q
    have app:∀{e:TypeId} {bytes:Bool} {d:TypeDesc},P.underlying t=some (.slice e)->P.underlying u=some d->Ey d->ED P e bytes x y=some (.m q)->Ex P ρ μ h a o w r:=fun {e bytes d} L I hd hc=>by
     unfold ED at hc
     split at hc
     ·rename_i i R
      split at hc
      ·rename_i v
       rw [aT,decide_eq_true_eq]at v
       simp only [oI,DC.m.injEq]at hc
       subst hc
       obtain ⟨p,j,e⟩:=Ac B
       simp only [oI]at e
       subst e
       unfold T0 at j
       split at j
       ·rename_i e' h8 hh
        obtain ⟨s,hs,j⟩:=Ac j
        exact R7 hop hb J N H A L I hd R v.1 h8 hs j
       ·unfold Xk at j
        split at j
        ·rename_i l hl
         exact R5 hop hb J N H A L I hd R v.1 v.2 hl j
        ·obtain ⟨s,hs,j⟩:=Ac j
         exact R6 hop hb J N H A L I hd R v.1 v.2 hs j
      ·cases hc
     ·cases hc
    split at hc
    ·rename_i L I
     exact app L I (.inl ⟨_,rfl⟩) hc
    ·rename_i L I
     exact app L I (.inr rfl) hc
    ·cases hc
   ·rename_i x y t u M Q
    have J:c.args=#[x,y]:=by rw [<-Array.toList_inj];simpa using M
    have N:c.argTypes=#[t,u]:=by rw [<-Array.toList_inj];simpa using Q
    split at hc
    ·rename_i L I
     obtain ⟨n,C,e⟩:=mS hc
     simp only [DC.m.injEq]at e
     subst e
     obtain ⟨s,hs,O⟩:=Ac B
     obtain ⟨p,j,e⟩:=Ac O
     simp only [oI]at e
     subst e
     exact Pq hop hb J N H A L C hs j
    ·rename_i L I
     obtain ⟨n,C,e⟩:=mS hc
     simp only [DC.m.injEq]at e
     subst e
     obtain ⟨s,hs,O⟩:=Ac B
     obtain ⟨p,j,e⟩:=Ac O
     simp only [oI]at e
     subst e
     exact Pq hop hb J N H A L C hs j
    ·cases hc
   ·simp at hc
   ·simp at hc
   ·simp only [oI,DC.m.injEq]at hc
    subst hc
    cases B
   ·simp at hc
   ·rename_i p n pt it M Q
    have J:c.args=#[p,n]:=by rw [<-Array.toList_inj];simpa using M
    have N:c.argTypes=#[pt,it]:=by rw [<-Array.toList_inj];simpa using Q
    split at hc
    ·rename_i e j
     split at hc
     ·rename_i Y
      simp only [oI,DC.m.injEq]at hc
      subst hc
      exact Ym hop hb J N H A j (Ao.1 Y) B
     ·cases hc
    ·cases hc
   ·cases hc
 case convert s d x=>
  rcases CD hc with ⟨k0,k,hs,hd,e⟩|⟨hs,hd,e⟩|⟨t,n,hs,hd,C,e⟩|⟨u,n,hs,hd,C,e⟩|⟨el,hs,he,hd,e⟩<;>cases e
 case typeAssert x xt t ok=>
  obtain ⟨d,i,z,I,hd,R,hz,e⟩:=Cf hc
  cases e
 case defer c=>
  obtain ⟨Z,args,ac⟩:=c
  cases Z<;>simp at hc
  subst hc
  obtain ⟨p,j,e⟩:=Ac B
  simp only [oI]at e
  subst e
  exact Vu hop rfl A j
 case makeFunc fn x c=>cases fn<;>simp at hc
 case binOp op t x y yt=>obtain ⟨_,_,e⟩:=mS hc;cases e
 case slice t x lo R mx=>
  exfalso
  split at hc
  ·simp at hc
  ·obtain ⟨_,_,e⟩:=mS hc;cases e
  ·split at hc
   ·obtain ⟨_,_,e⟩:=mS hc;cases e
   ·cases hc
  ·cases hc
 case build t parts=>
  exfalso
  split at hc
  ·split at hc
   ·obtain ⟨_,_,e⟩:=mS hc;cases e
   ·cases hc
  ·obtain ⟨_,_,hc⟩:=Option.bind_eq_some_iff.1 hc
   obtain ⟨_,_,e⟩:=mS hc;cases e
  ·cases hc
 case fieldAddr t x f=>
  exfalso
  split at hc
  ·obtain ⟨_,_,hc⟩:=Option.bind_eq_some_iff.1 hc
   split at hc<;>simp at hc
  ·cases hc
 case field t x f=>
  exfalso
  split at hc
  ·obtain ⟨_,_,hc⟩:=Option.bind_eq_some_iff.1 hc
   obtain ⟨_,_,e⟩:=mS hc;cases e
  ·cases hc
 all_goals
  exfalso
  first
   |(cases hc;done)
   |(split at hc<;>first|(cases hc;done) |(simp at hc;done) |(obtain ⟨_,_,e⟩:=mS hc;cases e;done) |(split at hc<;>first|(cases hc;done) |(simp at hc;done) |(obtain ⟨_,_,e⟩:=mS hc;cases e;done) |(split at hc<;>first|(cases hc;done) |(simp at hc;done) |(obtain ⟨_,_,e⟩:=mS hc;cases e;done))))
   |(obtain ⟨_,_,e⟩:=mS hc;cases e;done)
end
end
end Go.AM
