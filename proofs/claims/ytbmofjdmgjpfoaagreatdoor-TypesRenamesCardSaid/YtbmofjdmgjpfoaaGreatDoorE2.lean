/- Part 2 of the proof of TypesRenames. -/
import Derived.Test.YtbmofjdmgjpfoaaGreatDoorE1
import Derived.Laws.Rows
import Derived.Laws.Cells
import Derived.Laws.CopyRow
import Derived.Laws.Append
import Derived.KernelRfl
import Derived.Lib.UnsafeStr
set_option linter.all false
section
namespace Go.AM
section
variable {P:Program} {Γ:An} {ρ:Env} {μ:Ap} {tm:Tr Aa} {a:Act} {w:World}
section
variable {t e kt:TypeId} (d:Nat)
theorem Kn (c:P.underlying t=some (.pointer e)) (q:Option Addr):(Op.equalIn (d+1) t (.pointer none) (.pointer q)).run P w=.ok q.isNone w:=by
 simp only [Op.equalIn,Sem.run_bind,run_underlying c,Result.andThen_ok,Sem.run_pure]
theorem OH (c:P.underlying t=some (.pointer e)) (q:Addr):(Op.equalIn (d+1) t (.pointer (some q)) (.pointer none)).run P w=.ok false w:=by
 simp only [Op.equalIn,Sem.run_bind,run_underlying c,Result.andThen_ok,Sem.run_pure]
theorem OI (c:P.underlying t=some (.pointer e)) {n:Nat} (g:Bf P e=some n) (q:Addr):(Op.equalIn (d+1) t (.pointer (some q)) (.pointer (some q))).run P w=.ok true w:=by
 have hs:=Bx (w:=w) g
 by_cases h:n=0<;>simp [Op.equalIn,run_underlying c,hs,sameAddr,h]
theorem F5 (c:P.underlying t=some (.slice e)) (q:Option Addr) (n m:Nat):(Op.equalIn (d+1) t (.slice none 0 0) (.slice q n m)).run P w=.ok q.isNone w:=by
 simp only [Op.equalIn,Sem.run_bind,run_underlying c,Result.andThen_ok,Sem.run_pure]
theorem Hr (c:P.underlying t=some (.slice e)) (q:Addr) (n m:Nat):(Op.equalIn (d+1) t (.slice (some q) n m) (.slice none 0 0)).run P w=.ok false w:=by
 simp only [Op.equalIn,Sem.run_bind,run_underlying c,Result.andThen_ok,Sem.run_pure]
theorem Ko (c:P.underlying t=some (.map kt e)) (q:Option Nat):(Op.equalIn (d+1) t (.map none) (.map q)).run P w=.ok q.isNone w:=by
 simp only [Op.equalIn,Sem.run_bind,run_underlying c,Result.andThen_ok,Sem.run_pure]
theorem OJ (c:P.underlying t=some (.map kt e)) (q:Nat):(Op.equalIn (d+1) t (.map (some q)) (.map none)).run P w=.ok false w:=by
 simp only [Op.equalIn,Sem.run_bind,run_underlying c,Result.andThen_ok,Sem.run_pure]
variable {ps rs:Array TypeId} {va:Bool}
theorem OM (c:P.underlying t=some (.func ps rs va)):(Op.equalIn (d+1) t .nilFunc .nilFunc).run P w=.ok true w:=by
 simp only [Op.equalIn,Sem.run_bind,run_underlying c,Result.andThen_ok,Sem.run_pure]
theorem TN (c:P.underlying t=some (.func ps rs va)) (f:Fn) (x y:Array Value):(Op.equalIn (d+1) t (.func f x y) .nilFunc).run P w=.ok false w:=by
 simp only [Op.equalIn,Sem.run_bind,run_underlying c,Result.andThen_ok,Sem.run_pure]
theorem TM (c:P.underlying t=some (.func ps rs va)) (f:Fn) (x y:Array Value):(Op.equalIn (d+1) t .nilFunc (.func f x y)).run P w=.ok false w:=by
 simp only [Op.equalIn,Sem.run_bind,run_underlying c,Result.andThen_ok,Sem.run_pure]
variable {ms:Array (String×TypeId)}
theorem NJ (c:P.underlying t=some (.interface ms)):(Op.equalIn (d+1) t .nilIface .nilIface).run P w=.ok true w:=by
 simp only [Op.equalIn,Sem.run_bind,run_underlying c,Result.andThen_ok,Sem.run_pure]
theorem RQ (c:P.underlying t=some (.interface ms)) (u:TypeId) (v:Value):(Op.equalIn (d+1) t (.iface u v) .nilIface).run P w=.ok false w:=by
 simp only [Op.equalIn,Sem.run_bind,run_underlying c,Result.andThen_ok,Sem.run_pure]
theorem RP (c:P.underlying t=some (.interface ms)) (u:TypeId) (v:Value):(Op.equalIn (d+1) t .nilIface (.iface u v)).run P w=.ok false w:=by
 simp only [Op.equalIn,Sem.run_bind,run_underlying c,Result.andThen_ok,Sem.run_pure]
theorem OK (g:P.underlying t=some (.interface ms)) {u c:TypeId} (h:u≠c) (v j:Value):(Op.equalIn (d+1) t (.iface u v) (.iface c j)).run P w=.ok false w:=by
 simp only [Op.equalIn,Sem.run_bind,run_underlying g,Result.andThen_ok]
 rw [if_pos h]
 rfl
theorem OL (g:P.underlying t=some (.interface ms)) {u:TypeId} {i:TypeInfo} (j:P.info? u=some i) (hc:i.comparable=true) (v c:Value):(Op.equalIn (d+1) t (.iface u v) (.iface u c)).run P w=(Op.equalIn d u v c).run P w:=by
 simp only [Op.equalIn,Sem.run_bind,run_underlying g,Result.andThen_ok,ne_eq,not_true_eq_false,if_false,typeInfo,run_program,j,Sem.run_pure,hc,Bool.not_true,Bool.false_eq_true]
theorem OC (c:P.underlying t=some (.interface ms)):(Op.eqGuardIn (d+1) t .nilIface .nilIface).run P w=.ok (!ms.isEmpty) w:=by
 simp only [Op.eqGuardIn,Sem.run_bind,run_underlying c,Result.andThen_ok,Sem.run_pure]
end
theorem QI (c:Bool) (t:TypeId) (u v:Value) (b:Bool) (hc:∀s,u≠.string s) (d:∀k n,u≠.int k n) (hf:∀k n,u≠.float k n) (g:∀k n m,u≠.complex k n m)
  (h:(Op.equalIn 10000 t u v).run P w=.ok b w):(binOp (if c then .neq else .eql) t u v).run P w=.ok (.bool (if c then !b else b)) w:=by
 cases c
 ·simp only [Bool.false_eq_true,if_false]
  unfold binOp
  cases u<;>first|(exact absurd rfl (hc _)) |(exact absurd rfl (d _ _)) |(exact absurd rfl (hf _ _)) |(exact absurd rfl (g _ _ _)) |(simp [Op.equal,Op.maxDepth,h])
 ·simp only [if_true]
  unfold binOp
  cases u<;>first|(exact absurd rfl (hc _)) |(exact absurd rfl (d _ _)) |(exact absurd rfl (hf _ _)) |(exact absurd rfl (g _ _ _)) |(simp [Op.equal,Op.maxDepth,h])
theorem Bl {o:Oper} {c:Bool} {t j:TypeId} {x y:Operand} (d:o.op=.binOp (if c then .neq else .eql) t x y j) {b:Bool} {v:Aa} (hv:v=.bool (.lit (bif c then !b else b)))
  (hg:(eqGuard (if c then .neq else .eql) t x y (a.eval x) (a.eval y)).run P w=.ok () w)
  (hc:∀s,a.eval x≠.string s) (u:∀k n,a.eval x≠.int k n) (hf:∀k n,a.eval x≠.float k n) (g:∀k n m,a.eval x≠.complex k n m)
  (h:(Op.equalIn 10000 t (a.eval x) (a.eval y)).run P w=.ok b w):Bu P ρ μ a o w v:=by
 refine ⟨.bool (if c then !b else b),?_,?_⟩
 ·simp only [execOp,d,Sem.run_bind,hg,Result.andThen_ok,QI c t _ _ b hc u hf g h]
  simp
 ·subst hv
  simp only [Ag,SB.den]
  cases c<;>rfl
theorem KO {t:Nat}:∀{l:List C5} {r:C5},AbW t l=some r→r∈l∧r.t=t
 |[],r,h=>by have h:none=some r:=h;cases h
 |x::l,r,h=>by
  have h:(bif Nat.beq x.t t then some x else AbW t l)=some r:=h
  cases e:Nat.beq x.t t with
  |true=>
   rw [e]at h
   simp only [cond_true,oI]at h
   subst h
   exact ⟨List.mem_cons_self,Al.1 e⟩
  |false=>
   rw [e]at h
   exact ⟨List.mem_cons_of_mem _ (KO h).1,(KO h).2⟩
theorem IS:∀{x y:List (Nat×LK)},Ev x y=true→x=y
 |[],[],_=>rfl
 |[],_::_,h=>by simp [Ev]at h
 |_::_,[],h=>by simp [Ev]at h
 |(a,k)::x,(b,j)::y,h=>by
  simp only [Ev,aT]at h
  rw [Al.1 h.1.1,IS h.2]
  have:=Al.1 h.1.2
  cases k<;>cases j<;>first|rfl|(simp [LK.no]at this)
theorem T3 {pl:List C5} (h:R5 P pl=true) {x:C5} (j:x∈pl):
  leaves P 6 x.t=some x.Tt∧(∃i,P.info? x.t=some i∧i.comparable=true)∧La P x.t=x.agg:=by
 unfold R5 at h
 have:=List.all_eq_true.1 h _ j
 simp only [aT]at this
 obtain ⟨⟨d,c⟩,g⟩:=this
 refine ⟨?_,?_,?_⟩
 ·split at d
  ·rename_i k e
   rw [e,IS d]
  ·cases d
 ·cases e:P.info? x.t with
  |none=>rw [e]at c;simp at c
  |some i=>rw [e]at c;exact ⟨i,rfl,by simpa using c⟩
 ·rw [beq_eq]at g;simpa using g
theorem TJ (g:Γ.AG ρ) {t:TypeId} {l:List (Nat×LK)} (hl:leaves P 6 t=some l) {x y:Aa} {u v:Value} {cs ds:List Aa} (j:Ag ρ μ x u) (z:Ag ρ μ y v) (c:x.cells=some cs) (d:y.cells=some ds)
  {b:Bool} (h:Dj Γ cs ds l=some b) (hb:Adu P u.cells v.cells 0 t u v) {k:Nat} (o:6≤k):
  (Op.equalIn k t u v).run P w=.ok b w:=
 GK g (j.cells c) (z.cells d) 6 t l hl k 0 u v b o hb (by
  have:C8 0 l=l:=by unfold C8;simp
  rw [this];exact h)
theorem HR {o:Oper} {j:Bool} {t R:TypeId} {x y:Operand} (N:o.op=.binOp (if j then .neq else .eql) t x y R) (O:Γ.AG ρ) (D:Ba ρ μ tm a) {l:List (Nat×LK)}
  (g:(∃fs,P.underlying t=some (.struct fs))∨∃k e,P.underlying t=some (.array k e)) (hl:leaves P 6 t=some l) (A:P.eqGuardType P.depth t=false) {v:Aa}
  (h:Jw Γ j (.plain l) (ev tm (AF x)) (ev tm (AF y))=some v):Bu P ρ μ a o w v:=by
 unfold Jw at h
 obtain ⟨b,hb,h⟩:=Ac h
 simp only [oI]at h
 have hb:RO Γ l (ev tm (AF x)) (ev tm (AF y))=some b:=hb
 have z:=Aq D x
 have u:=Aq D y
 unfold RO at hb
 split at hb
 ·rename_i xs ys Q M
  rw [Q]at z
  rw [M]at u
  have H:=z
  have J:=u
  obtain ⟨X,c,U⟩:=z.agg
  obtain ⟨Y,C,Z⟩:=u.agg
  have d:Adu P (a.eval x).cells (a.eval y).cells 0 t (a.eval x) (a.eval y):=by
   rw [c,C]
   refine ⟨fun n hn=>⟨X,Y,rfl,rfl,Zz.whole _ _,Zz.whole _ _⟩,fun h=>?_⟩
   exfalso
   unfold Eg at h
   rcases g with ⟨fs,g⟩|⟨k,e,g⟩<;>rw [g]at h<;>cases ei:P.info? t<;>rw [ei]at h<;>simp at h
  refine Bl N h.symm ?_ (by simp [c]) (by simp [c]) (by simp [c]) (by simp [c]) (TJ O hl H J rfl rfl hb d (by omega))
  rw [c,C]
  exact run_eqGuard_agg w _ t x y X Y A
 ·cases hb
theorem N1 {o:Oper} {j M:Bool} {t yt:TypeId} {x y:Operand} (X:o.op=.binOp (if j then .neq else .eql) t x y yt) (hΓ:Γ.AG ρ) (hT:Ba ρ μ tm a) {pl:List C5}
  {ms:Array (String×TypeId)} (O:P.underlying t=some (.interface ms)) (an:R5 P pl=true) (hn:M=(ms.isEmpty||E2 x||E2 y)) {v:Aa}
  (h:Jw Γ j (.iface M pl) (ev tm (AF x)) (ev tm (AF y))=some v):Bu P ρ μ a o w v:=by
 unfold Jw at h
 obtain ⟨b,hb,h⟩:=Ac h
 simp only [oI]at h
 have hb:RR Γ M pl (ev tm (AF x)) (ev tm (AF y))=some b:=hb
 have D:=Aq hT x
 have C:=Aq hT y
 unfold RR at hb
 split at hb
 ·rename_i d p d' q J H
  rw [J]at D
  rw [H]at C
  obtain ⟨u,g,hX⟩:=D.iface
  obtain ⟨u',k,hY⟩:=C.iface
  refine Bl X h.symm ?_ (by simp [g]) (by simp [g]) (by simp [g]) (by simp [g]) ?_
  ·rw [g,k];cases j<;>simp [eqGuard]
  ·rw [g,k]
   unfold Ac6 at hb
   cases ed:Nat.beq d d' with
   |false=>
    rw [ed]at hb
    simp only [cond_false,oI]at hb
    have aq:d≠d':=fun e=>by rw [Al.2 e]at ed;cases ed
    rw [←hb]
    exact OK 9999 O aq _ _
   |true=>
    rw [ed]at hb
    simp only [cond_true]at hb
    obtain ⟨hd,hl,hb⟩:=Ac hb
    unfold Yf at hb
    obtain ⟨A,hb⟩:=Ao hb
    obtain ⟨cs,ab,hb⟩:=Ac hb
    obtain ⟨ds,ac,hb⟩:=Ac hb
    have:=Al.1 ed
    subst this
    obtain ⟨ae,ap⟩:=KO hl
    obtain ⟨ad,⟨i,hi,ai⟩,Q⟩:=T3 an ae
    rw [ap]at ad hi Q
    rw [aT,beq_eq,beq_eq,beq_iff_eq,beq_iff_eq]at A
    refine (OL 9999 O hi ai _ _).trans ?_
    have Z:Adu P u.cells u'.cells 0 d u u':=by
     refine ⟨fun n hn=>?_,fun h1=>?_⟩
     ·have ha:La P d=true:=by unfold La;rw [hn]
      rw [←Q,ha]at A
      cases p<;>simp [KZ]at A
      cases q<;>simp [KZ]at A
      obtain ⟨U,rfl,_⟩:=hX.agg
      obtain ⟨V,rfl,_⟩:=hY.agg
      exact ⟨U,V,rfl,rfl,Zz.whole _ _,Zz.whole _ _⟩
     ·have ha:La P d=false:=by unfold La;rw [h1]
      rw [←Q,ha]at A
      have R:∀{z:Aa} {v:Value} {zs:List Aa},z.cells=some zs→KZ z=false→Ag ρ μ z v→v.cells[0]?=some v:=fun {z v zs} hz hza hv=>by
       have h1:=hv.Rb (by cases z<;>first|rfl|(simp [Aa.cells]at hz;done) |(simp [KZ]at hza;done))
       cases v<;>first|rfl|(simp [Value.oneCell']at h1)
      exact ⟨R ab A.1 hX,R ac A.2 hY⟩
    exact TJ hΓ ad hX hY ab ac hb Z (by omega)
 ·rename_i J H
  rw [J]at D
  rw [H]at C
  have g:a.eval x=.nilIface:=by simpa only [Ag]using D
  have k:a.eval y=.nilIface:=by simpa only [Ag]using C
  obtain ⟨N,hb⟩:=Ao hb
  simp only [oI]at hb
  subst hb
  refine Bl X h.symm ?_ (by simp [g]) (by simp [g]) (by simp [g]) (by simp [g]) ?_
  ·rw [g,k]
   subst hn
   have aa:(Op.eqGuardIn Op.maxDepth t .nilIface .nilIface).run P w=.ok (!ms.isEmpty) w:=OC 9999 O
   simp only [Bool.or_eq_true]at N
   rcases N with (hms|hcx) |hcy
   ·rw [hms]at aa
    cases j<;>cases x<;>cases y<;>simp [eqGuard,aa]
   ·have:∃c,x=.const c:=by
     cases x<;>simp [E2]at hcx
     exact ⟨_,rfl⟩
    obtain ⟨c,rfl⟩:=this
    cases j<;>simp [eqGuard]
   ·have:∃c,y=.const c:=by
     cases y<;>simp [E2]at hcy
     exact ⟨_,rfl⟩
    obtain ⟨c,rfl⟩:=this
    cases j<;>cases x<;>simp [eqGuard]
  ·rw [g,k];exact NJ 9999 O
 ·rename_i d p J H
  rw [J]at D
  rw [H]at C
  have g:a.eval x=.nilIface:=by simpa only [Ag]using D
  obtain ⟨u,k,_⟩:=C.iface
  simp only [oI]at hb
  subst hb
  refine Bl X h.symm ?_ (by simp [g]) (by simp [g]) (by simp [g]) (by simp [g]) ?_
  ·rw [g,k];cases j<;>simp [eqGuard]
  ·rw [g,k];exact RP 9999 O _ _
 ·rename_i d p J H
  rw [J]at D
  rw [H]at C
  have k:a.eval y=.nilIface:=by simpa only [Ag]using C
  obtain ⟨u,g,_⟩:=D.iface
  simp only [oI]at hb
  subst hb
  refine Bl X h.symm ?_ (by simp [g]) (by simp [g]) (by simp [g]) (by simp [g]) ?_
  ·rw [g,k];cases j<;>simp [eqGuard]
  ·rw [g,k];exact RQ 9999 O _ _
 ·cases hb
theorem R8 {o:Oper} {g:Bool} {t R e:TypeId} {x y:Operand} (D:o.op=.binOp (if g then .neq else .eql) t x y R) (M:Ba ρ μ tm a) (H:P.underlying t=some (.pointer e)) {n:Nat} (X:Bf P e=some n) {v:Aa}
  (h:Jw Γ g .ptr (ev tm (AF x)) (ev tm (AF y))=some v):Bu P ρ μ a o w v:=by
 unfold Jw at h
 obtain ⟨b,hb,h⟩:=Ac h
 simp only [oI]at h
 have hb:Ac4 (ev tm (AF x)) (ev tm (AF y))=some b:=hb
 have k:=Aq M x
 have j:=Aq M y
 unfold Ac4 at hb
 split at hb
 ·rename_i z u
  rw [z]at k
  rw [u]at j
  have c:a.eval x=.pointer none:=by simpa only [Ag]using k
  have d:a.eval y=.pointer none:=by simpa only [Ag]using j
  simp only [oI]at hb
  subst hb
  refine Bl D h.symm ?_ (by simp [c]) (by simp [c]) (by simp [c]) (by simp [c]) ?_
  ·rw [c,d];cases g<;>simp [eqGuard]
  ·rw [c,d];exact Kn 9999 H none
 ·rename_i U J z u
  rw [z]at k
  rw [u]at j
  have c:a.eval x=.pointer none:=by simpa only [Ag]using k
  obtain ⟨r,δ,_,_,d⟩:=j.ptr
  simp only [oI]at hb
  subst hb
  refine Bl D h.symm ?_ (by simp [c]) (by simp [c]) (by simp [c]) (by simp [c]) ?_
  ·rw [c,d];cases g<;>simp [eqGuard]
  ·rw [c,d];exact Kn 9999 H _
 ·rename_i U J z u
  rw [z]at k
  rw [u]at j
  have d:a.eval y=.pointer none:=by simpa only [Ag]using j
  obtain ⟨r,δ,_,_,c⟩:=k.ptr
  simp only [oI]at hb
  subst hb
  refine Bl D h.symm ?_ (by simp [c]) (by simp [c]) (by simp [c]) (by simp [c]) ?_
  ·rw [c,d];cases g<;>simp [eqGuard]
  ·rw [c,d];exact OH 9999 H _
 ·rename_i Z o1 b2 o2 z u
  rw [z]at k
  rw [u]at j
  obtain ⟨hc,C⟩:=Ao hb
  rw [aT]at hc
  have O:=Al.1 hc.1
  have N:=Al.1 hc.2
  subst O N
  obtain ⟨r,δ,m,Q,c⟩:=k.ptr
  obtain ⟨r',δ',m',A,d⟩:=j.ptr
  rw [Q]at A
  simp only [oI,Prod.mk.injEq]at A
  obtain ⟨rfl,rfl,rfl⟩:=A
  have C:true=b:=by simpa using C
  subst C
  refine Bl D h.symm ?_ (by simp [c]) (by simp [c]) (by simp [c]) (by simp [c]) ?_
  ·rw [c,d];cases g<;>simp [eqGuard]
  ·rw [c,d];exact OI 9999 H X _
 ·cases hb
theorem N0 {o:Oper} {j:Bool} {t N e:TypeId} {x y:Operand} (C:o.op=.binOp (if j then .neq else .eql) t x y N) (M:Ba ρ μ tm a) (H:P.underlying t=some (.slice e)) {v:Aa}
  (h:Jw Γ j .slice (ev tm (AF x)) (ev tm (AF y))=some v):Bu P ρ μ a o w v:=by
 unfold Jw at h
 obtain ⟨b,hb,h⟩:=Ac h
 simp only [oI]at h
 have hb:RM (ev tm (AF x)) (ev tm (AF y))=some b:=hb
 have k:=Aq M x
 have u:=Aq M y
 unfold RM at hb
 split at hb
 ·rename_i A z
  rw [A]at k
  rw [z]at u
  have d:a.eval x=.slice none 0 0:=by simpa only [Ag]using k
  have g:a.eval y=.slice none 0 0:=by simpa only [Ag]using u
  simp only [oI]at hb
  subst hb
  refine Bl C h.symm ?_ (by simp [d]) (by simp [d]) (by simp [d]) (by simp [d]) ?_
  ·rw [d,g];cases j<;>simp [eqGuard]
  ·rw [d,g];exact F5 9999 H none 0 0
 ·rename_i J D len cap A z
  rw [A]at k
  rw [z]at u
  have g:a.eval y=.slice none 0 0:=by simpa only [Ag]using u
  obtain ⟨r,δ,m,_,d,_⟩:=k.slice
  simp only [oI]at hb
  subst hb
  refine Bl C h.symm ?_ (by simp [d]) (by simp [d]) (by simp [d]) (by simp [d]) ?_
  ·rw [d,g];cases j<;>simp [eqGuard]
  ·rw [d,g];exact Hr 9999 H _ _ _
 ·rename_i J D len cap A z
  rw [A]at k
  rw [z]at u
  have d:a.eval x=.slice none 0 0:=by simpa only [Ag]using k
  obtain ⟨r,δ,m,_,g,_⟩:=u.slice
  simp only [oI]at hb
  subst hb
  refine Bl C h.symm ?_ (by simp [d]) (by simp [d]) (by simp [d]) (by simp [d]) ?_
  ·rw [d,g];cases j<;>simp [eqGuard]
  ·rw [d,g];exact F5 9999 H _ _ _
 ·rename_i J D len cap A z
  rw [A]at k
  rw [z]at u
  have g:a.eval y=.slice none 0 0:=by simpa only [Ag]using u
  obtain ⟨r,δ,m,c,_,d,_⟩:=k.gslice
  simp only [oI]at hb
  subst hb
  refine Bl C h.symm ?_ (by simp [d]) (by simp [d]) (by simp [d]) (by simp [d]) ?_
  ·rw [d,g];cases j<;>simp [eqGuard]
  ·rw [d,g];exact Hr 9999 H _ _ _
 ·rename_i J D len cap A z
  rw [A]at k
  rw [z]at u
  have d:a.eval x=.slice none 0 0:=by simpa only [Ag]using k
  obtain ⟨r,δ,m,c,_,g,_⟩:=u.gslice
  simp only [oI]at hb
  subst hb
  refine Bl C h.symm ?_ (by simp [d]) (by simp [d]) (by simp [d]) (by simp [d]) ?_
  ·rw [d,g];cases j<;>simp [eqGuard]
  ·rw [d,g];exact F5 9999 H _ _ _
 ·cases hb
theorem R9 {o:Oper} {g:Bool} {t J k e:TypeId} {x y:Operand} (C:o.op=.binOp (if g then .neq else .eql) t x y J) (H:Ba ρ μ tm a) (D:P.underlying t=some (.map k e)) {v:Aa}
  (h:Jw Γ g .map (ev tm (AF x)) (ev tm (AF y))=some v):Bu P ρ μ a o w v:=by
 unfold Jw at h
 obtain ⟨b,hb,h⟩:=Ac h
 simp only [oI]at h
 have hb:Ac5 (ev tm (AF x)) (ev tm (AF y))=some b:=hb
 have j:=Aq H x
 have u:=Aq H y
 unfold Ac5 at hb
 split at hb
 ·rename_i A z
  rw [A]at j
  rw [z]at u
  have c:a.eval x=.map none:=by simpa only [Ag]using j
  have d:a.eval y=.map none:=by simpa only [Ag]using u
  simp only [oI]at hb
  subst hb
  refine Bl C h.symm ?_ (by simp [c]) (by simp [c]) (by simp [c]) (by simp [c]) ?_
  ·rw [c,d];cases g<;>simp [eqGuard]
  ·rw [c,d];exact Ko 9999 D none
 ·rename_i M A z
  rw [A]at j
  rw [z]at u
  have d:a.eval y=.map none:=by simpa only [Ag]using u
  obtain ⟨r,_,c⟩:=j.O6
  simp only [oI]at hb
  subst hb
  refine Bl C h.symm ?_ (by simp [c]) (by simp [c]) (by simp [c]) (by simp [c]) ?_
  ·rw [c,d];cases g<;>simp [eqGuard]
  ·rw [c,d];exact OJ 9999 D _
 ·rename_i M A z
  rw [A]at j
  rw [z]at u
  have c:a.eval x=.map none:=by simpa only [Ag]using j
  obtain ⟨r,_,d⟩:=u.O6
  simp only [oI]at hb
  subst hb
  refine Bl C h.symm ?_ (by simp [c]) (by simp [c]) (by simp [c]) (by simp [c]) ?_
  ·rw [c,d];cases g<;>simp [eqGuard]
  ·rw [c,d];exact Ko 9999 D _
 ·cases hb
theorem OE {o:Oper} {g:Bool} {t H:TypeId} {ps rs:Array TypeId} {va:Bool} {x y:Operand} (A:o.op=.binOp (if g then .neq else .eql) t x y H) (D:Ba ρ μ tm a) (C:P.underlying t=some (.func ps rs va)) {v:Aa}
  (h:Jw Γ g .func (ev tm (AF x)) (ev tm (AF y))=some v):Bu P ρ μ a o w v:=by
 unfold Jw at h
 obtain ⟨b,hb,h⟩:=Ac h
 simp only [oI]at h
 have hb:VY (ev tm (AF x)) (ev tm (AF y))=some b:=hb
 have j:=Aq D x
 have k:=Aq D y
 unfold VY at hb
 split at hb
 ·rename_i z u
  rw [z]at j
  rw [u]at k
  have c:a.eval x=.nilFunc:=by simpa only [Ag]using j
  have d:a.eval y=.nilFunc:=by simpa only [Ag]using k
  simp only [oI]at hb
  subst hb
  refine Bl A h.symm ?_ (by simp [c]) (by simp [c]) (by simp [c]) (by simp [c]) ?_
  ·rw [c,d];cases g<;>simp [eqGuard]
  ·rw [c,d];exact OM 9999 C
 ·rename_i f p q z u
  rw [z]at j
  rw [u]at k
  have d:a.eval y=.nilFunc:=by simpa only [Ag]using k
  obtain ⟨_,_,c,_⟩:=j.func
  simp only [oI]at hb
  subst hb
  refine Bl A h.symm ?_ (by simp [c]) (by simp [c]) (by simp [c]) (by simp [c]) ?_
  ·rw [c,d];cases g<;>simp [eqGuard]
  ·rw [c,d];exact TN 9999 C _ _ _
 ·rename_i f p q z u
  rw [z]at j
  rw [u]at k
  have c:a.eval x=.nilFunc:=by simpa only [Ag]using j
  obtain ⟨_,_,d,_⟩:=k.func
  simp only [oI]at hb
  subst hb
  refine Bl A h.symm ?_ (by simp [c]) (by simp [c]) (by simp [c]) (by simp [c]) ?_
  ·rw [c,d];cases g<;>simp [eqGuard]
  ·rw [c,d];exact TM 9999 C _ _ _
 ·cases hb
theorem OF {o:Oper} {d:Bool} {t D:TypeId} {x y:Operand} (C:o.op=.binOp (if d then .neq else .eql) t x y D) (k:Ba ρ μ tm a) (H:P.underlying t=some .bool) {v:Aa}
  (h:Jw Γ d .bool (ev tm (AF x)) (ev tm (AF y))=some v):Bu P ρ μ a o w v:=by
 unfold Jw at h
 obtain ⟨b,hb,h⟩:=Ac h
 simp only [oI]at h
 have hb:VZ (ev tm (AF x)) (ev tm (AF y))=some b:=hb
 have j:=Aq k x
 have u:=Aq k y
 unfold VZ at hb
 split at hb
 ·rename_i p q A z
  rw [A]at j
  rw [z]at u
  have c:=j.bool
  have g:=u.bool
  simp only [SB.den]at c g
  simp only [oI]at hb
  refine Bl C h.symm ?_ (by simp [c]) (by simp [c]) (by simp [c]) (by simp [c]) ?_
  ·rw [c,g];cases d<;>simp [eqGuard]
  ·rw [c,g,run_equalIn_bool' w 9999 t p q H,←hb,beq_eq]
 ·cases hb
end
end Go.AM
end
section
namespace Go.AM
section
variable {P:Program} {Γ:An} {ρ:Env} {μ:Ap} {tm:Tr Aa} {a:Act} {w:World}
theorem GH (c:Ba ρ μ tm a) {d n:Nat} {x:Option Operand} (h:Ct tm d (x.map AF)=some n):(x=none∧n=d)∨∃y k,x=some y∧a.eval y=.int k (n:Int):=by
 cases x with
 |none=>have h:some d=some n:=h;simp only [oI]at h;exact .inl ⟨rfl,h.symm⟩
 |some y=>
  have h:CN (ev tm (AF y))=some n:=h
  obtain ⟨k,e⟩:=Cy h (Aq c y)
  exact .inr ⟨y,k,rfl,e⟩
theorem Cj {k:IntKind} {n y:Nat} {c:BoundsCode} (h:n≤y):(Instr.sliceBound (.int k (n:Int)) y c).run P w=.ok n w:=by
 rw [run_sliceBound w k _ y c (by omega) (by omega)];simp
theorem GF (j:Ba ρ μ tm a) {sl:Bool} {len cap l h:Nat} {o c:Option Operand} (hl:Ct tm 0 (o.map AF)=some l) (u:Ct tm len (c.map AF)=some h) (d:l≤h) (g:h≤cap):
  (Instr.sliceBounds sl len cap (o.map a.eval) (c.map a.eval) none).run P w=.ok (l,h,cap) w:=by
 rcases GH j hl with ⟨rfl,rfl⟩|⟨y,k,rfl,e⟩<;>rcases GH j u with ⟨rfl,rfl⟩|⟨y',k',rfl,e'⟩
 ·simp [Instr.sliceBounds]
 ·simp [Instr.sliceBounds,e',Cj g]
 ·simp [Instr.sliceBounds,e,Cj d]
 ·simp [Instr.sliceBounds,e,e',Cj d,Cj g]
theorem MO (g:Ba ρ μ tm a) {sl:Bool} {len cap l h m:Nat} {z:Option Operand} {c d:Operand} (hl:Ct tm 0 (z.map AF)=some l) (A:CN (ev tm (AF c))=some h) (C:CN (ev tm (AF d))=some m)
  (D:l≤h) (x:h≤m) (o:m≤cap):
  (Instr.sliceBounds sl len cap (z.map a.eval) (some (a.eval c)) (some (a.eval d))).run P w=.ok (l,h,m) w:=by
 obtain ⟨H,u⟩:=Cy A (Aq g c)
 obtain ⟨J,j⟩:=Cy C (Aq g d)
 rcases GH g hl with ⟨rfl,rfl⟩|⟨y,k,rfl,e⟩
 ·simp [Instr.sliceBounds,u,j,Cj x,Cj o]
 ·simp [Instr.sliceBounds,e,u,j,Cj D,Cj x,Cj o]
theorem VE {o:Oper} {t:TypeId} {x:Operand} {k z:Option Operand} (D:o.op=.slice t x k z none) (A:Ba ρ μ tm a) (y:P.underlying t=some .string) {v:Aa}
  (h:ZW (ev tm (AF x)) (Ct tm 0 (k.map AF)) (fun d=>Ct tm d (z.map AF))=some v):Bu P ρ μ a o w v:=by
 have u:=Aq A x
 unfold ZW at h
 split at h
 ·rename_i s C
  rw [C]at u
  obtain ⟨l,hl,h⟩:=Ac h
  obtain ⟨c,j,h⟩:=Ac h
  obtain ⟨b,J,rfl⟩:=u.str
  unfold Aft at h
  obtain ⟨hc,h⟩:=Ao h
  rw [aT,AR,AR]at hc
  obtain ⟨r,H,h⟩:=Ac h
  simp only [oI]at h
  subst h
  simp only [Dq,BG]at j hc
  have hb:=GF (P:=P) (w:=w) (sl:=false) A hl j hc.1 hc.2
  refine ⟨.string (b.extract l c),?_,?_⟩
  ·simp only [execOp,D,Option.map_none,Sem.run_bind,run_sliceAt_string w t _ _ _ _ y,J]
   simp [Instr.slice,run_underlying y,hb]
  ·simp only [Ag]
   refine ⟨_,rfl,?_⟩
   have:=LH H
   rw [LI]at this
   rw [this]
   unfold strOf
   have g:(b.extract l c).data.toList=(b.data.toList.drop l).take (c-l):=by
    obtain ⟨⟨L⟩⟩:=b
    have:=ByteArray.extract_mk L l c
    rw [show (⟨⟨L⟩⟩:ByteArray)=ByteArray.mk L.toArray from rfl,this]
   rw [g,List.map_take,List.map_drop]
 ·cases h
theorem Iw (r p l h m size:Nat):sliced (some ⟨r,p,none⟩) l h m size=.slice (some ⟨r,p+(if m=l then 0 else l*size),none⟩) (h-l) (m-l):=by
 unfold sliced
 by_cases e:m=l
 ·rw [if_pos e,if_pos e];rfl
 ·rw [if_neg e,if_neg e]
  simp [Addr.Bh]
theorem OD {o:Oper} {t e:TypeId} {x:Operand} {R Z:Option Operand} {n:Nat} (Q:o.op=.slice t x R Z none) (M:Ba ρ μ tm a) (X:P.underlying t=some (.slice e)) (hn:Bf P e=some n) {v:Aa}
  (h:Gp n (ev tm (AF x)) (Ct tm 0 (R.map AF)) (fun d=>Ct tm d (Z.map AF)) none=some v):Bu P ρ μ a o w v:=by
 have z:=Aq M x
 have y:P.elem t=e:=by simp [Program.elem,X]
 have g:P.underlying t=some (.slice (P.elem t)):=by rw [y];exact X
 have hs:=Bx (w:=w) hn
 unfold Gp at h
 split at h
 ·rename_i b j len c A _
  rw [A]at z
  obtain ⟨l,hl,h⟩:=Ac h
  obtain ⟨u,C,h⟩:=Ac h
  obtain ⟨r,δ,m,N,H,aa⟩:=z.slice
  unfold Ta at h
  obtain ⟨hc,h⟩:=Ao h
  rw [aT,AR,AR]at hc
  simp only [oI]at h
  subst h
  have hb:=GF (P:=P) (w:=w) (sl:=true) M hl C hc.1 hc.2
  refine ⟨sliced (some ⟨r,δ+j,none⟩) l u c n,?_,?_⟩
  ·simp only [execOp,Q,Option.map_none,Sem.run_bind,run_sliceAt_slice w t _ _ _ _ g,H,run_slice_any w t _ _ _ g,hb,Result.andThen_ok,y,hs]
   simp
  ·rw [Iw]
   simp only [Ag,AI]
   refine ⟨r,δ,m,N,?_,by omega⟩
   by_cases e:c=l<;>simp [e,Nat.add_assoc]
 ·rename_i b j len es A _
  rw [A]at z
  obtain ⟨l,hl,h⟩:=Ac h
  obtain ⟨u,C,h⟩:=Ac h
  obtain ⟨r,δ,m,k,N,H,aa,J⟩:=z.gslice
  unfold SY at h
  obtain ⟨hc,h⟩:=Ao h
  rw [aT,aT,AR,AR,Al]at hc
  have U:=hc.2
  have hb:=GF (P:=P) (w:=w) (sl:=true) (cap:=k) M hl C hc.1.1 (by omega)
  refine ⟨sliced (some ⟨r,δ+j,none⟩) l u k n,?_,?_⟩
  ·simp only [execOp,Q,Option.map_none,Sem.run_bind,run_sliceAt_slice w t _ _ _ _ g,H,run_slice_any w t _ _ _ g,hb,Result.andThen_ok,y,hs]
   simp
  ·rw [AI]at h
   rw [Iw]
   by_cases e0:l=0
   ·rw [if_pos e0]at h
    simp only [oI]at h
    subst h
    simp only [Ag]
    refine ⟨r,δ,m,k,N,?_,by omega,J⟩
    subst e0
    have:δ+j+(if k=0 then 0 else 0*n)=δ+j:=by split<;>omega
    rw [this];simp
   ·rw [if_neg e0]at h
    obtain ⟨O,h⟩:=Ao h
    have O:=I6.1 O
    simp only [oI]at h
    subst h
    simp only [Ag]
    refine ⟨r,δ,m,k-l,N,?_,by omega,?_⟩
    ·rw [if_neg (by omega)];simp [Nat.add_assoc]
    ·subst U
     have:(k-l)*n+l*n=k*n:=by rw [←Nat.add_mul];congr 1;omega
     omega
 ·rename_i D
  simp at D
 ·rename_i D
  simp at D
 ·rename_i A _
  rw [A]at z
  have H:a.eval x=.slice none 0 0:=by simpa only [Ag]using z
  obtain ⟨l,hl,h⟩:=Ac h
  obtain ⟨u,C,h⟩:=Ac h
  obtain ⟨hc,h⟩:=Ao h
  rw [aT,Al,Al]at hc
  simp only [oI]at h
  subst h
  obtain ⟨rfl,rfl⟩:=hc
  have hb:=GF (P:=P) (w:=w) (sl:=true) (cap:=0) M hl C (Nat.le_refl _) (Nat.le_refl _)
  refine ⟨sliced none 0 0 0 n,?_,by simp [sliced,Ag]⟩
  simp only [execOp,Q,Option.map_none,Sem.run_bind,run_sliceAt_slice w t _ _ _ _ g,H,run_slice_any w t _ _ _ g,hb,Result.andThen_ok,y,hs]
  rfl
 ·cases h
theorem DN {x:Option Operand} (h:Ml tm (x.map AF)=none):x=none:=by
 cases x with
 |none=>rfl
 |some x=>cases h
theorem YU {x:Option Operand} {v:Aa} (c:Ba ρ μ tm a) (h:Ml tm (x.map AF)=some v):∃y,x=some y∧ev tm (AF y)=v∧Ag ρ μ v (a.eval y):=by
 cases x with
 |none=>cases h
 |some y=>
  have h:some (ev tm (AF y))=some v:=h
  simp only [oI]at h
  exact ⟨y,rfl,h,h▸Aq c y⟩
theorem SW {sl:Bool} {d c:Option Operand} {l h cap len:Nat} (hl:(d=none∧l=0)∨∃x k,d=some x∧a.eval x=.int k (l:Int)) (o:(c=none∧h=len)∨∃x k,c=some x∧a.eval x=.int k (h:Int)) (g:l≤h) (j:h≤cap):
  (Instr.sliceBounds sl len cap (d.map a.eval) (c.map a.eval) none).run P w=.ok (l,h,cap) w:=by
 rcases hl with ⟨rfl,rfl⟩|⟨y,k,rfl,e⟩<;>rcases o with ⟨rfl,rfl⟩|⟨y',k',rfl,e'⟩
 ·simp [Instr.sliceBounds]
 ·simp [Instr.sliceBounds,e',Cj j]
 ·simp [Instr.sliceBounds,e,Cj g]
 ·simp [Instr.sliceBounds,e,e',Cj g,Cj j]
theorem DL (p:Option Addr) (h c n:Nat):sliced p 0 h c n=.slice p h c:=by
 have e:p.map (·.add (0*n))=p:=by
  cases p with
  |none=>rfl
  |some p=>simp [Addr.add]
 unfold sliced
 rw [e]
 simp
theorem Ny (hΓ:Γ.AG ρ) {o:Oper} {t e:TypeId} {x:Operand} {lo hi:Option Operand} {n:Nat} (ho:o.op=.slice t x lo hi none) (hT:Ba ρ μ tm a) (hu:P.underlying t=some (.slice e)) (hn:Bf P e=some n) {v:Aa}
  (h:MP Γ n (ev tm (AF x)) (Ml tm (lo.map AF)) (Ml tm (hi.map AF))=some v):Bu P ρ μ a o w v:=by
 have hx:=Aq hT x
 have am:P.elem t=e:=by simp [Program.elem,hu]
 have ae:P.underlying t=some (.slice (P.elem t)):=by rw [am];exact hu
 have hs:=Bx (w:=w) hn
 have key:∀(p:Option Addr) (len cap l h':Nat),a.eval x=.slice p len cap→((lo=none∧l=0)∨∃x k,lo=some x∧a.eval x=.int k (l:Int))→((hi=none∧h'=len)∨∃x k,hi=some x∧a.eval x=.int k (h':Int))→l≤h'→h'≤cap→Ag ρ μ v (sliced p l h' cap n)→Bu P ρ μ a o w v:=fun p len cap l h' C hl hh J h2 hv=>by
  have hb:=SW (P:=P) (w:=w) (sl:=true) hl hh J h2
  refine ⟨_,?_,hv⟩
  simp only [execOp,ho,Option.map_none,Sem.run_bind,run_sliceAt_slice w t _ _ _ _ ae,C,run_slice_any w t _ _ _ ae,hb,Result.andThen_ok,am,hs]
  simp
 have num:∀{y:Option Operand} {k:IntKind} {t:ST},Ml tm (y.map AF)=some (.int k t)→∃z,y=some z∧a.eval z=.int k (t.den ρ):=fun {y k t} e=>by
  obtain ⟨z,J,_,h3⟩:=YU hT e
  exact ⟨z,J,h3.int⟩
 unfold MP at h
 split at h
 ·rename_i f i es len e1
  obtain ⟨D,h⟩:=Ao h
  have D:=Al.1 D
  subst D
  rw [e1]at hx
  have X:=hx
  obtain ⟨p,cap,C,ad,au,hp⟩:=hx.Ey
  have take:∀(u:ST) (j:Nat),((hi=none∧u.den ρ=((ρ.lst i).length:Int))∨∃z k,hi=some z∧a.eval z=.int k (u.den ρ))→((lo=none)∨∃z k,lo=some z∧a.eval z=.int k 0)→JZ [.take i u] Γ.defs=some j→v=.lst false j n u→Bu P ρ μ a o w v:=fun u j hh hl Z hv=>by
   subst hv
   obtain ⟨A,B,M,⟨q2,q3,q4⟩,q5⟩:=hΓ.defs _ (Fm Z)
   have q5:B=[]:=q5
   subst q5
   rw [List.append_nil]at M
   have M:ρ.lst j=A:=M
   subst M
   obtain ⟨m,H⟩:∃m:Nat,u.den ρ=(m:Int):=⟨(u.den ρ).toNat,by omega⟩
   have O:(ρ.lst j).length=m:=by rw [q4,lT',H];simp;omega
   refine key p _ cap 0 m C ?_ ?_ (Nat.zero_le _) (by omega) ?_
   ·rcases hl with rfl|⟨z,k,rfl,e⟩
    ·exact .inl ⟨rfl,rfl⟩
    ·exact .inr ⟨z,k,rfl,e⟩
   ·rcases hh with ⟨rfl,e⟩|⟨z,k,rfl,e⟩
    ·exact .inl ⟨rfl,by omega⟩
    ·exact .inr ⟨z,k,rfl,by rw [e,H]⟩
   ·rw [DL]
    simp only [Ag,IG]
    refine ⟨⟨cap,by omega,?_⟩,by rw [O,H],fun e=>by cases e⟩
    by_cases h0:m=0
    ·exact .inl ⟨List.eq_nil_of_length_eq_zero (by omega),p,by rw [h0]⟩
    ·obtain ⟨r,δ,c,ty,rfl,k1,U⟩:=hp (by omega)
     refine .inr ⟨r,δ,c,ty,by rw [O],k1,?_⟩
     rw [q4]
     rw [B8]at U⊢
     refine ⟨fun ps R=>U.1 ps (List.mem_of_mem_take R),?_⟩
     have:=U.2
     rw [←List.take_append_drop (u.den ρ).toNat (ρ.lst i),List.flatten_append,AQ.append_iff]at this
     exact this.1
  have af:∀(ak:Option Aa),Ml tm (lo.map AF)=ak→JS Γ i n len ak (Ml tm (hi.map AF))=some v→Bu P ρ μ a o w v:=fun ak al h=>by
   unfold JS at h
   split at h
   ·rename_i k u d
    obtain ⟨j,Z,h⟩:=Ac h
    simp only [oI]at h
    obtain ⟨z,N,g⟩:=num d
    exact take u j (.inr ⟨z,k,N,g⟩) (.inl (DN al)) Z h.symm
   ·rename_i k0 k u d
    obtain ⟨j,Z,h⟩:=Ac h
    simp only [oI]at h
    obtain ⟨z,N,g⟩:=num d
    obtain ⟨z0,az,an⟩:=num al
    exact take u j (.inr ⟨z,k,N,g⟩) (.inr ⟨z0,k0,az,an⟩) Z h.symm
   ·rename_i _ k u d
    obtain ⟨j,Z,h⟩:=Ac h
    obtain ⟨u',ae,h⟩:=Ac h
    simp only [oI]at h
    subst h
    obtain ⟨z,N,g⟩:=num al
    obtain ⟨A,B,M,⟨q2,q3,q4⟩,q5⟩:=hΓ.defs _ (Fm Z)
    have q5:B=[]:=q5
    subst q5
    rw [List.append_nil]at M
    have M:ρ.lst j=A:=M
    subst M
    have aw:u'.den ρ=((ρ.lst j).length:Int):=hΓ.Ad _ (CH ae)
    obtain ⟨m,H⟩:∃m:Nat,u.den ρ=(m:Int):=⟨(u.den ρ).toNat,by omega⟩
    have ax:m≤(ρ.lst i).length:=by omega
    have O:(ρ.lst j).length=(ρ.lst i).length-m:=by rw [q4,List.length_drop,H];rfl
    refine key p _ cap m (ρ.lst i).length C (.inr ⟨z,k,N,by rw [g,H]⟩) (.inl ⟨DN d,rfl⟩) ax ad ?_
    simp only [Ag]
    refine ⟨?_,aw,fun e=>by cases e⟩
    by_cases h0:m=0
    ·subst h0
     rw [DL]
     have e:ρ.lst j=ρ.lst i:=by rw [q4,H];rfl
     rw [e,←C]
     exact X.lst.1
    ·obtain ⟨r,δ,c,ty,rfl,k1,U⟩:=hp (by omega)
     rw [Iw]
     simp only [IG]
     refine ⟨cap-m,by omega,?_⟩
     by_cases J:(ρ.lst j).length=0
     ·exact .inl ⟨List.eq_nil_of_length_eq_zero J,_,by rw [←O,J]⟩
     ·refine .inr ⟨r,δ+m*n,c,ty,?_,k1,?_⟩
      ·rw [if_neg (by omega),O]
      ·rw [q4,H]
       rw [B8]at U⊢
       refine ⟨fun ps R=>U.1 ps (List.mem_of_mem_drop R),?_⟩
       have:=U.2
       rw [←List.take_append_drop m (ρ.lst i),List.flatten_append,AQ.append_iff]at this
       have aB:((ρ.lst i).take m).flatten.length=m*n:=by
        rw [BJ fun ps R=>U.1 ps (List.mem_of_mem_take R),lT'];congr 1;omega
       rw [aB]at this
       exact this.2
   ·cases h
  unfold SZ at h
  split at h
  ·rename_i d Q
   simp only [oI]at h
   subst h
   exact key p _ cap 0 _ C (.inl ⟨DN d,rfl⟩) (.inl ⟨DN Q,rfl⟩) (Nat.zero_le _) ad (by rw [DL,←C];exact X)
  ·rename_i k u d Q
   cases hc:u.eq len with
   |true=>
    rw [hc]at h
    simp only [cond_true,oI]at h
    subst h
    obtain ⟨z,N,g⟩:=num Q
    have hc:=ST.Bg hc
    subst hc
    refine key p _ cap 0 _ C (.inl ⟨DN d,rfl⟩) (.inr ⟨z,k,N,by rw [g,au]⟩) (Nat.zero_le _) ad (by rw [DL,←C];exact X)
   |false=>
    rw [hc]at h
    simp only [cond_false]at h
    exact af none d (by rw [Q];exact h)
  ·exact af _ rfl h
 ·rename_i b es len e1
  obtain ⟨D,h⟩:=Ao h
  have D:=Al.1 D
  subst D
  rw [e1]at hx
  have X:=hx
  obtain ⟨r,m,k,H,C,hk,aN,ay⟩:=hx.vec
  unfold SX at h
  split at h
  ·rename_i d Q
   simp only [oI]at h
   subst h
   exact key _ _ _ 0 _ C (.inl ⟨DN d,rfl⟩) (.inl ⟨DN Q,rfl⟩) (Nat.zero_le _) (by omega) (by rw [DL,←C];exact X)
  ·rename_i kk u d Q
   obtain ⟨hc,h⟩:=Ao h
   simp only [oI]at h
   subst h
   rw [aT]at hc
   have J:=Jr hΓ hc.1
   have h2:=GM hΓ hc.2
   have J:0≤u.den ρ:=J
   obtain ⟨q,hq⟩:∃q:Nat,u.den ρ=(q:Int):=⟨(u.den ρ).toNat,by omega⟩
   obtain ⟨z,N,g⟩:=num Q
   refine key _ _ _ 0 q C (.inl ⟨DN d,rfl⟩) (.inr ⟨z,kk,N,by rw [g,hq]⟩) (Nat.zero_le _) (by omega) ?_
   rw [DL]
   simp only [Ag]
   exact ⟨r,m,q,H,rfl,hq,by omega,ay⟩
  ·cases h
 ·cases h
theorem Nz {o:Oper} {t e:TypeId} {x N O:Operand} {M:Option Operand} {n:Nat} (ho:o.op=.slice t x M (some N) (some O)) (R:Ba ρ μ tm a) (X:P.underlying t=some (.slice e)) (Z:Bf P e=some n) {v:Aa}
  (h:Gp n (ev tm (AF x)) (Ct tm 0 (M.map AF)) (fun d=>Ct tm d (some (AF N))) (some (CN (ev tm (AF O))))=some v):Bu P ρ μ a o w v:=by
 have C:=Aq R x
 have H:P.elem t=e:=by simp [Program.elem,X]
 have D:P.underlying t=some (.slice (P.elem t)):=by rw [H];exact X
 have hs:=Bx (w:=w) Z
 have key:∀(b c len r δ z u:Nat),(AB (Ct tm 0 (M.map AF)) fun l=>AB (CN (ev tm (AF N))) fun h=>AB (CN (ev tm (AF O))) fun m=>JR n b c len l h m)=some v→
   μ b=some (r,δ,z)→a.eval x=.slice (some ⟨r,δ+c,none⟩) len u→len≤u→Bu P ρ μ a o w v:=fun b c len r δ z u h y A j=>by
  obtain ⟨l,hl,h⟩:=Ac h
  obtain ⟨U,hh,h⟩:=Ac h
  obtain ⟨m,Q,h⟩:=Ac h
  unfold JR at h
  obtain ⟨hc,h⟩:=Ao h
  rw [aT,aT,AR,AR,AR]at hc
  simp only [oI]at h
  subst h
  have hb:=MO (P:=P) (w:=w) (sl:=true) (len:=len) (cap:=u) R hl hh Q hc.1.1 hc.1.2 (by omega)
  refine ⟨sliced (some ⟨r,δ+c,none⟩) l U m n,?_,?_⟩
  ·simp only [execOp,ho,Option.map_some,Sem.run_bind,run_sliceAt_slice w t _ _ _ _ D,A,run_slice_any w t _ _ _ D,hb,Result.andThen_ok,H,hs]
   simp
  ·rw [Iw]
   simp only [Ag,AI]
   refine ⟨r,δ,z,y,?_,by omega⟩
   by_cases e:m=l<;>simp [e,Nat.add_assoc]
 unfold Gp at h
 split at h
 ·rename_i g;simp at g
 ·rename_i g;simp at g
 ·rename_i b c len cap m' J k
  rw [J]at C
  simp only [oI]at k
  subst k
  obtain ⟨r,δ,z,y,A,j⟩:=C.slice
  exact key _ _ _ _ _ _ _ h y A j
 ·rename_i b c len cap m' J k
  rw [J]at C
  simp only [oI]at k
  subst k
  obtain ⟨r,δ,z,u,y,A,j,_⟩:=C.gslice
  exact key _ _ _ _ _ _ _ h y A j
 ·rename_i g;simp at g
 ·cases h
theorem Nl {α:Type} {o:Option α} {f:α→POp} {q:POp} (h:(o.map fun x=>DS.p (f x))=some (.p q)):∃x,o=some x∧q=f x:=by
 obtain ⟨x,c,e⟩:=mS h
 simp only [DS.p.injEq]at e
 exact ⟨x,c,e.symm⟩
theorem TW {t:TypeId} {d:TypeDesc} (h:P.underlying t=some d) (hd:∀ms,d≠.interface ms):P.concrete t=true:=by
 unfold Program.concrete
 rw [h]
 cases d<;>first|rfl|(exact absurd rfl (hd _))
theorem RB {o:Oper} {x:Operand} {xt t:TypeId} {ok:Bool} (M:o.op=.typeAssert x xt t ok) (Z:Ba ρ μ tm a) {d:TypeDesc} (N:P.underlying t=some d) (hd:∀ms,d≠.interface ms) {i:TypeInfo} (X:P.info? t=some i)
  {z:Option Aa} (J:if ok then∃c,i.zero=some c∧z=some (Hg c)else z=none) {v:Aa} (h:Sc t z (ev tm (AF x))=some v):Bu P ρ μ a o w v:=by
 have j:=Aq Z x
 unfold Sc at h
 split at h
 ·rename_i u y H
  have U:ok=false:=by
   cases ok
   ·rfl
   ·obtain ⟨_,_,e⟩:=J;cases e
  subst U
  obtain ⟨hc,O⟩:=Ao h
  have hc:=Al.1 hc
  subst hc
  have O:y=v:=by simpa using O
  subst O
  rw [H]at j
  obtain ⟨R,g,Q⟩:=j.iface
  refine ⟨R,?_,Q⟩
  cases d<;>first|exact absurd rfl (hd _) |simp [execOp,M,Instr.typeAssert,run_underlying N,g]
 ·rename_i u y zz H
  have A:ok=true:=by
   cases ok
   ·cases J
   ·rfl
  subst A
  obtain ⟨c,D,k⟩:=J
  simp only [oI]at k
  subst k
  simp only [oI]at h
  rw [H]at j
  obtain ⟨R,g,Q⟩:=j.iface
  rw [AI]at h
  by_cases hut:u=t
  ·rw [if_pos hut]at h
   subst h
   refine ⟨.tuple #[R,.bool true],?_,?_⟩
   ·cases d<;>first|exact absurd rfl (hd _) |simp [execOp,M,Instr.typeAssert,run_underlying N,g,hut]
   ·simp only [Ag]
    exact ⟨_,rfl,by simp only [A7];exact ⟨_,_,rfl,Q,_,_,rfl,rfl,rfl⟩⟩
  ·rw [if_neg hut]at h
   subst h
   have C:(zeroValue t).run P w=.ok c w:=by simp [zeroValue,typeInfo,X,D]
   refine ⟨.tuple #[c,.bool false],?_,?_⟩
   ·cases d<;>first|exact absurd rfl (hd _) |simp [execOp,M,Instr.typeAssert,run_underlying N,g,hut,C]
   ·simp only [Ag]
    exact ⟨_,rfl,by simp only [A7];exact ⟨_,_,rfl,Dm c,_,_,rfl,rfl,rfl⟩⟩
 ·rename_i zz H
  have A:ok=true:=by
   cases ok
   ·cases J
   ·rfl
  subst A
  obtain ⟨c,D,k⟩:=J
  simp only [oI]at k
  subst k
  simp only [oI]at h
  subst h
  rw [H]at j
  have g:a.eval x=.nilIface:=by simpa only [Ag]using j
  have C:(zeroValue t).run P w=.ok c w:=by simp [zeroValue,typeInfo,X,D]
  refine ⟨.tuple #[c,.bool false],?_,?_⟩
  ·cases d<;>first|exact absurd rfl (hd _) |simp [execOp,M,Instr.typeAssert,run_underlying N,g,C]
  ·simp only [Ag]
   exact ⟨_,rfl,by simp only [A7];exact ⟨_,_,rfl,Dm c,_,_,rfl,rfl,rfl⟩⟩
 ·cases h
theorem Cu {t:TypeId} {ok:Bool} {x:Operand} {q:DS} (h:J0 P t ok x=some q):
  ∃d i z,P.underlying t=some d∧(∀ms,d≠.interface ms)∧P.info? t=some i∧(if ok then∃c,i.zero=some c∧z=some (Hg c)else z=none)∧q=.p (.assert t z (AF x)):=by
 unfold J0 at h
 split at h
 ·cases h
 ·rename_i d i j k o
  have hd:∀ms,d≠.interface ms:=fun ms e=>j ms e
  split at h
  ·rename_i g
   obtain ⟨c,u,e⟩:=mS h
   subst g
   exact ⟨d,i,some (Hg c),k,hd,o,by simp only [if_true];exact ⟨c,u,rfl⟩,e.symm⟩
  ·rename_i g
   simp only [oI]at h
   exact ⟨d,i,none,k,hd,o,by rw [if_neg g],h.symm⟩
 ·cases h
theorem CV {s d:TypeId} {x:Operand} {q:DS} (h:NU P s d x=some q):
  (∃g k,P.underlying s=some (.int g)∧P.underlying d=some (.int k)∧q=.p (.conv k (AF x)))∨(P.underlying s=some .string∧P.underlying d=some .string∧q=.p (.same (AF x)))∨
  (∃t n,P.underlying s=some (.pointer t)∧P.underlying d=some .unsafePointer∧Bf P t=some (n+1)∧q=.r (.uptr (HC P fun _ _=>true) (AF x)))∨
  (∃u n,P.underlying s=some .unsafePointer∧P.underlying d=some (.pointer u)∧Bf P u=some n∧q=.r (.uptr (HC P fun e n=>liesAt P P.depth e (n/P.cellsOf e) 0 u 1) (AF x)))∨
  (∃e,P.underlying s=some (.slice e)∧P.underlying e=some (.int .u8)∧P.underlying d=some .string∧q=.r (.bstr (AF x))):=by
 unfold NU at h
 split at h
 ·rename_i g k hs hd
  simp only [oI]at h
  exact .inl ⟨g,k,hs,hd,h.symm⟩
 ·rename_i hs hd
  simp only [oI]at h
  exact .inr (.inl ⟨hs,hd,h.symm⟩)
 ·rename_i e hs hd
  split at h
  ·rename_i j
   simp only [oI]at h
   exact .inr (.inr (.inr (.inr ⟨e,hs,j,hd,h.symm⟩)))
  ·cases h
 ·rename_i t hs hd
  split at h
  ·rename_i n c
   simp only [oI]at h
   exact .inr (.inr (.inl ⟨t,n,hs,hd,c,h.symm⟩))
  ·cases h
 ·rename_i u hs hd
  obtain ⟨n,c,h⟩:=mS h
  exact .inr (.inr (.inr (.inl ⟨u,n,hs,hd,c,h.symm⟩)))
 ·cases h
theorem MY (H:Γ.AG ρ) (u:Ba ρ μ tm a) {pl:List C5} {o:Oper} {q:POp} (hc:D8 P pl o=some (.p q)) {v:Aa} (h:IU Γ tm q=some v):Bu P ρ μ a o w v:=by
 cases hop:o.op<;>simp only [D8,hop,reduceCtorEq,oI,DS.p.injEq]at hc
 case move x=>subst hc;simp only [IU,oI]at h;subst h;exact TA (.inl hop) u
 case assign x=>subst hc;simp only [IU,oI]at h;subst h;exact TA (.inr hop) u
 case pick c x y=>subst hc;exact VG hop u h
 case alloc t=>obtain ⟨_,_,e⟩:=mS hc;cases e
 case build t parts=>
  split at hc
  ·rename_i fs z j O
   split at hc
   ·rename_i U
    obtain ⟨ps,X,rfl⟩:=Nl hc
    exact Js hop u j O U X h
   ·cases hc
  ·rename_i k e z j O
   obtain ⟨n,C,hc⟩:=Option.bind_eq_some_iff.1 hc
   obtain ⟨ps,X,rfl⟩:=Nl hc
   exact Kf hop u j O C X h
  ·cases hc
 case nilCheck x=>subst hc;exact VH hop u h
 case binOp op t x y yt=>
  obtain ⟨q',D,e⟩:=mS hc
  simp only [DS.p.injEq]at e
  subst e
  have eqs:∀N:Bool,op=(if N then .neq else .eql)→RZ P pl N t x y=some q'→Bu P ρ μ a o w v:=fun N aa A=>by
   clear D hc
   subst aa
   unfold RZ at A
   split at A
   ·rename_i j;simp only [oI]at A;subst A;exact OF hop u j h
   ·rename_i j
    obtain ⟨n,C,A⟩:=Option.bind_eq_some_iff.1 A
    simp only [oI]at A;subst A;exact R8 hop u j C h
   ·rename_i j;simp only [oI]at A;subst A;exact N0 hop u j h
   ·rename_i j;simp only [oI]at A;subst A;exact R9 hop u j h
   ·rename_i j;simp only [oI]at A;subst A;exact OE hop u j h
   ·rename_i fs j
    split at A
    ·rename_i l hl
     split at A
     ·cases A
     ·rename_i M
      simp only [oI]at A;subst A
      exact HR hop H u (.inl ⟨_,j⟩) hl (by simpa using M) h
    ·cases A
   ·rename_i k e j
    split at A
    ·rename_i l hl
     split at A
     ·cases A
     ·rename_i M
      simp only [oI]at A;subst A
      exact HR hop H u (.inr ⟨_,_,j⟩) hl (by simpa using M) h
    ·cases A
   ·rename_i ms j
    split at A
    ·rename_i ad
     simp only [oI]at A;subst A
     exact N1 hop H u j ad rfl h
    ·cases A
   ·cases A
  unfold Yl at D
  split at D
  ·simp only [oI]at D;subst D;exact PN hop H u h
  ·simp only [oI]at D;subst D;exact PN hop H u h
  ·exact eqs false rfl D
  ·exact eqs true rfl D
  ·cases D
 case unOp op t x=>subst hc;exact Ack hop H u h
 case convert s d x=>
  rcases CV hc with ⟨k0,k,hs,hd,e⟩|⟨hs,hd,e⟩|⟨_,_,_,_,_,e⟩|⟨_,_,_,_,_,e⟩|⟨_,_,_,_,e⟩
  ·simp only [DS.p.injEq]at e;subst e
   exact VN hop H u hs hd h
  ·simp only [DS.p.injEq]at e;subst e
   exact VF hop u hs hd h
  ·cases e
  ·cases e
  ·cases e
 case typeAssert x xt t ok=>
  obtain ⟨d,i,z,j,hd,J,O,e⟩:=Cu hc
  simp only [DS.p.injEq]at e;subst e
  exact RB hop u j hd J O h
 case makeInterface t x=>
  split at hc
  ·cases hc
  ·rename_i d ae hd
   simp only [oI,DS.p.injEq]at hc;subst hc
   simp only [IU,oI]at h;subst h
   exact TB hop u (TW hd fun ms e=>ae ms (by rw [e]))
  ·cases hc
 case makeFunc fn x c=>
  cases fn<;>simp only [reduceCtorEq,oI,DS.p.injEq]at hc
  subst hc
  simp only [IU,oI]at h;subst h
  exact VM hop u
 case slice t x lo J mx=>
  split at hc
  ·rename_i j
   simp only [oI,DS.p.injEq]at hc;subst hc
   exact VE hop u j h
  ·rename_i e j
   obtain ⟨n,C,rfl⟩:=Nl hc
   have h:Gn Γ tm n (ev tm (AF x)) (lo.map AF) (J.map AF) none=some v:=h
   unfold Gn at h
   split at h
   ·exact Ny H hop u j C h
   ·exact OD hop u j C h
  ·rename_i e m j
   split at hc
   ·rename_i ab
    obtain ⟨n,C,rfl⟩:=Nl hc
    obtain ⟨J,rfl⟩:=Option.isSome_iff_exists.1 ab
    have h:Gp n (ev tm (AF x)) (Ct tm 0 (lo.map AF)) (fun d=>Ct tm d (some (AF J))) (some (CN (ev tm (AF m))))=some v:=by
     have h:Gn Γ tm n (ev tm (AF x)) (lo.map AF) (some (AF J)) (some (AF m))=some v:=h
     unfold Gn at h
     split at h
     ·rename_i e;simp at e
     ·exact h
    exact Nz hop u j C h
   ·cases hc
  ·cases hc
 case fieldAddr t x f=>
  split at hc
  ·rename_i fs j
   obtain ⟨g,hg,hc⟩:=Option.bind_eq_some_iff.1 hc
   split at hc
   ·rename_i n C
    simp only [oI,DS.p.injEq]at hc;subst hc
    exact R7 hop u j hg C h
   ·cases hc
  ·cases hc
 case field t x f=>
  split at hc
  ·rename_i fs j
   obtain ⟨g,hg,hc⟩:=Option.bind_eq_some_iff.1 hc
   obtain ⟨n,C,rfl⟩:=Nl hc
   exact TC hop u j hg C h
  ·cases hc
 case indexAddr t x i=>
  split at hc
  ·rename_i e j
   obtain ⟨n,C,rfl⟩:=Nl hc
   exact VL H hop u j C h
  ·rename_i len e j
   obtain ⟨n,C,rfl⟩:=Nl hc
   exact R6 hop u j C h
  ·cases hc
 case index t x i=>
  split at hc
  ·rename_i len e j
   split at hc
   ·rename_i n ag C ha
    simp only [oI,DS.p.injEq]at hc;subst hc
    exact Zh hop u j C ha h
   ·cases hc
  ·rename_i j
   simp only [oI,DS.p.injEq]at hc;subst hc
   exact VK hop u j h
  ·cases hc
 case extract x i=>subst hc;exact Zi hop u h
 case call c=>
  unfold F6 at hc
  split at hc
  ·split at hc
   ·split at hc
    ·simp at hc
    ·split at hc
     ·split at hc<;>simp at hc
     ·split at hc
      ·split at hc<;>simp at hc
      ·cases hc
   ·cases hc
  ·simp at hc
  ·cases hc
  ·rename_i b hb
   split at hc
   ·rename_i x t R e2
    have Q:c.args=#[x]:=by rw [←Array.toList_inj];simpa using R
    have Z:c.argTypes=#[t]:=by rw [←Array.toList_inj];simpa using e2
    split at hc
    ·rename_i j
     simp only [oI,DS.p.injEq]at hc;subst hc
     exact VI H hop hb Q Z u j h
    ·rename_i e j
     simp only [oI,DS.p.injEq]at hc;subst hc
     exact VJ hop hb Q Z u j h
    ·rename_i n e j
     simp only [oI,DS.p.injEq]at hc;subst hc
     have h:some (lit .i64 (.ofNat n))=some v:=h
     simp only [oI]at h
     subst h
     exact ⟨.int .i64 n,by simp [execOp,hop,resolve,hb,Q,Z,invoke,builtin,Builtin.len_,run_underlying j,goInt],by simp only [lit,Ag,ST.den];rfl⟩
    ·simp at hc
    ·cases hc
   ·exfalso
    unfold Fg at hc
    split at hc<;>first|cases hc|skip
    all_goals (split at hc<;>first|(cases hc;done) |(split at hc<;>simp at hc))
   ·exfalso
    split at hc<;>first|(cases hc;done) |(obtain ⟨_,_,e⟩:=mS hc;cases e)
   ·simp only [oI,DS.p.injEq]at hc;subst hc
    exact PO H (most:=true) hop hb rfl u h
   ·simp only [oI,DS.p.injEq]at hc;subst hc
    exact PO H (most:=false) hop hb rfl u h
   ·simp at hc
   ·rename_i x R
    have Q:c.args=#[x]:=by rw [←Array.toList_inj];simpa using R
    simp only [oI,DS.p.injEq]at hc;subst hc
    exact T8 hop hb Q u h
   ·exfalso
    split at hc
    ·split at hc<;>simp at hc
    ·cases hc
   ·cases hc
 case defer c=>
  obtain ⟨ac,args,ai⟩:=c
  cases ac<;>simp at hc
 all_goals
  exfalso
  first
   |(cases hc;done)
   |(split at hc<;>first|(cases hc;done) |(simp at hc;done) |(obtain ⟨_,_,e⟩:=mS hc;cases e;done) |(split at hc<;>first|(cases hc;done) |(simp at hc;done) |(split at hc<;>first|(cases hc;done) |(simp at hc;done) |(obtain ⟨_,_,e⟩:=mS hc;cases e;done))))
   |(obtain ⟨_,_,e⟩:=mS hc;cases e;done)
end
end Go.AM
end
section
namespace Go.AM
section
variable {P:Program} {Γ:An} {ρ:Env} {μ:Ap} {tm:Tr Aa} {a:Act} {w:World} {h:Ak}
theorem Fh {o:Option Block} {vs:List Aa} (h:cellsOf o=some vs):o=some (.cells vs)∨∃e,o=some (.typed e vs):=by
 unfold cellsOf at h
 split at h
 ·simp only [oI]at h;rw [h];exact .inl rfl
 ·simp only [oI]at h;rw [h];exact .inr ⟨_,rfl⟩
 ·cases h
theorem Ku {o:Option Block} {m:Nat×Nat} (h:bytesOf o=some m):o=some (.bytes m.1 m.2):=by
 unfold bytesOf at h
 split at h
 ·simp only [oI]at h;rw [←h]
 ·cases h
theorem DI {o:Option Block} {m:List Entry×Nat} (h:mapOf o=some m):o=some (.map m.1 m.2):=by
 unfold mapOf at h
 split at h
 ·simp only [oI]at h;rw [←h]
 ·cases h
theorem AH.cells (H:AH ρ μ h w) {b:Nat} {vs:List Aa} (hb:cellsOf (h.get b)=some vs):∃r δ m c e,μ b=some (r,δ,m)∧w.heap[r]?=some (.cells c e (0,0))∧δ+m≤c.size∧
  ∀(i:Nat) (x:Aa),vs[i]?=some x→∃v,c[δ+i]?=some v∧x.single=true∧Ag ρ μ x v:=by
 rcases Fh hb with hb|⟨t,hb⟩
 ·obtain ⟨r,⟨δ,m⟩,g,c,e,j,d,hc⟩:=H.blk b _ hb
  exact ⟨r,δ,m,c,e,g,j,d,hc⟩
 ·obtain ⟨r,⟨δ,m⟩,g,c,j,_,d,hc⟩:=H.blk b _ hb
  exact ⟨r,δ,m,c,_,g,j,d,hc⟩
theorem LX {o:Option Block} {vs:List Aa} (h:cellsOf o=some vs):∃B,o=some B:=by
 rcases Fh h with h|⟨_,h⟩<;>exact ⟨_,h⟩
theorem AH.map (H:AH ρ μ h w) {b:Nat} {c:List Entry} {k:Nat} (hb:h.get b=some (.map c k)):∃r ms,μ b=some (r,0,0)∧w.heap[r]?=some (.map ms k)∧Ca ρ μ c ms.toList:=by
 obtain ⟨r,δ,d,rfl,ms,g,hc⟩:=H.blk b _ hb
 exact ⟨r,ms,d,g,hc⟩
theorem C0 {r j:Nat} {c:Array Value} {e:TypeId} {fr:Nat×Nat} (hg:w.heap[r]?=some (.cells c e fr)):w.cell? ⟨r,j,none⟩=c[j]?:=cell_of_row w r j c e fr hg
theorem DP {vs r:List Aa} {c:Array Value} {δ i n:Nat} (hc:∀(i:Nat) (x:Aa),vs[i]?=some x→∃v,c[δ+i]?=some v∧x.single=true∧Ag ρ μ x v) (h:cut vs i n=some r):
  ∃l:List Value,l.length=n∧Aw ρ μ r l∧∀j v,l[j]?=some v→c[δ+i+j]?=some v:=by
 obtain ⟨k,g,u⟩:=Ks h
 rcases g with rfl|g
 ·exact ⟨[],rfl,by rw [List.eq_nil_of_length_eq_zero k];simp only [Aw],fun j v hv=>by simp at hv⟩
 have o:∀j,j<n→∃v,c[δ+i+j]?=some v:=fun j y=>by
  obtain ⟨x,d⟩:∃x,vs[i+j]?=some x:=⟨_,List.getElem?_eq_getElem (by omega)⟩
  obtain ⟨v,hv,_⟩:=hc _ _ d
  exact ⟨v,by rw [Nat.add_assoc];exact hv⟩
 have A:δ+i+n≤c.size∨n=0:=by
  rcases Nat.eq_zero_or_pos n with h0|h0
  ·exact .inr h0
  ·left
   obtain ⟨v,hv⟩:=o (n-1) (by omega)
   have:=(Array.getElem?_eq_some_iff.1 hv).1
   omega
 refine ⟨(c.extract (δ+i) (δ+i+n)).toList,?_,?_,fun j v hv=>?_⟩
 ·rw [Array.length_toList,Array.size_extract];omega
 ·refine Aw.KJ ?_ fun j x d=>?_
  ·rw [k,Array.length_toList,Array.size_extract];omega
  ·rw [u]at d
   split at d
   ·rename_i y
    obtain ⟨v,hv,hs,z⟩:=hc _ _ d
    refine ⟨v,?_,hs,z⟩
    rw [Array.getElem?_toList,Array.getElem?_extract,if_pos (by omega),Nat.add_assoc]
    exact hv
   ·cases d
 ·rw [Array.getElem?_toList,Array.getElem?_extract]at hv
  split at hv
  ·exact hv
  ·cases hv
theorem Jp {t:TypeId} {n:Option Nat} (M:Eg P t=some n) {vs:List Aa} {r δ g:Nat} {c:Array Value} {e:TypeId} {fr:Nat×Nat} (o:w.heap[r]?=some (.cells c e fr))
  (hc:∀(i:Nat) (x:Aa),vs[i]?=some x→∃v,c[δ+i]?=some v∧x.single=true∧Ag ρ μ x v) {v:Aa} (hl:JV vs g n=some v):
  ∃C,(Instr.loadAt t (.pointer (some ⟨r,δ+g,none⟩))).run P w=.ok C w∧Ag ρ μ v C:=by
 obtain ⟨y,H⟩:=E7 P w t M
 unfold JV at hl
 cases n with
 |none=>
  simp only at hl
  rw [KL]at hl
  obtain ⟨u,J,_,N⟩:=hc _ _ hl
  refine ⟨u,?_,N⟩
  simp [Instr.loadAt,Instr.sureAddr,loadVar,y,run_load,C0 o,J]
 |some n=>
  simp only at hl
  obtain ⟨O,D,hl⟩:=Ac hl
  simp only [oI]at hl
  subst hl
  obtain ⟨l,A,z,k⟩:=DP hc D
  have d:=run_loadCells_list (P:=P) (w:=w) ⟨r,δ+g,none⟩ l (fun j v hv=>by rw [Addr.Bh,C0 o];exact k j v hv)
  rw [A]at d
  refine ⟨.agg l.toArray,?_,?_⟩
  ·simp [Instr.loadAt,Instr.sureAddr,loadVar,y,H n rfl,d]
  ·simp only [Ag];exact ⟨_,rfl,by simpa using z⟩
theorem Di {o:Option Block} {l:Nat×Nat} (h:Ns o=some l):o=some (.list l.1 l.2):=by
 unfold Ns at h
 split at h
 ·simp only [oI]at h;rw [←h]
 ·cases h
theorem Nq {Γ:An} (hΓ:Γ.AG ρ) (H:AH ρ μ h w) {t:TypeId} {n:Option Nat} (R:Eg P t=some n) {x v:Aa} {u:Value} (N:Ag ρ μ x u) (hl:Nr Γ h n x=some v):
  ∃v',(Instr.loadAt t u).run P w=.ok v' w∧Ag ρ μ v v':=by
 unfold Nr at hl
 split at hl
 ·rename_i b es j C
  obtain ⟨vs,d,ac⟩:=Ac hl
  unfold elemV at d
  obtain ⟨⟨Z,D⟩,ad,J⟩:=Ac d
  obtain ⟨z,M⟩:=Ao J
  have z:D=es:=Al.1 z
  subst z
  obtain ⟨r,m,O,rfl,A⟩:=N.vptr
  obtain ⟨r1,⟨δ1,m1⟩,y,c0,ty,U,h0,_,_,_,_,X⟩:=H.blk b _ (Di ad)
  rw [O]at y
  simp only [oI,Prod.mk.injEq]at y
  obtain ⟨rfl,rfl,rfl⟩:=y
  have X:BR μ.Bb D c0 0 (ρ.lst Z):=X
  obtain ⟨o,k1,g,Q⟩:=hΓ.elems _ (I1 M)
  have g:(ρ.lst Z)[(j.den ρ).toNat]?=some o:=g
  have h6:=(X.get _ _ g).2
  rw [Nat.zero_add]at h6
  exact Jp R U (AQ.Ux Q h6).2 ac
 ·rename_i i j C
  obtain ⟨vs,d,hl⟩:=Ac hl
  obtain ⟨r,δ,c,e,ps,rfl,A,h2,h3,h4⟩:=N.lptr
  obtain ⟨o,k1,g,Q⟩:=hΓ.elems _ (I1 d)
  have g:(ρ.lst i)[(j.den ρ).toNat]?=some o:=g
  rw [h3]at g
  simp only [oI]at g
  subst g
  obtain ⟨_,A⟩:=A
  exact Jp R (H.AS.Bb _ _ A).1 (AQ.Ux Q h4).2 hl
 ·rename_i b C
  obtain ⟨vs,d,hl⟩:=Ac hl
  obtain ⟨r,δ,m,c,e,O,ho,_,hc⟩:=H.cells d
  obtain ⟨r',δ',m',k,rfl⟩:=N.ptr
  rw [O]at k
  simp only [oI,Prod.mk.injEq]at k
  obtain ⟨rfl,rfl,rfl⟩:=k
  exact Jp R ho hc hl
 ·cases hl
theorem PI {t:TypeId} {kk:LK} (h:Zc P t=some kk):∃d,P.underlying t=some d∧kk.fits d:=by
 unfold Zc at h
 split at h<;>first|cases h|skip
 ·rename_i c;exact ⟨_,c,rfl⟩
 ·rename_i c;exact ⟨_,c,_,rfl⟩
 ·rename_i c;exact ⟨_,c,rfl⟩
theorem O3 {kk:LK} {d:TypeDesc} (c:kk.fits d) {x y:Aa} {u v:Value} (j:Ag ρ μ x u) (g:Ag ρ μ y v) {b:Bool} (h:PJ kk x y=some b):Instr.sameNow d u v=some b:=by
 unfold PJ at h
 split at h
 ·obtain ⟨i,rfl⟩:=c
  obtain ⟨e,k⟩:=Ao h
  simp only [oI]at k
  rw [j.int,g.int,Dt.1 e,←k,Rx]
  simp [Instr.sameNow,ST.den]
 ·have c:d=.string:=c
  subst c
  simp only [oI]at h
  obtain ⟨s,rfl,z⟩:=j.str
  obtain ⟨A,rfl,o⟩:=g.str
  rw [←h,←z,←o,CT,←beq_toListBytes]
  simp [Instr.sameNow]
 ·have c:d=.bool:=c
  subst c
  simp only [oI]at h
  rw [j.bool,g.bool,←h,beq_eq]
  simp [Instr.sameNow,SB.den]
 ·cases h
theorem MM {Γ:An} (z:Γ.AG ρ) {kk:LK} {d:TypeDesc} (c:kk.fits d) {x y:Aa} {u v:Value} (j:Ag ρ μ x u) (g:Ag ρ μ y v) {b:Bool} (h:Jy Γ kk x y=some b):Instr.sameNow d u v=some b:=by
 unfold Jy at h
 split at h
 ·rename_i N m P Q
  obtain ⟨i,rfl⟩:=c
  obtain ⟨A,o⟩:=Ao h
  clear h
  have H:=Dt.1 A
  subst H
  have hc:=(CU z (PG o)).1
  rw [j.int,g.int]
  simp only [SB.den,EK]at hc
  simp [Instr.sameNow,hc]
 ·have c:d=.bool:=c
  subst c
  simp only [oI]at h
  rw [j.bool,g.bool,←h,beq_eq]
  simp [Instr.sameNow,SB.den]
 ·have c:d=.string:=c
  subst c
  simp only [oI]at h
  obtain ⟨s,rfl,J⟩:=j.str
  obtain ⟨O,rfl,C⟩:=g.str
  rw [←h,←J,←C,CT,←beq_toListBytes]
  simp [Instr.sameNow]
 all_goals first
  |(cases h;done)
  |(have c:d=.string:=c
    subst c
    obtain ⟨s,R,M,o,k⟩:=z.strs _ (Gt h)
    obtain ⟨D,rfl,rfl⟩:=BS M j
    obtain ⟨b2,rfl,rfl⟩:=BS o g
    have k:b=decide (strOf D=strOf b2):=k
    simp only [Instr.sameNow]
    rw [beq_toListBytes,k,←beq_toListBytes]
    congr 1
    rw [beq_toListBytes,Bool.eq_iff_iff,←CT,DF];simp)
theorem GX {kk:LK} {d:TypeDesc} {t:TypeId} (g:P.underlying t=some d) (c:kk.fits d) (j:Bool) (n:Nat) (u:Value):(Instr.checkKey j (n+1) t u).run P w=.ok () w:=by
 cases kk
 ·have c:d=.bool:=c
  subst c
  cases u<;>simp [Instr.checkKey,run_underlying g]
 ·obtain ⟨i,rfl⟩:=c
  cases u<;>simp [Instr.checkKey,run_underlying g]
 ·have c:d=.string:=c
  subst c
  cases u<;>simp [Instr.checkKey,run_underlying g]
theorem LR {Γ:An} (A:Γ.AG ρ) {kk:LK} {d:TypeDesc} (H:kk.fits d) {x:Aa} {u:Value} (C:Ag ρ μ x u):∀{k:List Entry} {ms:List MapEntry} {r:Option Aa} (n:Nat),Ca ρ μ k ms→Acr Γ kk x k=some r→
  ∃c,Instr.findNow d u ms n=some c∧(match r with|none=>c=none|some v=>∃i D,c=some (i,D)∧Ag ρ μ v D)
 |[],ms,r,n,he,h=>by
  simp only [Ca]at he
  subst he
  have h:some none=some r:=h
  simp only [oI]at h
  subst h
  exact ⟨none,rfl,rfl⟩
 |e::k,ms,r,n,he,h=>by
  simp only [Ca]at he
  obtain ⟨m,rest,rfl,⟨hs,y,z,_⟩,j⟩:=he
  have h:(AB (Jy Γ kk x e.key) fun b=>bif b then some (some e.val)else Acr Γ kk x k)=some r:=h
  obtain ⟨b,hb,g⟩:=Ac h
  have o:=MM A H C y hb
  cases b with
  |true=>
   simp only [cond_true,oI]at g
   subst g
   exact ⟨some (n,m.val),by simp [Instr.findNow,o],n,m.val,rfl,z⟩
  |false=>
   simp only [cond_false]at g
   obtain ⟨c,J,M⟩:=LR A H C (n+1) j g
   exact ⟨c,by simp [Instr.findNow,o,J],M⟩
theorem run_findKey {t:TypeId} {d:TypeDesc} (c:P.underlying t=some d) {u:Value} {ms:List MapEntry} {r:Option (Nat×Value)} (h:Instr.findNow d u ms 0=some r):(Instr.findKey t u ms).run P w=.ok r w:=by
 simp [Instr.findKey,run_underlying c,h]
theorem HS {ok b:Bool} {v:Aa} {u:Value} (hv:Ag ρ μ v u):Ag ρ μ (VP ok v b) (if ok then .tuple #[u,.bool b]else u):=by
 unfold VP
 cases ok
 ·exact hv
 ·simp only [cond_true,if_true,Ag]
  exact ⟨_,rfl,by simp only [A7];exact ⟨_,_,rfl,hv,_,_,rfl,by simp only [Ag,SB.den],rfl⟩⟩
theorem EB {o:Option Block} {i:Nat} (h:Jj o=some i):o=some (.smap i):=by
 unfold Jj at h
 split at h
 ·simp only [oI]at h;rw [h]
 ·cases h
theorem LB {kk:LK} {x:Aa} (h:Qr kk x=true):kk=.str∧∃s,Et ρ x=some s:=by
 unfold Qr at h
 split at h
 ·exact ⟨rfl,_,rfl⟩
 ·exact ⟨rfl,_,rfl⟩
 ·cases h
theorem LQ {Bb:Nat→Option Obj} {b:ByteArray}:∀{l:List (List Nat×List PV)} {ms:List MapEntry} (n:Nat),J6 Bb l ms→
  ∃d,Instr.findNow .string (.string b) ms n=some d∧(match BK l (strOf b)with|none=>d=none|some ps=>∃i a,d=some (i,.agg a)∧a.size=ps.length∧AQ Bb a 0 ps)
 |[],ms,n,c=>by
  have c:ms=[]:=c
  subst c
  exact ⟨none,rfl,rfl⟩
 |e::es,ms,n,c=>by
  obtain ⟨m,rest,rfl,⟨x,u,o⟩,⟨a,ha,hs,A⟩,g⟩:=c
  have j:Instr.sameNow .string (.string b) m.key=some (decide (strOf b=e.1)):=by
   rw [u,←o]
   have:decide (strOf b=strOf x)=(b.toList==x.toList):=by rw [←CT,Bool.eq_iff_iff,DF];simp
   rw [this,←beq_toListBytes]
   simp [Instr.sameNow]
  by_cases hc:e.1=strOf b
  ·refine ⟨some (n,m.val),by simp [Instr.findNow,j,hc],?_⟩
   simp only [BK,hc,if_true]
   exact ⟨n,a,by rw [ha],hs,A⟩
  ·have k:¬strOf b=e.1:=fun h=>hc h.symm
   obtain ⟨d,y,z⟩:=LQ (b:=b) (n+1) g
   refine ⟨d,by simp [Instr.findNow,j,k,y],?_⟩
   simp only [BK,if_neg hc]
   exact z
theorem AH.smap (H:AH ρ μ h w) {b i:Nat} (hb:h.get b=some (.smap i)):∃r ms c,μ b=some (r,0,0)∧w.heap[r]?=some (.map ms c)∧J6 μ.Bb (ρ.map i) ms.toList:=by
 obtain ⟨r,δ,d,rfl,ms,c,g,hc⟩:=H.blk b _ hb
 exact ⟨r,ms,c,d,g,hc⟩
theorem Ro {Γ:An} (hΓ:Γ.AG ρ) (H:AH ρ μ h w) {t R e:TypeId} {kk:LK} {i:TypeInfo} {z:Value} (M:P.underlying t=some (.map R e)) (hk:Zc P R=some kk) (hi:P.info? e=some i) (hz:i.zero=some z) {m k v:Aa} {um N:Value} {ok:Bool}
  (hm:Ag ρ μ m um) (X:Ag ρ μ k N) (hl:XV Γ h kk m k (Hg z) ok=some v):∃v',(Instr.lookup t um N ok).run P w=.ok v' w∧Ag ρ μ v v':=by
 obtain ⟨d,hd,hf⟩:=PI hk
 have J:(zeroValue e).run P w=.ok z w:=by simp [zeroValue,typeInfo,hi,hz]
 have y:∀em,(Instr.checkKey em 10000 R N).run P w=.ok () w:=fun em=>GX hd hf em 9999 N
 unfold XV at hl
 split at hl
 ·have A:um=.map none:=by simpa only [Ag]using hm
  simp only [oI]at hl
  subst hl
  refine ⟨_,?_,HS (Dm z)⟩
  have c:(Instr.findKey R N []).run P w=.ok none w:=run_findKey hd rfl
  simp [Instr.lookup,run_underlying M,A,y,c,J]
 ·rename_i b
  unfold Vu at hl
  split at hl
  ·rename_i i' aj
   obtain ⟨am,Z⟩:=Ao hl
   clear hl
   obtain ⟨rfl,s,hs⟩:=LB (ρ:=ρ) am
   have hf:d=.string:=hf
   subst hf
   obtain ⟨kb,rfl,rfl⟩:=BS hs X
   obtain ⟨g,ms,Q,hg,ho,he⟩:=H.smap (EB aj)
   obtain ⟨g',j,A⟩:=hm.O6
   rw [hg]at j
   simp only [oI,Prod.mk.injEq]at j
   obtain ⟨rfl,_⟩:=j
   obtain ⟨r',h1,o⟩:=LQ (b:=kb) 0 he
   have c:=run_findKey (P:=P) (w:=w) hd h1
   have x:(getObj g).run P w=.ok (.map ms Q) w:=by simp [getObj,Sem.run,ho]
   unfold Ag6 at Z
   obtain ⟨r,hr,C⟩:=Ac Z
   obtain ⟨s',O,D⟩:=hΓ.looks _ (PC hr)
   have O:Et ρ k=some s':=O
   rw [hs]at O
   simp only [oI]at O
   subst O
   cases r with
   |none=>
    simp only at D
    rw [D]at o
    simp only at o
    subst o
    simp only [oI]at C
    subst C
    refine ⟨_,?_,HS (Dm z)⟩
    simp [Instr.lookup,run_underlying M,A,x,y,c,J]
   |some cs=>
    obtain ⟨ps,D,q3⟩:=D
    rw [D]at o
    obtain ⟨aD,U,rfl,k1,k2⟩:=o
    simp only [oI]at C
    subst C
    refine ⟨_,?_,HS (u:=.agg U) (by simp only [Ag];exact ⟨U,rfl,AQ.cs q3 k2 k1⟩)⟩
    simp [Instr.lookup,run_underlying M,A,x,y,c]
  rename_i aC
  obtain ⟨mm,ak,hl⟩:=Ac hl
  obtain ⟨r,hr,hl⟩:=Ac hl
  simp only [oI]at hl
  subst hl
  obtain ⟨g,ms,hg,ho,he⟩:=H.map (DI ak)
  obtain ⟨g',j,A⟩:=hm.O6
  rw [hg]at j
  simp only [oI,Prod.mk.injEq]at j
  obtain ⟨rfl,_⟩:=j
  obtain ⟨r',h1,o⟩:=LR hΓ hf X 0 he hr
  have c:=run_findKey (P:=P) (w:=w) hd h1
  have x:(getObj g).run P w=.ok (.map ms mm.2) w:=by simp [getObj,Sem.run,ho]
  cases r with
  |none=>
   simp only at o
   subst o
   refine ⟨_,?_,HS (Dm z)⟩
   simp [Instr.lookup,run_underlying M,A,x,y,c,J]
  |some v=>
   obtain ⟨i',v',rfl,ai⟩:=o
   refine ⟨_,?_,HS ai⟩
   simp [Instr.lookup,run_underlying M,A,x,y,c]
 ·cases hl
theorem PM {e n:Nat}:∀{l:List (Nat×Nat)},T4 e n l=true→(e,n)∈l
 |[],h=>by cases h
 |x::r,h=>by
  have h:((Nat.beq x.1 e&&Nat.beq x.2 n) ||T4 e n r)=true:=h
  rw [Bool.or_eq_true,aT]at h
  rcases h with ⟨h1,h2⟩|h
  ·have d:=Al.1 h1
   have c:=Al.1 h2
   subst d c
   exact List.mem_cons_self
  ·exact List.mem_cons_of_mem _ (PM h)
theorem Lv {p:TypeId→Nat→Bool} {e n:Nat} (h:T4 e n (HC P p)=true):1≤n∧p e n=true:=by
 have h:=PM h
 unfold HC at h
 rw [List.mem_filterMap]at h
 obtain ⟨d,_,h⟩:=h
 split at h
 ·split at h
  ·rename_i i c
   split at h
   ·rename_i hc
    simp only [oI,Prod.mk.injEq]at h
    obtain ⟨rfl,rfl⟩:=h
    rw [aT]at hc
    exact ⟨AR.1 hc.1,hc.2⟩
   ·cases h
  ·cases h
 ·cases h
theorem M1 (H:AH ρ μ h w) {ok:List (Nat×Nat)} {x v:Aa} {u:Value} (k:Ag ρ μ x u) (hv:OU h ok x=some v):
  ∃r c e,u=.pointer (some ⟨r,0,none⟩)∧Ag ρ μ v u∧w.heap[r]?=some (.cells c e (0,0))∧T4 e c.size ok=true:=by
 unfold OU at hv
 split at hv
 ·rename_i b
  unfold ZN at hv
  split at hv
  ·rename_i e vs hb
   obtain ⟨o,hv⟩:=Ao hv
   simp only [oI]at hv
   subst hv
   have g:=k
   obtain ⟨r,⟨δ,m⟩,z,c,A,⟨C,j⟩,_⟩:=H.blk b _ hb
   obtain ⟨J,D,M,d,y⟩:=k.ptr
   rw [z]at d
   simp only [oI,Prod.mk.injEq]at d
   obtain ⟨rfl,rfl,rfl⟩:=d
   subst C
   rw [Ka,←j]at o
   exact ⟨r,c,e,y,g,A,o⟩
  ·cases hv
 ·cases hv
theorem run_shape {r:Nat} {c:Array Value} {e:TypeId} {fr:Nat×Nat} (d:w.heap[r]?=some (.cells c e fr)):(shape r).run P w=.ok (some (e,c.size)) w:=by
 simp [shape,Sem.run,World.shape?,d]
theorem US {r:Nat} {c:Array Value} {e:TypeId} {fr:Nat×Nat} (d:w.heap[r]?=some (.cells c e fr)):(viewAt r).run P w=.ok none w:=by
 simp [viewAt,run_shape d]
theorem MN {r k:Nat} {c:Array Value} {e:TypeId} {fr:Nat×Nat} (d:w.heap[r]?=some (.cells c e fr)):(Conv.seenAt ⟨r,k,none⟩).run P w=.ok ⟨r,k,none⟩ w:=by
 simp [Conv.seenAt,US d]
theorem Nx (H:AH ρ μ h w) {o:Oper} {s d t:TypeId} {x:Operand} (A:o.op=.convert s d x) (J:Ba ρ μ tm a) (hs:P.underlying s=some (.pointer t)) (hd:P.underlying d=some .unsafePointer) {n:Nat} (z:Bf P t=some (n+1))
  {v:Aa} (hv:OU h (HC P fun _ _=>true) (ev tm (AF x))=some v):Bu P ρ μ a o w v:=by
 obtain ⟨r,c,e,j,M,g,D⟩:=M1 H (Aq J x) hv
 obtain ⟨C,_⟩:=Lv D
 refine ⟨a.eval x,?_,M⟩
 have k:=Bx (w:=w) z
 have u:(cellsIn r).run P w=.ok (some c.size) w:=by simp [cellsIn,run_shape g]
 have y:c≠#[]:=by rintro rfl;simp at C
 have hc:¬c.size=0:=by omega
 rw [j]
 simp [execOp,A,j,Go.convert,run_underlying hs,run_underlying hd,Conv.unsafePointer,MN g,k,u,y,hc]
theorem Lc (H:AH ρ μ h w) {o:Oper} {s d u:TypeId} {x:Operand} (D:o.op=.convert s d x) (M:Ba ρ μ tm a) (hs:P.underlying s=some .unsafePointer) (hd:P.underlying d=some (.pointer u)) {n:Nat} (A:Bf P u=some n)
  {v:Aa} (hv:OU h (HC P fun e n=>liesAt P P.depth e (n/P.cellsOf e) 0 u 1) (ev tm (AF x))=some v):Bu P ρ μ a o w v:=by
 obtain ⟨r,c,e,j,N,g,J⟩:=M1 H (Aq M x) hv
 obtain ⟨_,C⟩:=Lv J
 refine ⟨a.eval x,?_,N⟩
 have k:=Bx (w:=w) A
 have y:w.shape? r=some (e,c.size):=by simp [World.shape?,g]
 have z:(variablesAt ⟨r,0,none⟩ u 1).run P w=.ok true w:=by simp [variablesAt,y,C]
 rw [j]
 simp [execOp,D,j,Go.convert,run_underlying hs,run_underlying hd,Conv.unsafePointer,MN g,k,z]
theorem ZQ {v:Aa} {n:Nat} (h:u8A v=some n):n≤255∧v=.int .u8 (.lit (.ofNat n)):=by
 unfold u8A at h
 split at h
 ·obtain ⟨d,c⟩:=Ao h
  simp only [oI]at c
  subst c
  exact ⟨AR.1 d,rfl⟩
 ·cases h
theorem St:∀{cs:List Aa} {s:List Nat} {l:List Value},Aha cs=some s→Aw ρ μ cs l→l=s.map (fun n:Nat=>.int .u8 (n:Int))∧∀n∈s,n≤255
 |[],s,l,h,hr=>by
  have h:some []=some s:=h
  simp only [oI]at h
  subst h
  simp only [Aw]at hr
  subst hr
  exact ⟨rfl,fun n g=>by cases g⟩
 |v::cs,s,l,h,hr=>by
  have h:(AB (u8A v) fun n=>AB (Aha cs) fun l=>some (n::l))=some s:=h
  obtain ⟨n,g,z⟩:=Ac h
  obtain ⟨t,A,j⟩:=Ac z
  simp only [oI]at j
  subst j
  obtain ⟨k,rfl⟩:=ZQ g
  simp only [Aw]at hr
  obtain ⟨u,rest,rfl,⟨_,y⟩,c⟩:=hr
  obtain ⟨o,x⟩:=St A c
  have:=y.int
  refine ⟨by rw [this,o];rfl,fun m d=>?_⟩
  rcases List.mem_cons.1 d with rfl|d
  ·exact k
  ·exact x m d
theorem UT (s:List Nat) (d:ByteArray):
  (forIn (m:=Sem) (s.map fun n:Nat=>Value.int .u8 (n:Int)) d fun c r=>match c with
   |.int .u8 n=>do pure PUnit.unit;pure (ForInStep.yield (r.push (UInt8.ofNat n.toNat)))
   |_=>do stuck "bytesToString: byte expected";pure (ForInStep.yield r)).run P w=.ok (s.foldl (fun r n=>r.push (UInt8.ofNat n)) d) w:=by
 induction s generalizing d with
 |nil=>simp
 |cons n s ih=>simp [ih]
theorem Qq (s:List Nat) (hs:∀n∈s,n≤255):∀c:ByteArray,strOf (s.foldl (fun r n=>r.push (UInt8.ofNat n)) c)=strOf c++s:=by
 induction s with
 |nil=>intro c;simp
 |cons n s ih=>
  intro c
  rw [List.foldl_cons,ih fun m d=>hs m (List.mem_cons_of_mem _ d)]
  have g:=hs n List.mem_cons_self
  have:strOf (c.push (UInt8.ofNat n))=strOf c++[n]:=by
   unfold strOf
   simp [ByteArray.push]
   omega
  rw [this];simp
theorem VO (H:AH ρ μ h w) {o:Oper} {s d e:TypeId} {x:Operand} (M:o.op=.convert s d x) (hT:Ba ρ μ tm a) (hs:P.underlying s=some (.slice e)) (N:P.underlying e=some (.int .u8)) (hd:P.underlying d=some .string)
  {v:Aa} (hv:Yt h (ev tm (AF x))=some v):Bu P ρ μ a o w v:=by
 have z:=Aq hT x
 have key:∀(b g len r δ m c:Nat),Ob h b g len=some v→μ b=some (r,δ,m)→a.eval x=.slice (some ⟨r,δ+g,none⟩) len c→Bu P ρ μ a o w v:=fun b g len r δ m c u C k=>by
  unfold Ob at u
  rw [AI]at u
  by_cases h0:len=0
  ·rw [if_pos h0]at u
   simp only [oI]at u
   subst u
   subst h0
   refine ⟨.string .empty,?_,by simp only [Ag];exact ⟨_,rfl,rfl⟩⟩
   simp [execOp,M,k,Go.convert,run_underlying hs,run_underlying hd,run_underlying N,Conv.bytesToString,loadCells,loadCellsFrom]
  ·rw [if_neg h0]at u
   obtain ⟨vs,U,ab⟩:=Ac u
   obtain ⟨cs,X,Z⟩:=Ac ab
   obtain ⟨t,ht,J⟩:=Ac Z
   simp only [oI]at J
   subst J
   obtain ⟨r2,δ2,m2,c2,y,D,O,_,hc⟩:=H.cells U
   rw [C]at D
   simp only [oI,Prod.mk.injEq]at D
   obtain ⟨rfl,rfl,rfl⟩:=D
   obtain ⟨l,aa,Q,R⟩:=DP hc X
   have A:=run_loadCells_list (P:=P) (w:=w) ⟨r,δ+g,none⟩ l (fun j v hv=>by rw [Addr.Bh,C0 O];exact R j v hv)
   rw [aa]at A
   obtain ⟨k1,k2⟩:=St ht Q
   subst k1
   refine ⟨.string (t.foldl (fun r n=>r.push (UInt8.ofNat n)) .empty),?_,by simp only [Ag];exact ⟨_,rfl,by rw [Qq t k2];rfl⟩⟩
   have hp:=UT (P:=P) (w:=w) t .empty
   simp [execOp,M,k,Go.convert,run_underlying hs,run_underlying hd,run_underlying N,Conv.bytesToString,A,hp]
 unfold Yt at hv
 split at hv
 ·rename_i k
  rw [k]at z
  have y:a.eval x=.slice none 0 0:=by simpa only [Ag]using z
  simp only [oI]at hv
  subst hv
  refine ⟨.string .empty,?_,by simp only [Ag];exact ⟨_,rfl,rfl⟩⟩
  simp [execOp,M,y,Go.convert,run_underlying hs,run_underlying hd,run_underlying N,Conv.bytesToString]
 ·rename_i b g len c k
  rw [k]at z
  obtain ⟨r,δ,m,C,y,_⟩:=z.slice
  exact key _ _ _ _ _ _ _ hv C y
 ·rename_i b g len es k
  rw [k]at z
  obtain ⟨r,δ,m,cap,C,y,_⟩:=z.gslice
  exact key _ _ _ _ _ _ _ hv C y
 ·cases hv
theorem Ca.length:∀{c:List Entry} {ms:List MapEntry},Ca ρ μ c ms→c.length=ms.length
 |[],_,e=>by simp only [Ca]at e;rw [e];rfl
 |_::_,_,e=>by
  simp only [Ca]at e
  obtain ⟨v,rest,rfl,_,h⟩:=e
  simp [Ca.length h]
theorem MU {Γ:An} (hΓ:Γ.AG ρ) (H:AH ρ μ h w) (j:Ba ρ μ tm a) {pl:List C5} {o:Oper} {q:Ow} (hc:D8 P pl o=some (.r q)) {v:Aa} (hv:Dz Γ tm h q=some v):Bu P ρ μ a o w v:=by
 cases hop:o.op<;>simp only [D8,hop,reduceCtorEq,oI]at hc
 case load t x=>
  obtain ⟨n,D,e⟩:=mS hc
  simp only [DS.r.injEq]at e
  subst e
  obtain ⟨R,N,M⟩:=Nq hΓ H D (Aq j x) hv
  exact ⟨R,by simp [execOp,hop,N],M⟩
 case lookup t x k ok=>
  split at hc
  ·rename_i kt e A
   split at hc
   ·rename_i i kk U hk
    obtain ⟨z,hz,e⟩:=mS hc
    simp only [DS.r.injEq]at e
    subst e
    obtain ⟨R,N,M⟩:=Ro hΓ H A hk U hz (Aq j x) (Aq j k) hv
    exact ⟨R,by simp [execOp,hop,N],M⟩
   ·cases hc
  ·cases hc
 case call c=>
  unfold F6 at hc
  split at hc
  ·split at hc
   ·split at hc
    ·simp at hc
    ·split at hc
     ·split at hc<;>simp at hc
     ·split at hc
      ·split at hc<;>simp at hc
      ·cases hc
   ·cases hc
  ·simp at hc
  ·cases hc
  ·rename_i b hb
   split at hc
   ·rename_i x t e1 e2
    have ea:c.args=#[x]:=by rw [←Array.toList_inj];simpa using e1
    have et:c.argTypes=#[t]:=by rw [←Array.toList_inj];simpa using e2
    split at hc
    ·simp at hc
    ·simp at hc
    ·simp at hc
    ·rename_i kt e A
     simp only [oI,DS.r.injEq]at hc;subst hc
     have J:=Aq j x
     have hv:XW h (ev tm (AF x))=some v:=hv
     unfold XW at hv
     split at hv
     ·rename_i O
      rw [O]at J
      have X:a.eval x=.map none:=by simpa only [Ag]using J
      simp only [oI]at hv
      subst hv
      exact ⟨.int .i64 0,by simp [execOp,hop,resolve,hb,ea,et,invoke,builtin,Builtin.len_,run_underlying A,goInt,X],by simp only [lit,Ag,ST.den];rfl⟩
     ·rename_i bb O
      rw [O]at J
      obtain ⟨g,hg,X⟩:=J.O6
      obtain ⟨mm,ab,hv⟩:=Ac hv
      simp only [oI]at hv
      subst hv
      obtain ⟨g',ms,C,ho,Q⟩:=H.map (DI ab)
      rw [hg]at C
      simp only [oI,Prod.mk.injEq]at C
      obtain ⟨rfl,_⟩:=C
      have Z:(getObj g).run P w=.ok (.map ms mm.2) w:=by simp [getObj,Sem.run,ho]
      have hl:AeT mm.1=ms.size:=by rw [Yg];simpa using Q.length
      exact ⟨.int .i64 ms.size,by simp [execOp,hop,resolve,hb,ea,et,invoke,builtin,Builtin.len_,run_underlying A,goInt,X,Z],by simp only [lit,Ag,ST.den];rw [hl];rfl⟩
     ·cases hv
    ·cases hc
   ·exfalso
    unfold Fg at hc
    split at hc<;>first|cases hc|skip
    all_goals (split at hc<;>first|(cases hc;done) |(split at hc<;>simp at hc))
   ·exfalso
    split at hc<;>first|(cases hc;done) |(obtain ⟨_,_,e⟩:=mS hc;cases e)
   ·simp at hc
   ·simp at hc
   ·simp at hc
   ·simp at hc
   ·exfalso
    split at hc
    ·split at hc<;>simp at hc
    ·cases hc
   ·cases hc
 case convert s d x=>
  rcases CV hc with ⟨k0,k,hs,hd,e⟩|⟨hs,hd,e⟩|⟨t,n,hs,hd,D,e⟩|⟨u,n,hs,hd,D,e⟩|⟨el,hs,Q,hd,e⟩
  ·cases e
  ·cases e
  ·simp only [DS.r.injEq]at e;subst e
   exact Nx H hop j hs hd D hv
  ·simp only [DS.r.injEq]at e;subst e
   exact Lc H hop j hs hd D hv
  ·simp only [DS.r.injEq]at e;subst e
   exact VO H hop j hs Q hd hv
 case typeAssert x xt t ok=>
  obtain ⟨d,i,z,A,hd,U,hz,e⟩:=Cu hc
  cases e
 case defer c=>
  obtain ⟨aa,args,am⟩:=c
  cases aa<;>simp at hc
 case makeFunc fn x c=>cases fn<;>simp at hc
 case binOp op t x y yt=>obtain ⟨_,_,e⟩:=mS hc;cases e
 case slice t x lo U mx=>
  exfalso
  split at hc
  ·simp at hc
  ·obtain ⟨_,_,e⟩:=mS hc;cases e
  ·split at hc
   ·obtain ⟨_,_,e⟩:=mS hc;cases e
   ·cases hc
  ·cases hc
 case build t parts=>
  exfalso
  split at hc
  ·split at hc
   ·obtain ⟨_,_,e⟩:=mS hc;cases e
   ·cases hc
  ·obtain ⟨_,_,hc⟩:=Option.bind_eq_some_iff.1 hc
   obtain ⟨_,_,e⟩:=mS hc;cases e
  ·cases hc
 case fieldAddr t x f=>
  exfalso
  split at hc
  ·obtain ⟨_,_,hc⟩:=Option.bind_eq_some_iff.1 hc
   split at hc<;>simp at hc
  ·cases hc
 case field t x f=>
  exfalso
  split at hc
  ·obtain ⟨_,_,hc⟩:=Option.bind_eq_some_iff.1 hc
   obtain ⟨_,_,e⟩:=mS hc;cases e
  ·cases hc
 all_goals
  exfalso
  first
   |(cases hc;done)
   |(split at hc<;>first|(cases hc;done) |(simp at hc;done) |(obtain ⟨_,_,e⟩:=mS hc;cases e;done) |(split at hc<;>first|(cases hc;done) |(simp at hc;done) |(obtain ⟨_,_,e⟩:=mS hc;cases e;done) |(split at hc<;>first|(cases hc;done) |(simp at hc;done) |(obtain ⟨_,_,e⟩:=mS hc;cases e;done))))
   |(obtain ⟨_,_,e⟩:=mS hc;cases e;done)
end
end Go.AM
end
section
namespace Go.AM
section
variable {P:Program} {Γ:An} {ρ:Env} {μ:Ap} {tm:Tr Aa} {a:Act} {w:World} {h:Ak}
def Oo (P:Program) (ρ:Env) (μ:Ap) (a:Act) (o:Oper) (w:World) (id:Nat) (B:Block) (v:Aa):Prop:=
 ∃g d,(execOp a.eval o).run P w=.ok (.value d) (w.alloc g)∧∃m,(∀c:Ap,μ.le c→CM ρ c B (some g) (0,m))∧∀c:Ap,μ.le c→c id=some (w.heap.size,0,m)→Ag ρ c v d
theorem F8 {cs:List Aa} {c:Array Value} {e:TypeId} (hc:Aw ρ μ cs c.toList) (d:Ap) (g:μ.le d):CM ρ d (.cells cs) (some (.cells c e)) (0,c.size):=
 ⟨c,e,rfl,by omega,fun i x j=>by
  obtain ⟨v,hv,hs,k⟩:=hc.get j
  exact ⟨v,by rw [Nat.zero_add];simpa using hv,hs,k.mono g⟩⟩
theorem Md {cs:List Aa} {c:Array Value} {e:TypeId} {t:Option Nat} (o:t=some e∨t=none) (hc:Aw ρ μ cs c.toList) (d:Ap) (g:μ.le d):CM ρ d (Lo t cs) (some (.cells c e)) (0,c.size):=by
 have h:=F8 (e:=e) hc d g
 rcases o with rfl|rfl
 ·obtain ⟨u,x,k,hs,j⟩:=h
  simp only [oI,Obj.cells.injEq]at k
  obtain ⟨rfl,rfl,_⟩:=k
  exact ⟨c,rfl,⟨rfl,by have:=hc.length;simp at this;omega⟩,hs,j⟩
 ·exact h
theorem M5 (t:TypeId):Su P t=some t∨Su P t=none:=by
 unfold Su
 split
 ·exact .inl rfl
 ·exact .inr rfl
theorem Ew (e:TypeId) (c:Array Value):(newRow e c).run P w=.ok ⟨w.heap.size,0,none⟩ (w.alloc (.cells c e)):=by
 simp [newRow]
theorem XM {id:Nat} {r m:Nat} (c:Ap) (d:c id=some (r,0,m)):Ag ρ c (.ptr id 0) (.pointer (some ⟨r,0,none⟩)):=by
 simp only [Ag];exact ⟨r,0,m,d,rfl⟩
theorem Vr {o:Oper} {t:TypeId} (u:o.op=.alloc t) {cs:List Aa} (y:H8 P t=some cs) {id:Nat}:Oo P ρ μ a o w id (Lo (Su P t) cs) (.ptr id 0):=by
 obtain ⟨g,x,j⟩:=E9 (w:=w) (ρ:=ρ) (μ:=μ) y
 refine ⟨.cells g.cells t,.pointer (some ⟨w.heap.size,0,none⟩),?_,_,fun c d=>Md (M5 t) j c d,fun c _ k=>XM c k⟩
 simp [execOp,u,Instr.alloc,x,newVar,Ew]
theorem YZ {o:Oper} {t:TypeId} {x:Operand} (k:o.op=.box t x) (u:Ba ρ μ tm a) {cs:List Aa} (hc:(ev tm (AF x)).cells=some cs) {id:Nat}:Oo P ρ μ a o w id (Lo (Su P t) cs) (.ptr id 0):=by
 have g:=(Aq u x).cells hc
 refine ⟨.cells (a.eval x).cells t,.pointer (some ⟨w.heap.size,0,none⟩),?_,_,fun c d=>Md (M5 t) g c d,fun c _ j=>XM c j⟩
 simp [execOp,k,Instr.box,newVar,Ew]
theorem K0 {z:List Aa} {d:Array Value} {n:Nat} (A:Aw ρ μ z d.toList) (c:z.length=n) (k:Nat) {y:Array Value} (C:k*n≠0→y=d):
  Aw ρ μ (rep z k) ((Array.range (k*n)).map fun i=>y[i%y.size]!).toList:=by
 have u:d.size=n:=by have:=A.length;simp at this;omega
 refine Aw.KJ (by rw [Jk,c];simp) fun i x g=>?_
 have j:i<k*n:=by
  have:=(List.getElem?_eq_some_iff.1 g).1
  rw [Jk,c]at this
  exact this
 rw [XD z k i (by rw [c];exact j),c]at g
 obtain ⟨v,hv,hs,D⟩:=A.get g
 refine ⟨v,?_,hs,D⟩
 have o:=C (by omega)
 subst o
 rw [Array.getElem?_toList]at hv
 simp only [Array.getElem?_toList,Array.getElem?_map]
 rw [Array.getElem?_range,if_pos j]
 simp only [Option.map_some]
 rw [u,getElem!_def,hv]
theorem Rj {o:Oper} {t e:TypeId} {len n:Nat} {parts:Array (Nat×Operand)} (u:o.op=.buildSlice t len parts) (N:Ba ρ μ tm a) (C:P.underlying t=some (.slice e)) (X:Bf P e=some n) {z:List Aa} (Q:H8 P e=some z)
  (Z:len*n≤65536) (D:z.length=n) {ps:List (Nat×Nat×CB)} (U:partsOf (fun i=>some (i*n,n)) parts.toList=some ps) {cs:List Aa} (hf:Ia tm ps (List.replicate len z).flatten=some cs) {id:Nat}:
  Oo P ρ μ a o w id (.cells cs) (.slice id 0 len len):=by
 obtain ⟨A,M,J⟩:=E9 (w:=w) (ρ:=ρ) (μ:=μ) Q
 have hs:=Bx (w:=w) X
 have key:∀y:Array Value,(len*n≠0→y=A.cells)→∃x:Array Value,Instr.fill (fun i=>some (i*n,n)) ((Array.range (len*n)).map fun i=>y[i%y.size]!) ((parts.map fun x=>(x.1,a.eval x.2)).toList)=some x∧Aw ρ μ cs x.toList:=fun y O=>by
  have H:=K0 J D len O
  rw [AaY]at H
  obtain ⟨x,g,hc⟩:=GO (place':=fun i=>some (i*n,n)) N U (fun i y e=>e) H hf
  refine ⟨x,?_,hc⟩
  have R:(parts.map fun x=>(x.1,a.eval x.2)).toList=parts.toList.map fun p=>(p.1,a.eval p.2):=by simp
  rw [R];exact g
 have d:¬len*n>2^24:=by omega
 have k:∀(m:Nat) (c:Ap),c id=some (w.heap.size,0,m)→Ag ρ c (.slice id 0 len len) (.slice (some ⟨w.heap.size,0,none⟩) len len):=fun m c j=>by
  simp only [Ag];exact ⟨_,_,_,j,rfl,Nat.le_refl _⟩
 by_cases h0:len*n=0
 ·obtain ⟨x,g,hc⟩:=key #[] (fun h=>absurd h0 h)
  refine ⟨.cells x e,_,?_,_,fun c d=>F8 hc c d,fun c _ j=>k _ c j⟩
  simp only [execOp,u,Instr.buildSlice,Sem.run_bind,run_underlying C,Result.andThen_ok,hs]
  rw [if_neg d]
  simp only [Sem.run_bind,Sem.run_pure,Result.andThen_ok,h0,if_true]
  rw [h0]at g
  simp only [g]
  simp [Ew]
 ·obtain ⟨x,g,hc⟩:=key A.cells (fun _=>rfl)
  refine ⟨.cells x e,_,?_,_,fun c d=>F8 hc c d,fun c _ j=>k _ c j⟩
  simp only [execOp,u,Instr.buildSlice,Sem.run_bind,run_underlying C,Result.andThen_ok,hs]
  rw [if_neg d]
  simp only [Sem.run_bind,Sem.run_pure,Result.andThen_ok,h0,if_false,M]
  simp only [g]
  simp [Ew]
theorem wrap_small {n:Nat} (h:n≤1048576):IntKind.i64.wrap (n:Int)=(n:Int):=by
 unfold IntKind.wrap
 have e:(n:Int)%2^IntKind.i64.bits=n:=Int.emod_eq_of_lt (by omega) (by show (n:Int)<18446744073709551616;omega)
 simp only [e]
 rw [if_neg]
 intro hc
 simp only [aT,decide_eq_true_eq]at hc
 have:(9223372036854775808:Int)≤n:=hc.2
 omega
theorem O7 {o:Oper} {t e:TypeId} {l c:Operand} (R:o.op=.makeSlice t l c) (U:Ba ρ μ tm a) (Z:P.underlying t=some (.slice e)) {i:TypeInfo} (hi:P.info? e=some i) {z:List Aa} (hz:H8 P e=some z)
  (hb:i.bytes≤1048576) (D:z.length=i.size) {id:Nat} {B:Block} {v:Aa} (h:Nk id z (CN (ev tm (AF l))) (CN (ev tm (AF c)))=some (B,v)):Oo P ρ μ a o w id B v:=by
 obtain ⟨zv,h1,N⟩:=E9 (w:=w) (ρ:=ρ) (μ:=μ) hz
 unfold Nk at h
 obtain ⟨u,hl,h⟩:=Ac h
 obtain ⟨d,hc,h⟩:=Ac h
 obtain ⟨j,h⟩:=Ao h
 rw [aT,AR,AR]at j
 simp only [oI,Prod.mk.injEq]at h
 obtain ⟨rfl,rfl⟩:=h
 obtain ⟨k1,O⟩:=Cy hl (Aq U l)
 obtain ⟨k2,M⟩:=Cy hc (Aq U c)
 have A:(typeInfo e).run P w=.ok i w:=by simp [typeInfo,hi]
 have hs:(sizeOf e).run P w=.ok i.size w:=by simp [sizeOf,A]
 have C:∀(m:Nat) (g:Ap),g id=some (w.heap.size,0,m)→Ag ρ g (.slice id 0 u d) (.slice (some ⟨w.heap.size,0,none⟩) u d):=fun m g x=>by
  simp only [Ag];exact ⟨_,_,_,x,rfl,j.1⟩
 have X:=wrap_small (n:=u) (by omega)
 have Q:=wrap_small (n:=d) (by omega)
 have ac:i.bytes*d≤1048576*1048576:=Nat.mul_le_mul hb j.2
 have H:(((d:Int)<0) ||decide ((i.bytes:Int)*(d:Int)>2^48))=false:=by
  have:(i.bytes:Int)*(d:Int)=((i.bytes*d:Nat):Int):=by simp
  rw [this]
  simp
  omega
 have k:(((((d:Int)<0) ||decide ((i.bytes:Int)*(d:Int)>2^48)) ||decide ((u:Int)<0)) ||decide ((u:Int)>(d:Int)))=false:=by
  rw [H];simp;omega
 by_cases h0:d*i.size=0
 ·have J:=K0 N D d (y:=#[]) (fun h=>absurd h0 h)
  refine ⟨.cells _ e,_,?_,_,fun g j=>F8 J g j,fun g _ x=>C _ g x⟩
  simp only [execOp,R,Instr.makeSlice,Sem.run_bind,run_underlying Z,Result.andThen_ok,O,M,asInt,asIntOf,Sem.run_pure,A,X,Q]
  rw [k]
  simp [hs,h0,Ew]
 ·have J:=K0 N D d (y:=zv.cells) (fun _=>rfl)
  refine ⟨.cells _ e,_,?_,_,fun g j=>F8 J g j,fun g _ x=>C _ g x⟩
  simp only [execOp,R,Instr.makeSlice,Sem.run_bind,run_underlying Z,Result.andThen_ok,O,M,asInt,asIntOf,Sem.run_pure,A,X,Q]
  rw [k]
  simp [hs,h0,h1,Ew]
theorem YY {o:Oper} {t k e:TypeId} {r:Option Operand} (c:o.op=.makeMap t r) (d:P.underlying t=some (.map k e)) (u:r=none∨∃j n,r=some (.const (.int j n))) {id:Nat}:Oo P ρ μ a o w id (.map [] 0) (.map id):=by
 refine ⟨.map #[] 0,.map (some w.heap.size),?_,0,fun x _=>⟨rfl,#[],rfl,by simp only [Ca]⟩,fun x _ g=>by simp only [Ag];exact ⟨_,g,rfl⟩⟩
 rcases u with rfl|⟨j,n,rfl⟩
 ·simp [execOp,c,Instr.makeMap]
 ·simp [execOp,c,Instr.makeMap,run_underlying d,Act.eval,asInt,asIntOf]
theorem P7 (J:Ba ρ μ tm a) {pl:List C5} {o:Oper} {q:AOp} (hc:D8 P pl o=some (.a q)) {id:Nat} {B:Block} {v:Aa} (h:YX tm id q=some (B,v)):Oo P ρ μ a o w id B v:=by
 cases hop:o.op<;>simp only [D8,hop,reduceCtorEq,oI,DS.a.injEq]at hc
 case alloc t=>
  obtain ⟨z,C,e⟩:=mS hc
  simp only [DS.a.injEq]at e
  subst e
  have h:some (Lo (Su P t) z,Aa.ptr id 0)=some (B,v):=h
  simp only [oI,Prod.mk.injEq]at h
  obtain ⟨rfl,rfl⟩:=h
  exact Vr hop C
 case box t x=>
  subst hc
  obtain ⟨cs,D,h⟩:=Ac h
  simp only [oI,Prod.mk.injEq]at h
  obtain ⟨rfl,rfl⟩:=h
  exact YZ hop J D
 case buildSlice t len parts=>
  split at hc
  ·rename_i e A
   split at hc
   ·rename_i n z N C
    split at hc
    ·rename_i g
     obtain ⟨ps,R,e⟩:=mS hc
     simp only [DS.a.injEq]at e
     subst e
     obtain ⟨cs,D,h⟩:=Ac h
     simp only [oI,Prod.mk.injEq]at h
     obtain ⟨rfl,rfl⟩:=h
     simp only [aT,decide_eq_true_eq,beq_iff_eq]at g
     exact Rj hop J A N C g.1 g.2 R D
    ·cases hc
   ·cases hc
  ·cases hc
 case makeSlice t l c=>
  split at hc
  ·rename_i e A
   split at hc
   ·rename_i i z M C
    split at hc
    ·rename_i g
     simp only [oI,DS.a.injEq]at hc
     subst hc
     simp only [aT,decide_eq_true_eq,beq_iff_eq]at g
     exact O7 hop J A M C g.1 g.2 h
    ·cases hc
   ·cases hc
  ·cases hc
 case makeMap t r=>
  have H:q=.mkMap→(∃k e,P.underlying t=some (.map k e))→(r=none∨∃j n,r=some (.const (.int j n)))→Oo P ρ μ a o w id B v:=fun Q A U=>by
   subst Q
   have h:some (Block.map [] 0,Aa.map id)=some (B,v):=h
   simp only [oI,Prod.mk.injEq]at h
   obtain ⟨rfl,rfl⟩:=h
   obtain ⟨k,e,A⟩:=A
   exact YY hop A U
  split at hc
  ·rename_i k e A
   simp only [oI,DS.a.injEq]at hc
   exact H hc.symm ⟨_,_,A⟩ (.inl rfl)
  ·rename_i k e j n A
   simp only [oI,DS.a.injEq]at hc
   exact H hc.symm ⟨_,_,A⟩ (.inr ⟨_,_,rfl⟩)
  ·cases hc
 case call c=>
  exfalso
  unfold F6 at hc
  split at hc
  ·split at hc
   ·split at hc
    ·simp at hc
    ·split at hc
     ·split at hc<;>simp at hc
     ·split at hc
      ·split at hc<;>simp at hc
      ·cases hc
   ·cases hc
  ·simp at hc
  ·cases hc
  ·split at hc
   ·split at hc<;>simp at hc
   ·exfalso
    unfold Fg at hc
    split at hc<;>first|cases hc|skip
    all_goals (split at hc<;>first|(cases hc;done) |(split at hc<;>simp at hc))
   ·exfalso
    split at hc<;>first|(cases hc;done) |(obtain ⟨_,_,e⟩:=mS hc;cases e)
   ·simp at hc
   ·simp at hc
   ·simp at hc
   ·simp at hc
   ·exfalso
    split at hc
    ·split at hc<;>simp at hc
    ·cases hc
   ·cases hc
 case convert s d x=>
  rcases CV hc with ⟨k0,k,hs,hd,e⟩|⟨hs,hd,e⟩|⟨t,n,hs,hd,N,e⟩|⟨u,n,hs,hd,N,e⟩|⟨el,hs,he,hd,e⟩<;>cases e
 case typeAssert x xt t ok=>
  obtain ⟨d,i,z,A,hd,M,C,e⟩:=Cu hc
  cases e
 case defer c=>
  obtain ⟨O,args,X⟩:=c
  cases O<;>simp at hc
 case makeFunc fn x c=>cases fn<;>simp at hc
 case binOp op t x y yt=>obtain ⟨_,_,e⟩:=mS hc;cases e
 case slice t x lo M mx=>
  exfalso
  split at hc
  ·simp at hc
  ·obtain ⟨_,_,e⟩:=mS hc;cases e
  ·split at hc
   ·obtain ⟨_,_,e⟩:=mS hc;cases e
   ·cases hc
  ·cases hc
 case build t parts=>
  exfalso
  split at hc
  ·split at hc
   ·obtain ⟨_,_,e⟩:=mS hc;cases e
   ·cases hc
  ·obtain ⟨_,_,hc⟩:=Option.bind_eq_some_iff.1 hc
   obtain ⟨_,_,e⟩:=mS hc;cases e
  ·cases hc
 case fieldAddr t x f=>
  exfalso
  split at hc
  ·obtain ⟨_,_,hc⟩:=Option.bind_eq_some_iff.1 hc
   split at hc<;>simp at hc
  ·cases hc
 case field t x f=>
  exfalso
  split at hc
  ·obtain ⟨_,_,hc⟩:=Option.bind_eq_some_iff.1 hc
   obtain ⟨_,_,e⟩:=mS hc;cases e
  ·cases hc
 all_goals
  exfalso
  first
   |(cases hc;done)
   |(split at hc<;>first|(cases hc;done) |(simp at hc;done) |(obtain ⟨_,_,e⟩:=mS hc;cases e;done) |(split at hc<;>first|(cases hc;done) |(simp at hc;done) |(obtain ⟨_,_,e⟩:=mS hc;cases e;done) |(split at hc<;>first|(cases hc;done) |(simp at hc;done) |(obtain ⟨_,_,e⟩:=mS hc;cases e;done))))
   |(obtain ⟨_,_,e⟩:=mS hc;cases e;done)
end
end Go.AM
end
section
namespace Go.AM
section
variable {P:Program} {Γ:An} {ρ:Env} {μ:Ap} {tm:Tr Aa} {a:Act} {w:World} {h:Ak}
theorem setRow_other (w:World) (g i:Nat) (c:Array Value) (d:i≠g):(w.setRow g c).heap[i]?=w.heap[i]?:=by
 unfold World.setRow
 simp only [Array.getElem?_modify]
 rw [if_neg (Ne.symm d)]
theorem EC (w:World) (g:Nat) (c cur:Array Value) (t:TypeId) (fr:Nat×Nat) (hg:w.heap[g]?=some (.cells cur t fr)):(w.setRow g c).heap[g]?=some (.cells c t fr):=by
 unfold World.setRow
 simp only [Array.getElem?_modify]
 rw [if_pos trivial,hg]
 rfl
theorem DW {r p:Nat} {c:Array Value} {e:TypeId} (L:List Value) (hg:w.heap[r]?=some (.cells c e (0,0))) (j:p+L.length≤c.size) (g:∀v∈L,v.oneCell'=true):
  ∃d:Array Value,(storeCells ⟨r,p,none⟩ L).run P w=.ok () (w.setRow r d)∧d.size=c.size∧∀k,d[k]?=if p≤k∧k<p+L.length then L[k-p]? else c[k]?:=by
 refine ⟨_,run_storeCells_at P r p e L 0 c w hg (by omega) g,?_,fun k=>?_⟩
 ·simp;omega
 ·simp only [Nat.add_zero,List.getElem?_toArray]
  rw [List.append_assoc]
  have hl:(c.toList.take p).length=p:=by simp;omega
  by_cases hk:k<p
  ·rw [List.getElem?_append_left (by omega),List.getElem?_take,if_pos hk,if_neg (by omega)]
   simp
  ·rw [List.getElem?_append_right (by omega),hl]
   by_cases hk2:k<p+L.length
   ·rw [List.getElem?_append_left (by omega),if_pos (by omega)]
   ·rw [List.getElem?_append_right (by omega),List.getElem?_drop,if_neg (by omega)]
    rw [Array.getElem?_toList]
    congr 1
    omega
theorem Aw.one:∀{as:List Aa} {vs:List Value},Aw ρ μ as vs→∀v∈vs,v.oneCell'=true
 |[],_,e,v,hv=>by simp only [Aw]at e;subst e;cases hv
 |_::_,_,e,v,hv=>by
  simp only [Aw]at e
  obtain ⟨u,rest,rfl,⟨hs,c⟩,h⟩:=e
  cases hv with
  |head=>exact c.Rb hs
  |tail _ hv=>exact Aw.one h v hv
theorem AH.Aiw (H:AH ρ μ h w) {b:Nat} {vs:List Aa} {r δ m:Nat} {c:Array Value} {e:TypeId} (d:δ+m≤c.size) (hc:∀(i:Nat) (x:Aa),vs[i]?=some x→∃v,c[δ+i]?=some v∧x.single=true∧Ag ρ μ x v):δ+vs.length≤c.size:=by
 cases hl:vs.length with
 |zero=>omega
 |succ n=>
  obtain ⟨v,hv,_⟩:=hc n _ (List.getElem?_eq_getElem (by omega))
  have:=(Array.getElem?_eq_some_iff.1 hv).1
  omega
theorem H9 (H:AH ρ μ h w) {b k:Nat} {vs d new:List Aa} {L:List Value} (hb:cellsOf (h.get b)=some vs) (M:Aw ρ μ new L) (hs:splice new k vs=some d):
  ∃r δ m,μ b=some (r,δ,m)∧∃w',(storeCells ⟨r,δ+k,none⟩ L).run P w=.ok () w'∧∀j,(j=.cells d∨j=Ag7 (h.get b) d)→Av ρ μ h w μ (h.set b (some j)) w':=by
 obtain ⟨r,δ,m,c,e,O,N,U,hc⟩:=H.cells hb
 obtain ⟨B0,X⟩:=LX hb
 obtain ⟨h1,h2,h3⟩:=HG hs
 have hl:=M.length
 have ae:=H.Aiw (b:=b) (r:=r) (e:=e) U hc
 obtain ⟨A,J,ad,R⟩:=DW (P:=P) L N (p:=δ+k) (by omega) M.one
 refine ⟨r,δ,m,O,_,J,fun j Z=>?_⟩
 have g:∀(i:Nat) (x:Aa),d[i]?=some x→∃v,A[δ+i]?=some v∧x.single=true∧Ag ρ μ x v:=fun i x C=>by
  rw [h3]at C
  rw [R]
  split at C
  ·rename_i Q
   obtain ⟨v,hv,y,z⟩:=M.get C
   refine ⟨v,?_,y,z⟩
   rw [if_pos (by omega),←hv]
   congr 1
   omega
  ·rename_i Q
   obtain ⟨v,hv,y,z⟩:=hc i x C
   refine ⟨v,?_,y,z⟩
   rw [if_neg (by omega)]
   exact hv
 refine Av.change H X O j (fun i Q=>setRow_other _ _ _ _ Q) (by simp) rfl rfl ?_
 rw [EC _ _ _ _ _ _ N]
 have D:CM ρ μ (.cells d) (some (.cells A e (0,0))) (δ,m):=⟨A,e,rfl,by omega,g⟩
 rcases Z with rfl|rfl
 ·exact D
 ·rcases Fh hb with hb'|⟨t,hb'⟩
  ·rw [hb'];exact D
  ·rw [hb']
   obtain ⟨r2,⟨δ2,m2⟩,o,c2,u,⟨hδ,ac⟩,_⟩:=H.blk b _ hb'
   rw [O]at o
   simp only [oI,Prod.mk.injEq]at o
   obtain ⟨rfl,rfl,rfl⟩:=o
   rw [N]at u
   simp only [oI,Obj.cells.injEq]at u
   obtain ⟨rfl,rfl,_⟩:=u
   exact ⟨A,rfl,⟨hδ,by omega⟩,by omega,g⟩
def Ky (P:Program) (g:FuncId):Prop:=∃fn,P.funcs[g]?=some fn∧fn.body.isSome=true∧(fn.name== "runtime.NumGoroutine")=false
def Lr (ρ:Env) (μ:Ap) (d:FuncId×List Aa) (c:Deferred):Prop:=
 ∃cap:Array Value,c.target=.fn (.func d.1) cap∧A7 ρ μ d.2 (c.args++cap).toList
def EP (P:Program) (ρ:Env) (μ:Ap) (h:Ak) (a:Act) (o:Oper) (w:World):Hy→Prop
 |.val v h'=>∃j u w' k,(execOp a.eval o).run P w=.ok j w'∧(j=.value u∨(j=.skip∧u=undef))∧Av ρ μ h w k h' w'∧Ag ρ k v u
 |.call g args=>Ky P g→∃c:Array Value,(execOp a.eval o).run P w=.ok (.enter g c) w∧A7 ρ μ args c.toList
 |.panic v=>∃u,(execOp a.eval o).run P w=.halt (.panic u) w∧Ag ρ μ v u
 |.defer g args=>∃d,(execOp a.eval o).run P w=.ok (.defer d) w∧Lr ρ μ (g,args) d
theorem Wd {o:Oper} {t:TypeId} {p x:Operand} (N:o.op=.store t p x) (H:AH ρ μ h w) (C:Ba ρ μ tm a) {n:Nat} (U:Bf P t=some n) {u:Ak} (hs:U0 h n (ev tm (AF p)) (ev tm (AF x))=some u):
  EP P ρ μ h a o w (.val .any u):=by
 have J:=Aq C p
 have R:=Aq C x
 unfold U0 at hs
 split at hs
 ·rename_i b X O
  obtain ⟨vs,y,hs⟩:=Ac hs
  obtain ⟨Z,hf,hs⟩:=Ac hs
  simp only [oI]at hs
  subst hs
  rw [O]at J
  obtain ⟨r',δ',m',c,M⟩:=J.ptr
  unfold FR at hf
  obtain ⟨new,g,hf⟩:=Ac hf
  obtain ⟨k,hf⟩:=Ao hf
  have d:=R.cells g
  obtain ⟨r,δ,m,Q,w',j,hg⟩:=H9 (P:=P) H y d hf
  have hg:=hg _ (.inr rfl)
  rw [Q]at c
  simp only [oI,Prod.mk.injEq]at c
  obtain ⟨rfl,rfl,rfl⟩:=c
  have D:(a.eval x).cells.size=n:=by
   have A:=Al.1 k
   rw [Ka]at A
   rw [←A]
   simpa using d.length.symm
  have z:=Bx (w:=w) U
  refine ⟨.skip,undef,w',μ,?_,.inr ⟨rfl,rfl⟩,hg,trivial⟩
  simp [execOp,N,Instr.storeAt,M,Instr.sureAddr,storeVar,z,D,j]
 ·cases hs
theorem Wl {f:Aa} {args:List Aa} {r:FuncId×List Aa} (h:NZ f args=some r):∃first cap,f=.func r.1 first cap∧r.2=first++(args++cap):=by
 unfold NZ at h
 split at h
 ·rename_i g first cap
  simp only [oI]at h
  subst h
  exact ⟨first,cap,rfl,rfl⟩
 ·cases h
theorem Ho {g:FuncId} (hf:Ky P g) (args:Array Value):(callFunc g args).run P w=.ok (.enter g args) w:=by
 obtain ⟨fn,j,c,k⟩:=hf
 have d:fn.body.isNone=false:=by cases hb:fn.body<;>simp [hb]at c⊢
 simp only [callFunc,Sem.run_bind,run_program,Result.andThen_ok,j,k,d]
 simp
theorem JQ {c:Call} {x:Operand} (g:c.callee=.value x) (o:Ba ρ μ tm a) {t:TypeId} {r:FuncId×List Aa} (h:NZ (ev tm (AF x)) (So tm (Cg c.args.toList))=some r):
  ∃d cap:Array Value,(resolve a.eval c t).run P w=.ok {target:=.fn (.func r.1) cap,args:=d} w∧A7 ρ μ r.2 (d++cap).toList:=by
 obtain ⟨first,cap,z,u⟩:=Wl h
 have j:=Aq o x
 rw [z]at j
 obtain ⟨C,y,A,hf,k⟩:=j.func
 refine ⟨C++c.args.map a.eval,y,?_,?_⟩
 ·simp [resolve,g,A,Deferred.ofValue]
 ·rw [u]
  simp only [Array.toList_append,Array.toList_map,List.append_assoc]
  exact hf.append ((Gv o _).append k)
theorem Qd {o:Oper} {c:Call} {x:Operand} (u:o.op=.call c) (g:c.callee=.value x) (z:Ba ρ μ tm a) {r:FuncId×List Aa} (j:NZ (ev tm (AF x)) (So tm (Cg c.args.toList))=some r):
  EP P ρ μ h a o w (.call r.1 r.2):=fun hf=>by
 obtain ⟨d,cap,y,k⟩:=JQ (P:=P) (w:=w) (t:=o.type) g z j
 refine ⟨d++cap,?_,k⟩
 simp only [execOp,u,Sem.run_bind,y,Result.andThen_ok,invoke]
 exact Ho hf _
theorem Wg {o:Oper} {c:Call} {x:Operand} (z:o.op=.defer c) (g:c.callee=.value x) (y:Ba ρ μ tm a) {r:FuncId×List Aa} (k:NZ (ev tm (AF x)) (So tm (Cg c.args.toList))=some r):
  EP P ρ μ h a o w (.defer r.1 r.2):=by
 obtain ⟨d,cap,j,u⟩:=JQ (P:=P) (w:=w) (t:=o.type) g y k
 refine ⟨{target:=.fn (.func r.1) cap,args:=d},?_,cap,rfl,u⟩
 simp only [execOp,z,Sem.run_bind,j,Result.andThen_ok]
 rfl
theorem We {o:Oper} {x:Operand} (z:o.op=.panic x) (y:Ba ρ μ tm a) {r:Hy} (c:Vf (ev tm (AF x))=some r):EP P ρ μ h a o w r:=by
 have d:=Aq y x
 unfold Vf at c
 split at c
 ·rename_i t v k
  simp only [oI]at c
  subst c
  rw [k]at d
  have g:=d
  obtain ⟨u,j,_⟩:=d.iface
  exact ⟨a.eval x,by simp [execOp,z,Instr.panic,j],g⟩
 ·cases c
theorem Wj (fn:Func) (c:fn.name= "maps.clone") (j:fn.origin= ""):Extern.findNext fn=none∧Extern.find fn=some Extern.MapsClone.clone:=by
 have g:Extern.allNextRows.lookup "maps.clone" =none:=by kernel_rfl
 have a2:Extern.allNextRows.lookup "" =none:=by kernel_rfl
 have k:Extern.allGenericRows.lookup "maps.clone" =none:=by kernel_rfl
 have d:Extern.allTypedRows.lookup "maps.clone" =none:=by kernel_rfl
 have o:Extern.allRows.lookup "maps.clone" =some Extern.MapsClone.clone:=by kernel_rfl
 refine ⟨?_,?_⟩
 ·unfold Extern.findNext
  rw [c,j]
  simp [g,a2]
 ·unfold Extern.find
  rw [c]
  simp [k,d,o]
theorem Vk (fn:Func) (c:fn.name= "internal/abi.NoEscape") (j:fn.origin= ""):Extern.findNext fn=none∧Extern.find fn=some Extern.AbiNoEscape.same:=by
 have g:Extern.allNextRows.lookup "internal/abi.NoEscape" =none:=by kernel_rfl
 have a2:Extern.allNextRows.lookup "" =none:=by kernel_rfl
 have k:Extern.allGenericRows.lookup "internal/abi.NoEscape" =none:=by kernel_rfl
 have d:Extern.allTypedRows.lookup "internal/abi.NoEscape" =none:=by kernel_rfl
 have o:Extern.allRows.lookup "internal/abi.NoEscape" =some Extern.AbiNoEscape.same:=by kernel_rfl
 refine ⟨?_,?_⟩
 ·unfold Extern.findNext
  rw [c,j]
  simp [g,a2]
 ·unfold Extern.find
  rw [c]
  simp [k,d,o]
theorem Wf {o:Oper} {c:Call} {f:FuncId} {x:Operand} {fn:Func} (D:o.op=.call c) (u:c.callee=.value (.func f)) (g:c.args=#[x]) (hf:P.funcs[f]?=some fn) (hb:fn.body.isSome=false) (d:fn.name= "internal/abi.NoEscape") (k:fn.origin= "")
  (H:AH ρ μ h w) (J:Ba ρ μ tm a) {r:Hy} (j:Vl h (ev tm (AF x))=some r):EP P ρ μ h a o w r:=by
 have M:=Aq J x
 unfold Vl at j
 simp only [oI]at j
 subst j
 refine ⟨.value (a.eval x),a.eval x,w,μ,?_,.inl rfl,Av.refl H,M⟩
 obtain ⟨n1,n2⟩:=Vk fn d k
 have A:(fn.name== "runtime.NumGoroutine")=false:=by rw [d];rfl
 have z:fn.body.isNone=true:=by cases hbb:fn.body<;>simp [hbb]at hb⊢
 have C:(Extern.AbiNoEscape.same #[a.eval x]).run P w=.ok (a.eval x) w:=by
  have e:Extern.AbiNoEscape.same #[a.eval x]=pure (a.eval x):=rfl
  rw [e];rfl
 have y:a.eval (.func f)=.func (.func f) #[] #[]:=rfl
 simp only [execOp,D,resolve,u,g,List.map_toArray,List.map_cons,List.map_nil,y,Deferred.ofValue,Sem.run_bind,Sem.run_pure,Result.andThen_ok,invoke,callFunc,run_program,hf,A,z,n1,n2,run_mark]
 simp [C]
theorem Wh {o:Oper} {c:Call} {f:FuncId} {x:Operand} {fn:Func} (ho:o.op=.call c) (M:c.callee=.value (.func f)) (D:c.args=#[x]) (hf:P.funcs[f]?=some fn) (hb:fn.body.isSome=false) (z:fn.name= "maps.clone") (N:fn.origin= "")
  (H:AH ρ μ h w) (hT:Ba ρ μ tm a) {r:Hy} (j:Wk h (ev tm (AF x))=some r):EP P ρ μ h a o w r:=by
 have X:=Aq hT x
 unfold Wk at j
 split at j
 ·rename_i t b e1
  rw [e1]at X
  obtain ⟨u,e2,hu⟩:=X.iface
  obtain ⟨g,hg,rfl⟩:=hu.O6
  have key:∀(B:Block) (ms:Array MapEntry) (d:Nat),w.heap[g]?=some (.map ms d)→(∀C,μ.le C→CM ρ C B (some (.map ms d)) (0,0))→r=.val (.iface t (.map h.next)) (h.add B)→EP P ρ μ h a o w r:=fun B ms d y hB hr=>by
   subst hr
   have U:=Av.add H B (.map ms d) (0,0) hB
   refine ⟨.value (.iface t (.map (some w.heap.size))),_,_,_,?_,.inl rfl,U,?_⟩
   ·obtain ⟨n1,n2⟩:=Wj fn z N
    have Z:(fn.name== "runtime.NumGoroutine")=false:=by rw [z];rfl
    have R:fn.body.isNone=true:=by cases hbb:fn.body<;>simp [hbb]at hb⊢
    have aa:(Extern.MapsClone.clone #[.iface t (.map (some g))]).run P w=.ok (.iface t (.map (some w.heap.size))) (w.alloc (.map ms d)):=by
     have e:Extern.MapsClone.clone #[.iface t (.map (some g))]=(getObj g>>=fun o=>match o with
      |.map entries clock=>(newObj (.map entries clock)>>=fun n=>pure (.iface t (.map (some n))))
      |_=>stuck "maps.clone: a map expected"):=rfl
     have O:(getObj g).run P w=.ok (.map ms d) w:=by simp [getObj,Sem.run,y]
     rw [e]
     simp [O]
    have Q:a.eval (.func f)=.func (.func f) #[] #[]:=rfl
    simp only [execOp,ho,resolve,M,D,List.map_toArray,List.map_cons,List.map_nil,e2,Q,Deferred.ofValue,Sem.run_bind,Sem.run_pure,Result.andThen_ok,invoke,callFunc,run_program,hf,Z,R,n1,n2,run_mark]
    simp [aa]
   ·simp only [Ag]
    exact ⟨_,rfl,_,Ap.BM _ _ _,rfl⟩
  unfold AcE at j
  split at j
  ·rename_i i hi
   simp only [oI]at j
   obtain ⟨g',ms,d,k,y,J⟩:=H.smap (EB hi)
   rw [hg]at k
   simp only [oI,Prod.mk.injEq]at k
   obtain ⟨rfl,_⟩:=k
   exact key (.smap i) ms d y (fun C A=>⟨rfl,ms,d,rfl,J6.mono A.Bb J⟩) j.symm
  ·obtain ⟨m,hm,j⟩:=Ac j
   simp only [oI]at j
   obtain ⟨g',ms,k,y,J⟩:=H.map (DI hm)
   rw [hg]at k
   simp only [oI,Prod.mk.injEq]at k
   obtain ⟨rfl,_⟩:=k
   exact key (.map m.1 m.2) ms m.2 y (fun C A=>⟨rfl,ms,rfl,J.mono A⟩) j.symm
 ·cases j
theorem JN {kk:LK} {x y:Aa} {u v:Value} (c:Ag ρ μ x u) (d:Ag ρ μ y v) (h:PJ kk x y=some true):Instr.sameBits 10000 v u=true:=by
 unfold PJ at h
 split at h
 ·obtain ⟨o,g⟩:=Ao h
  simp only [oI]at g
  rw [c.int,d.int,Dt.1 o,Rw.1 g]
  simp [Instr.sameBits]
 ·simp only [oI]at h
  obtain ⟨s,rfl,z⟩:=c.str
  obtain ⟨k,rfl,j⟩:=d.str
  have:s=k:=K5 (by rw [z,j];exact DF.1 h)
  subst this
  simp only [Instr.sameBits]
  rw [beq_toListBytes];simp
 ·simp only [oI,beq_eq,beq_iff_eq]at h
  subst h
  rw [c.bool,d.bool]
  simp [Instr.sameBits]
 ·cases h
theorem M4 {kk:LK} {d:TypeDesc} (P:kk.fits d) {k v:Aa} {y N:Value} {c:Nat} (u:Ag ρ μ k y) (A:k.single=true) (C:Ag ρ μ v N):∀{H g:List Entry} {new:Bool} {ms:List MapEntry} (n:Nat),Ca ρ μ H ms→AgZ kk k v c H=some (g,new)→
  (new=true∧Instr.findNow d y ms n=some none∧Ca ρ μ g (ms++[{key:=y,val:=N,born:=c}]))∨
  (new=false∧∃i M m,Instr.findNow d y ms n=some (some (n+i,M))∧ms[i]?=some m∧Instr.sameBits 10000 m.key y=true∧Ca ρ μ g (ms.modify i fun e=>{e with key:=y,val:=N}))
 |[],g,new,ms,n,he,h=>by
  simp only [Ca]at he
  subst he
  have h:some ([⟨k,v,c⟩],true)=some (g,new):=h
  simp only [oI,Prod.mk.injEq]at h
  obtain ⟨rfl,rfl⟩:=h
  left
  refine ⟨rfl,rfl,?_⟩
  simp only [Ca,List.nil_append]
  exact ⟨_,_,rfl,⟨A,u,C,rfl⟩,rfl⟩
 |e::H,g,new,ms,n,he,h=>by
  simp only [Ca]at he
  obtain ⟨m,rest,rfl,⟨hs,j,z,o⟩,x⟩:=he
  have h:(AB (PJ kk k e.key) fun b=>bif b then some (⟨k,v,e.born⟩::H,false)else AB (AgZ kk k v c H) fun r=>some (e::r.1,r.2))=some (g,new):=h
  obtain ⟨b,hb,J⟩:=Ac h
  have D:=O3 P u j hb
  cases b with
  |true=>
   simp only [cond_true,oI,Prod.mk.injEq]at J
   obtain ⟨rfl,rfl⟩:=J
   right
   refine ⟨rfl,0,m.val,m,by simp [Instr.findNow,D],rfl,?_,?_⟩
   ·exact JN u j hb
   ·simp only [List.modify_zero_cons,Ca]
    exact ⟨_,_,rfl,⟨A,u,C,o⟩,x⟩
  |false=>
   simp only [cond_false]at J
   obtain ⟨r,Q,O⟩:=Ac J
   simp only [oI,Prod.mk.injEq]at O
   obtain ⟨rfl,rfl⟩:=O
   rcases M4 P u A C (n+1) x Q with ⟨e1,e2,e3⟩|⟨e1,i,M,m',e2,e3,e4,e5⟩
   ·left
    refine ⟨e1,by simp [Instr.findNow,D,e2],?_⟩
    simp only [List.cons_append,Ca]
    exact ⟨_,_,rfl,⟨hs,j,z,o⟩,e3⟩
   ·right
    refine ⟨e1,i+1,M,m',by simp [Instr.findNow,D,e2];omega,by simpa using e3,e4,?_⟩
    simp only [List.modify_succ_cons,Ca]
    exact ⟨_,_,rfl,⟨hs,j,z,o⟩,e5⟩
end
end Go.AM
end
section
namespace Go.AM
section
variable {ρ:Env} {μ:Ap} {Bb:Nat→Option Obj} {a b:Array Value}
theorem AQ.congr:∀{ps:List PV} {δ c:Nat},(∀i,i<ps.length→b[c+i]?=a[δ+i]?)→AQ Bb a δ ps→AQ Bb b c ps
 |[],_,_,_,_=>by simp only [AQ]
 |p::ps,δ,c,h,e=>by
  simp only [AQ]at e⊢
  obtain ⟨⟨u,g,d⟩,j⟩:=e
  refine ⟨⟨u,?_,d⟩,AQ.congr (δ:=δ+1) (fun i k=>?_) j⟩
  ·have:=h 0 (by simp)
   simpa [g]using this
  ·have:=h (i+1) (by simp;omega)
   rw [show c+1+i=c+(i+1) by omega,this,show δ+1+i=δ+(i+1) by omega]
theorem AQ.values:∀{ps:List PV} {δ:Nat},AQ Bb a δ ps→∃l:List Value,l.length=ps.length∧(∀j v,l[j]?=some v→a[δ+j]?=some v)∧∀j,j<ps.length→a[δ+j]?=l[j]?
 |[],δ,_=>⟨[],rfl,fun j v h=>by simp at h,fun j h=>by simp at h⟩
 |p::ps,δ,e=>by
  simp only [AQ]at e
  obtain ⟨⟨u,c,x⟩,k⟩:=e
  obtain ⟨l,d,o,g⟩:=AQ.values k
  refine ⟨u::l,by simp [d],fun j v h=>?_,fun j h=>?_⟩
  ·cases j with
   |zero=>simp only [List.getElem?_cons_zero,oI]at h;subst h;exact c
   |succ j=>rw [show δ+(j+1)=δ+1+j by omega];exact o j v (by simpa using h)
  ·cases j with
   |zero=>simpa using c
   |succ j=>
    rw [show δ+(j+1)=δ+1+j by omega,g j (by simp at h;omega)]
    simp
theorem Ag.freeze {x:Aa} {p:PV} {v:Value} (hd:WA ρ (loose x) p) (h:Ag ρ μ x v):IG μ.Bb p v:=by
 cases x<;>simp only [loose,WA,Mr]at hd
 case nilSlice=>
  obtain ⟨c,rfl⟩:=hd
  have e:v=.slice none 0 0:=by simpa only [Ag]using h
  simp only [IG]
  exact ⟨0,Nat.le_refl _,.inl ⟨trivial,none,e⟩⟩
 case bool|int|nilPtr=>subst hd;simp only [IG];simpa only [Ag]using h
 case str=>subst hd;simp only [IG];exact h.str
 case svar=>subst hd;simp only [IG];exact h.svar
 case lst f i c n=>
  obtain ⟨_,rfl,_⟩:=hd
  exact h.lst.1
theorem Aw.freeze:∀{c:List Aa} {vs:List Value} {ps:List PV} {δ:Nat},CR ρ (CW c) ps→Aw ρ μ c vs→(∀i v,vs[i]?=some v→a[δ+i]?=some v)→AQ μ.Bb a δ ps
 |[],vs,ps,δ,hd,h,ha=>by
  have hd:ps=[]:=hd
  subst hd
  simp only [AQ]
 |x::c,vs,ps,δ,hd,h,ha=>by
  have hd:∃p rest,ps=p::rest∧WA ρ (loose x) p∧CR ρ (CW c) rest:=hd
  obtain ⟨p,rest,rfl,o,g⟩:=hd
  simp only [Aw]at h
  obtain ⟨v,y,rfl,⟨_,d⟩,k⟩:=h
  simp only [AQ]
  refine ⟨⟨v,by simpa using ha 0 v rfl,d.freeze o⟩,Aw.freeze g k fun i u j=>?_⟩
  rw [show δ+1+i=δ+(i+1) by omega]
  exact ha (i+1) u (by simpa using j)
theorem CR.length:∀{c:List Aa} {ps:List PV},CR ρ c ps→c.length=ps.length
 |[],ps,h=>by have h:ps=[]:=h;subst h;rfl
 |x::c,ps,h=>by
  have h:∃p rest,ps=p::rest∧WA ρ x p∧CR ρ c rest:=h
  obtain ⟨p,rest,rfl,_,d⟩:=h
  simp [CR.length d]
theorem CR.append:∀{g d:List Aa} {ps c:List PV},CR ρ g ps→CR ρ d c→CR ρ (g++d) (ps++c)
 |[],d,ps,c,h,h'=>by have h:ps=[]:=h;subst h;exact h'
 |x::g,d,ps,c,h,h'=>by
  have h:∃p rest,ps=p::rest∧WA ρ x p∧CR ρ g rest:=h
  obtain ⟨p,rest,rfl,j,k⟩:=h
  exact ⟨p,rest++c,rfl,j,CR.append k h'⟩
theorem Ej.flat:∀{c:List (List Aa)} {ps:List (List PV)},Ej ρ c ps→CR ρ c.flatten ps.flatten∧c.length=ps.length∧∀n,(∀x∈c,x.length=n)→∀p∈ps,p.length=n
 |[],ps,h=>by have h:ps=[]:=h;subst h;exact ⟨rfl,rfl,fun _ _ _ A=>by cases A⟩
 |x::c,ps,h=>by
  have h:∃p rest,ps=p::rest∧CR ρ x p∧Ej ρ c rest:=h
  obtain ⟨p,rest,rfl,g,u⟩:=h
  obtain ⟨k,o,z⟩:=Ej.flat u
  refine ⟨?_,by simp [o],fun n j q d=>?_⟩
  ·rw [List.flatten_cons,List.flatten_cons];exact g.append k
  ·rcases List.mem_cons.1 d with rfl|d
   ·rw [←g.length];exact j x List.mem_cons_self
   ·exact z n (fun y C=>j y (List.mem_cons_of_mem _ C)) q d
theorem Ga:∀{l:List Aa},(CW l).length=l.length
 |[]=>rfl
 |v::r=>by show (CW r).length+1=_;rw [Ga];rfl
theorem Ua (size:Nat) (cs:List Aa):Ik size 0 cs=match cs with|[]=>some []|_::_=>none:=by cases cs<;>rfl
theorem Ub (size n:Nat) (cs:List Aa):Ik size (n+1) cs=AB (taken size cs) fun c=>AB (Ik size n (dropped size cs)) fun r=>some (c::r):=rfl
theorem DQ {size:Nat}:∀{n:Nat} {cs:List Aa} {d:List (List Aa)},Ik size n cs=some d→d.flatten=cs∧d.length=n∧∀x∈d,x.length=size
 |0,cs,d,h=>by
  rw [Ua]at h
  split at h
  ·simp only [oI]at h;subst h;exact ⟨rfl,rfl,fun _ h=>by cases h⟩
  ·cases h
 |n+1,cs,d,h=>by
  rw [Ub]at h
  obtain ⟨c,hc,h⟩:=Ac h
  obtain ⟨r,y,h⟩:=Ac h
  simp only [oI]at h
  subst h
  obtain ⟨k,o,u⟩:=DQ y
  obtain ⟨j,z⟩:=GA hc
  refine ⟨?_,by simp [o],fun x g=>?_⟩
  ·rw [List.flatten_cons,k,j,Jz];exact List.take_append_drop _ _
  ·rcases List.mem_cons.1 g with rfl|g
   ·rw [j,lT'];omega
   ·exact u x g
theorem Kj (Γ:An) (i c k:Nat):Kk Γ i c 0 k=some []:=rfl
theorem RD (Γ:An) (i c n k:Nat):Kk Γ i c (n+1) k=AB (PD i (.lit (.ofNat k)) Γ.elems) fun cs=>bif Nat.beq (Ad cs) c then AB (Kk Γ i c n (k+1)) fun r=>some (cs++r)else none:=rfl
theorem Ki {Γ:An} (y:Γ.AG ρ) {i u:Nat} {l:List (List PV)} (hl:ρ.lst i=l) {δ:Nat} (A:BR μ.Bb u a δ l):∀{n k:Nat} {cs:List Aa},Kk Γ i u n k=some cs→k+n≤l.length→
  cs.length=n*u∧∀j x,cs[j]?=some x→∃v,a[δ+k*u+j]?=some v∧x.single=true∧Ag ρ μ x v
 |0,k,cs,h,hk=>by
  rw [Kj]at h
  simp only [oI]at h
  subst h
  exact ⟨by simp,fun j x h=>by simp at h⟩
 |n+1,k,cs,h,hk=>by
  rw [RD]at h
  obtain ⟨c,hc,h⟩:=Ac h
  obtain ⟨d,h⟩:=Ao h
  obtain ⟨r,z,h⟩:=Ac h
  simp only [oI]at h
  subst h
  have d:=Al.1 d
  rw [Ka]at d
  obtain ⟨C,D⟩:=Ki y hl A z (by omega)
  obtain ⟨ps,_,g,H⟩:=y.elems _ (I1 hc)
  have g:(ρ.lst i)[k]?=some ps:=g
  rw [hl]at g
  obtain ⟨O,J⟩:=A.get k ps g
  obtain ⟨N,M⟩:=AQ.Ux H J
  refine ⟨by rw [lA,C,d,Nat.add_mul];omega,fun j x o=>?_⟩
  by_cases hj:j<c.length
  ·rw [List.getElem?_append_left hj]at o
   exact M j x o
  ·rw [List.getElem?_append_right (by omega)]at o
   obtain ⟨v,hv,hs⟩:=D _ x o
   refine ⟨v,?_,hs⟩
   rw [←hv,d]
   congr 1
   rw [Nat.add_mul];rw [d]at hj;omega
theorem OX:∀(l:List Aa),taken l.length l=some l
 |[]=>rfl
 |x::l=>by show (AB (taken l.length l) fun r=>some (x::r))=_;rw [OX l];rfl
theorem Yj (l:List Aa):cut l 0 l.length=some l:=OX l
end
section
variable {P:Program} {ρ:Env} {μ:Ap} {w:World} {h:Ak}
theorem P9 (H:AH ρ μ h w) {f:Bool} {i y size n:Nat} {t:ST} {u:Value} {cs:List Aa} (D:Ag ρ μ (.lst f i y t) u) (hs:Ahn h.fx size i y t=some (n,cs)):
  cs.length=n*size∧((n=0∧cs=[]∧∃p c,u=.slice p 0 c)∨∃r δ c a e fr,u=.slice (some ⟨r,δ,none⟩) n c∧w.heap[r]?=some (.cells a e fr)∧∀j x,cs[j]?=some x→∃v,a[δ+j]?=some v∧x.single=true∧Ag ρ μ x v):=by
 unfold Ahn at hs
 split at hs
 ·rename_i m
  obtain ⟨hc,hs⟩:=Ao hs
  obtain ⟨N,hg,hs⟩:=Ac hs
  simp only [oI,Prod.mk.injEq]at hs
  obtain ⟨rfl,rfl⟩:=hs
  have hc:=Al.1 hc
  subst hc
  obtain ⟨p,c,g,_,k,J⟩:=D.Ey
  have k:(m:Int)=((ρ.lst i).length:Int):=k
  have o:(ρ.lst i).length=m:=by omega
  by_cases h0:m=0
  ·subst h0
   rw [Kj]at hg
   simp only [oI]at hg
   subst hg
   exact ⟨by simp,.inl ⟨rfl,rfl,p,c,by rw [g,o]⟩⟩
  ·obtain ⟨r,δ,a,e,rfl,d,C⟩:=J (by omega)
   obtain ⟨M,z⟩:=Ki H.AS.facts rfl C hg (by omega)
   obtain ⟨fr,d⟩:=d
   refine ⟨M,.inr ⟨r,δ,c,a,e,fr,by rw [g,o],(H.AS.Bb _ _ d).1,fun j x A=>?_⟩⟩
   have:=z j x A
   simpa using this
 ·cases hs
theorem Kv {Γ:Ak} {size n:Nat} {part:AL} {new:List Aa} {r:ST×Block} (d:Γ.fx.AG ρ) (c:I8 Γ size part n new=some r):
  ∃(j:Nat) (A B:List (List PV)),r.2=.list j size∧r.1.den ρ=((ρ.lst j).length:Int)∧(ρ.lst j).length≤1048576∧ρ.lst j=A++B∧FU ρ part A∧B.length=n∧(∀p∈B,p.length=size)∧CR ρ (CW new) B.flatten:=by
 unfold I8 at c
 obtain ⟨_,c⟩:=Ao c
 obtain ⟨Q,u,c⟩:=Ac c
 obtain ⟨j,y,c⟩:=Ac c
 obtain ⟨t,N,c⟩:=Ac c
 obtain ⟨hb,c⟩:=Ao c
 simp only [oI]at c
 subst c
 obtain ⟨J,P,M⟩:=DQ u
 obtain ⟨A,H,z,x,B,C,k,O,g⟩:=d.defs _ (Fm y)
 have g:C=[]:=g
 subst g
 rw [List.append_nil]at k
 subst k
 obtain ⟨o,R,D⟩:=Ej.flat O
 have hl:=d.Ad _ (CH N)
 have hl:t.den ρ=((ρ.lst j).length:Int):=hl
 have hb:=GM d hb
 have hb:t.den ρ≤1048576:=hb
 exact ⟨j,A,H,rfl,hl,by omega,z,x,by omega,D size M,by rw [J]at o;exact o⟩
theorem To {a b:Option (Aa×Ak)} {r:Aa×Ak} (h:orR a b=some r):a=some r∨b=some r:=by
 cases a with
 |none=>exact .inr h
 |some x=>exact .inl h
theorem B6.two {p:List AL} {q:AL}:∀{l:List (List PV)},B6 ρ (p++[q]) l→∃x y,l=x++y∧B6 ρ p x∧FU ρ q y:=by
 induction p with
 |nil=>
  intro l h
  obtain ⟨x,y,rfl,d,c⟩:=h
  have c:y=[]:=c
  subst c
  exact ⟨[],x,by simp,rfl,d⟩
 |cons z p ih=>
  intro l h
  obtain ⟨x,y,rfl,d,c⟩:=h
  obtain ⟨g,k,rfl,o,j⟩:=ih c
  exact ⟨x++g,k,(List.append_assoc _ _ _).symm,⟨x,g,rfl,d,o⟩,j⟩
theorem Kw {h:Ak} {size n:Nat} {x:Aa} {new:List Aa} {r:Aa×Ak} (d:h.fx.AG ρ) (c:Mx h size x n new=some r):
  ∃(p:List AL) (j:Nat) (t:ST) (A B:List (List PV)),Qk h size x=some p∧r=(.vec h.next size t,h.add (.list j size))∧t.den ρ=((ρ.lst j).length:Int)∧(ρ.lst j).length≤1048576∧ρ.lst j=A++B∧B6 ρ p A∧B.length=n∧(∀p∈B,p.length=size)∧CR ρ (CW new) B.flatten:=by
 unfold Mx at c
 obtain ⟨_,c⟩:=Ao c
 obtain ⟨p,H,c⟩:=Ac c
 obtain ⟨O,k,c⟩:=Ac c
 obtain ⟨j,u,c⟩:=Ac c
 obtain ⟨t,J,c⟩:=Ac c
 obtain ⟨hb,c⟩:=Ao c
 simp only [oI]at c
 subst c
 obtain ⟨C,N,D⟩:=DQ k
 obtain ⟨A,B,y,o,M⟩:=B6.two (d.defs _ (Pt u))
 obtain ⟨g,P,z⟩:=Ej.flat M
 have hl:t.den ρ=((ρ.lst j).length:Int):=d.Ad _ (CH J)
 have hb:t.den ρ≤1048576:=GM d hb
 exact ⟨p,j,t,A,B,H,rfl,hl,by omega,y,o,by omega,z size D,by rw [C]at g;exact g⟩
end
end Go.AM
end
section
namespace Go.AM
section
variable {P:Program} {Γ:An} {ρ:Env} {μ:Ap} {tm:Tr Aa} {a:Act} {w:World} {h:Ak}
theorem GD {r:Nat} {ms:Array MapEntry} {k:Nat} (c:w.heap[r]?=some (.map ms k)) (o:Obj):(setObj r o).run P w=.ok () {w with heap:=w.heap.setIfInBounds r o}:=by
 simp [setObj,Sem.run,c]
theorem M3 {Bb:Nat→Option Obj} {b:ByteArray} {x:Array Value} {ps:List PV} (hs:x.size=ps.length) (D:AQ Bb x 0 ps):∀{l:List (List Nat×List PV)} {ms:List MapEntry} (n:Nat),J6 Bb l ms→
  (Instr.findNow .string (.string b) ms n=some none∧∀born,J6 Bb (Bj l (strOf b) ps) (ms++[{key:=.string b,val:=.agg x,born:=born}]))∨
  (∃i C m,Instr.findNow .string (.string b) ms n=some (some (n+i,C))∧ms[i]?=some m∧Instr.sameBits 10000 m.key (.string b)=true∧J6 Bb (Bj l (strOf b) ps) (ms.modify i fun e=>{e with key:=.string b,val:=.agg x}))
 |[],ms,n,k=>by
  have k:ms=[]:=k
  subst k
  exact .inl ⟨rfl,fun born=>⟨_,_,rfl,⟨b,rfl,rfl⟩,⟨x,rfl,hs,D⟩,rfl⟩⟩
 |e::es,ms,n,k=>by
  obtain ⟨m,rest,rfl,⟨o,g,c⟩,⟨y,H,A,u⟩,d⟩:=k
  have j:Instr.sameNow .string (.string b) m.key=some (decide (strOf b=e.1)):=by
   rw [g,←c]
   have:decide (strOf b=strOf o)=(b.toList==o.toList):=by rw [←CT,Bool.eq_iff_iff,DF];simp
   rw [this,←beq_toListBytes]
   simp [Instr.sameNow]
  by_cases hc:e.1=strOf b
  ·right
   refine ⟨0,m.val,m,by simp [Instr.findNow,j,hc],rfl,?_,?_⟩
   ·rw [g]
    have:o=b:=K5 (by rw [c,hc])
    subst this
    simp only [Instr.sameBits]
    rw [beq_toListBytes];simp
   ·simp only [List.modify_zero_cons,Bj,hc,if_true]
    exact ⟨_,_,rfl,⟨b,rfl,rfl⟩,⟨x,rfl,hs,D⟩,d⟩
  ·have z:¬strOf b=e.1:=fun h=>hc h.symm
   rcases M3 (b:=b) hs D (n+1) d with ⟨h3,h4⟩|⟨i,C,m',h3,h4,h5,h6⟩
   ·left
    refine ⟨by simp [Instr.findNow,j,z,h3],fun born=>?_⟩
    simp only [Bj,if_neg hc,List.cons_append]
    exact ⟨_,_,rfl,⟨o,g,c⟩,⟨y,H,A,u⟩,h4 born⟩
   ·right
    refine ⟨i+1,C,m',by simp [Instr.findNow,j,z,h3];omega,by simpa using h4,h5,?_⟩
    simp only [List.modify_succ_cons,Bj,if_neg hc]
    exact ⟨_,_,rfl,⟨o,g,c⟩,⟨y,H,A,u⟩,h6⟩
theorem NQ {o:Oper} {t kt e:TypeId} {m k x:Operand} {kk:LK} (J:o.op=.mapUpdate t m k x∨o.op=.insert t m k x) (H:AH ρ μ h w) (hT:Ba ρ μ tm a) (hu:P.underlying t=some (.map kt e)) (hk:Zc P kt=some kk) {h':Ak}
  (hs:Vp h kk (ev tm (AF m)) (ev tm (AF k)) (ev tm (AF x))=some h'):EP P ρ μ h a o w (.val .any h'):=by
 have hm:=Aq hT m
 have ap:=Aq hT k
 have hx:=Aq hT x
 obtain ⟨d,hd,hf⟩:=PI hk
 unfold Vp at hs
 split at hs
 ·rename_i b e1
  unfold AbS at hs
  split at hs
  ·rename_i i U
   obtain ⟨aD,Q⟩:=Ao hs
   clear hs
   obtain ⟨rfl,s,an⟩:=LB (ρ:=ρ) aD
   have hf:d=.string:=hf
   subst hf
   obtain ⟨kb,ek,rfl⟩:=BS an ap
   unfold AbR at Q
   split at Q
   ·rename_i cs aB
    obtain ⟨_,R⟩:=Ao Q
    obtain ⟨j,hj,R⟩:=Ac R
    simp only [oI]at R
    subst R
    obtain ⟨s',ps,q1,q2,q3⟩:=H.AS.facts.Mg _ (PA hj)
    have q1:Et ρ (ev tm (AF k))=some s':=q1
    rw [an]at q1
    simp only [oI]at q1
    subst q1
    have q2:CR ρ (CW cs) ps:=q2
    have q3:ρ.map j=Bj (ρ.map i) (strOf kb) ps:=q3
    rw [aB]at hx
    obtain ⟨xa,ex,ao⟩:=hx.agg
    have aw:xa.size=ps.length:=by
     have h1:=ao.length
     have h2:=q2.length
     rw [Ga]at h2
     simp at h1
     omega
    have aA:AQ μ.Bb xa 0 ps:=Aw.freeze q2 ao fun i v hv=>by simpa using hv
    rw [e1]at hm
    obtain ⟨g,hg,X⟩:=hm.O6
    obtain ⟨g',ms,M,C,u,he⟩:=H.smap (EB U)
    rw [hg]at C
    simp only [oI,Prod.mk.injEq]at C
    obtain ⟨rfl,_⟩:=C
    have D:(getObj g).run P w=.ok (.map ms M) w:=by simp [getObj,Sem.run,u]
    have N:(Instr.checkKey false 10000 kt (a.eval k)).run P w=.ok () w:=GX hd (kk:=.str) rfl false 9999 _
    have ae:g<w.heap.size:=(Array.getElem?_eq_some_iff.1 u).1
    have A:∀(z:Array MapEntry) (cl:Nat),J6 μ.Bb (ρ.map j) z.toList→Av ρ μ h w μ (h.set b (some (.smap j))) {w with heap:=w.heap.setIfInBounds g (.map z cl)}:=fun z cl ad=>by
     refine Av.change H (EB U) hg (.smap j) (fun i U=>?_) (by simp) rfl rfl ?_
     ·show (w.heap.setIfInBounds g _)[i]?=_
      rw [Array.getElem?_setIfInBounds_ne (Ne.symm U)]
     ·refine ⟨rfl,z,cl,?_,ad⟩
      show (w.heap.setIfInBounds g _)[g]?=_
      rw [Array.getElem?_setIfInBounds_self_of_lt ae]
    have run:∀(O:World),(Instr.mapUpdate t (a.eval m) (a.eval k) (a.eval x)).run P w=.ok () O→(execOp a.eval o).run P w=.ok .skip O:=fun O c=>by
     rcases J with J|J<;>simp [execOp,J,c]
    rcases M3 (b:=kb) aw aA 0 he with ⟨e4,e5⟩|⟨i',v0,m',e4,e5,e6,e7⟩
    ·rw [←ek]at e4
     have y:=run_findKey (P:=P) (w:=w) hd e4
     have c:(Instr.mapUpdate t (a.eval m) (a.eval k) (a.eval x)).run P w=.ok () {w with heap:=w.heap.setIfInBounds g (.map (ms.push {key:=a.eval k,val:=a.eval x,born:=M}) (M+1))}:=by
      simp only [Instr.mapUpdate,Sem.run_bind,run_underlying hu,Result.andThen_ok,X,D,N,y]
      exact GD u _
     refine ⟨.skip,undef,_,μ,run _ c,.inr ⟨rfl,rfl⟩,?_,trivial⟩
     exact A _ _ (by rw [q3,ek,ex];simpa using e5 M)
    ·rw [←ek]at e4
     have y:=run_findKey (P:=P) (w:=w) hd e4
     rw [Nat.zero_add]at y
     have ab:ms[i']?=some m':=by simpa using e5
     have Z:(Instr.keyThatStays (((ms[i']?).map (·.key)).getD (a.eval k)) (a.eval k)).run P w=.ok (a.eval k) w:=by
      rw [ab]
      simp only [Option.map_some,Option.getD_some,Instr.keyThatStays]
      rw [if_pos (by rw [ek];exact e6)]
      rfl
     have c:(Instr.mapUpdate t (a.eval m) (a.eval k) (a.eval x)).run P w=.ok () {w with heap:=w.heap.setIfInBounds g (.map (ms.modify i' fun e=>{e with key:=a.eval k,val:=a.eval x}) M)}:=by
      simp only [Instr.mapUpdate,Sem.run_bind,run_underlying hu,Result.andThen_ok,X,D,N,y,Z]
      exact GD u _
     refine ⟨.skip,undef,_,μ,run _ c,.inr ⟨rfl,rfl⟩,?_,trivial⟩
     exact A _ _ (by rw [q3,ek,ex];simpa using e7)
   ·cases Q
  rename_i aL
  obtain ⟨mm,am,hs⟩:=Ac hs
  obtain ⟨ag,hs⟩:=Ao hs
  obtain ⟨r,hr,hs⟩:=Ac hs
  simp only [oI]at hs
  subst hs
  rw [e1]at hm
  obtain ⟨g,hg,X⟩:=hm.O6
  obtain ⟨g',ms,C,u,he⟩:=H.map (DI am)
  rw [hg]at C
  simp only [oI,Prod.mk.injEq]at C
  obtain ⟨rfl,_⟩:=C
  have D:(getObj g).run P w=.ok (.map ms mm.2) w:=by simp [getObj,Sem.run,u]
  have N:(Instr.checkKey false 10000 kt (a.eval k)).run P w=.ok () w:=GX hd hf false 9999 _
  have ae:g<w.heap.size:=(Array.getElem?_eq_some_iff.1 u).1
  have A:∀(z:Array MapEntry) (cl:Nat),Ca ρ μ r.1 z.toList→Av ρ μ h w μ (h.set b (some (.map r.1 cl))) {w with heap:=w.heap.setIfInBounds g (.map z cl)}:=fun z cl ad=>by
   refine Av.change H (DI am) hg (.map r.1 cl) (fun i U=>?_) (by simp) rfl rfl ?_
   ·show (w.heap.setIfInBounds g _)[i]?=_
    rw [Array.getElem?_setIfInBounds_ne (Ne.symm U)]
   ·refine ⟨rfl,z,?_,ad⟩
    show (w.heap.setIfInBounds g _)[g]?=_
    rw [Array.getElem?_setIfInBounds_self_of_lt ae]
  have run:∀(O:World),(Instr.mapUpdate t (a.eval m) (a.eval k) (a.eval x)).run P w=.ok () O→(execOp a.eval o).run P w=.ok .skip O:=fun O c=>by
   rcases J with J|J<;>simp [execOp,J,c]
  rcases M4 hf ap ag hx 0 he hr with ⟨e3,e4,e5⟩|⟨e3,i,v0,m',e4,e5,e6,e7⟩
  ·have y:=run_findKey (P:=P) (w:=w) hd e4
   have c:(Instr.mapUpdate t (a.eval m) (a.eval k) (a.eval x)).run P w=.ok () {w with heap:=w.heap.setIfInBounds g (.map (ms.push {key:=a.eval k,val:=a.eval x,born:=mm.2}) (mm.2+1))}:=by
    simp only [Instr.mapUpdate,Sem.run_bind,run_underlying hu,Result.andThen_ok,X,D,N,y]
    exact GD u _
   refine ⟨.skip,undef,_,μ,run _ c,.inr ⟨rfl,rfl⟩,?_,trivial⟩
   rw [e3]
   exact A _ _ (by simpa using e5)
  ·have y:=run_findKey (P:=P) (w:=w) hd e4
   rw [Nat.zero_add]at y
   have ab:ms[i]?=some m':=by simpa using e5
   have Z:(Instr.keyThatStays (((ms[i]?).map (·.key)).getD (a.eval k)) (a.eval k)).run P w=.ok (a.eval k) w:=by
    rw [ab]
    simp only [Option.map_some,Option.getD_some,Instr.keyThatStays]
    rw [if_pos e6]
    rfl
   have c:(Instr.mapUpdate t (a.eval m) (a.eval k) (a.eval x)).run P w=.ok () {w with heap:=w.heap.setIfInBounds g (.map (ms.modify i fun e=>{e with key:=a.eval k,val:=a.eval x}) mm.2)}:=by
    simp only [Instr.mapUpdate,Sem.run_bind,run_underlying hu,Result.andThen_ok,X,D,N,y,Z]
    exact GD u _
   refine ⟨.skip,undef,_,μ,run _ c,.inr ⟨rfl,rfl⟩,?_,trivial⟩
   rw [e3]
   exact A _ _ (by simpa using e7)
 ·cases hs
theorem Gh (l:List UInt8):Aw ρ μ (byteCells (l.map (·.toNat))) (l.map fun b=>.int .u8 (b.toNat:Int)):=by
 induction l with
 |nil=>show Aw ρ μ [] [];simp only [Aw]
 |cons b l ih=>
  show Aw ρ μ (.int .u8 (.lit (.ofNat b.toNat))::byteCells (l.map (·.toNat))) _
  simp only [Aw,List.map_cons]
  exact ⟨_,_,rfl,⟨rfl,by simp only [Ag,ST.den];rfl⟩,ih⟩
theorem Dp (H:AH ρ μ h w) {size n:Nat} {bytes:Bool} {x:Aa} {u:Value} {cs:List Aa} (A:Ag ρ μ x u) (hs:JI h size bytes x=some (n,cs)):
  (Builtin.lenOf u).run P w=.ok n w∧cs.length=n*size∧∃L:Array Value,(Builtin.firstCells size n u).run P w=.ok L w∧Aw ρ μ cs L.toList:=by
 have key:∀(b g len r δ m c:Nat),MB h size b g len=some (n,cs)→μ b=some (r,δ,m)→u=.slice (some ⟨r,δ+g,none⟩) len c→
   (Builtin.lenOf u).run P w=.ok n w∧cs.length=n*size∧∃L:Array Value,(Builtin.firstCells size n u).run P w=.ok L w∧Aw ρ μ cs L.toList:=fun b g len r δ m c hs C e=>by
  subst e
  unfold MB at hs
  rw [AI]at hs
  by_cases h0:len=0
  ·rw [if_pos h0]at hs
   simp only [oI,Prod.mk.injEq]at hs
   obtain ⟨rfl,rfl⟩:=hs
   subst h0
   exact ⟨by simp [Builtin.lenOf],by simp,#[],by simp [Builtin.firstCells,loadCells,loadCellsFrom],by simp only [Aw]⟩
  ·rw [if_neg h0]at hs
   obtain ⟨vs,O,hs⟩:=Ac hs
   obtain ⟨Z,M,hs⟩:=Ac hs
   simp only [oI,Prod.mk.injEq]at hs
   obtain ⟨rfl,rfl⟩:=hs
   obtain ⟨r2,δ2,X,U,R,o,N,_,hc⟩:=H.cells O
   rw [C]at o
   simp only [oI,Prod.mk.injEq]at o
   obtain ⟨rfl,rfl,rfl⟩:=o
   obtain ⟨l,D,y,k⟩:=DP hc M
   have d:=run_loadCells_list (P:=P) (w:=w) ⟨r,δ+g,none⟩ l (fun j v hv=>by rw [Addr.Bh,C0 N];exact k j v hv)
   rw [D]at d
   exact ⟨by simp [Builtin.lenOf],(Ks M).1,l.toArray,by simp [Builtin.firstCells,d],by simpa using y⟩
 unfold JI at hs
 split at hs
 ·obtain ⟨Q,⟨rfl,rfl,p,c,rfl⟩|⟨r,δ,c,ar,e,_,rfl,N,hc⟩⟩:=P9 H A hs
  ·cases p
   ·exact ⟨by simp [Builtin.lenOf],by simp,#[],by simp [Builtin.firstCells],by simp only [Aw]⟩
   ·exact ⟨by simp [Builtin.lenOf],by simp,#[],by simp [Builtin.firstCells,loadCells,loadCellsFrom],by simp only [Aw]⟩
  ·obtain ⟨l,D,y,k⟩:=DP hc (Yj cs)
   have d:=run_loadCells_list (P:=P) (w:=w) ⟨r,δ,none⟩ l (fun j v hv=>by rw [Addr.Bh,C0 N];simpa using k j v hv)
   rw [D,Q]at d
   exact ⟨by simp [Builtin.lenOf],Q,l.toArray,by simp [Builtin.firstCells,d],by simpa using y⟩
 ·simp only [oI,Prod.mk.injEq]at hs
  obtain ⟨rfl,rfl⟩:=hs
  have e:u=.slice none 0 0:=by simpa only [Ag]using A
  subst e
  exact ⟨by simp [Builtin.lenOf],by simp,#[],by simp [Builtin.firstCells],by simp only [Aw]⟩
 ·obtain ⟨r,δ,m,C,e,_⟩:=A.slice
  exact key _ _ _ _ _ _ _ hs C e
 ·obtain ⟨r,δ,m,c,C,e,_⟩:=A.gslice
  exact key _ _ _ _ _ _ _ hs C e
 ·rename_i s
  obtain ⟨z,J⟩:=Ao hs
  clear hs
  have z:=Al.1 z
  subst z
  simp only [oI,Prod.mk.injEq]at J
  obtain ⟨rfl,rfl⟩:=J
  obtain ⟨b,rfl,rfl⟩:=A.str
  refine ⟨by simp [Builtin.lenOf,Dq,BG],?_,(b.data.map fun c=>.int .u8 c.toNat),?_,?_⟩
  ·have:=(Gh (ρ:=ρ) (μ:=μ) b.data.toList).length
   unfold strOf
   rw [this,Dq];simp
  ·have:b.extract 0 (IF (strOf b))=b:=by
    rw [Dq,BG]
    obtain ⟨⟨l⟩⟩:=b
    have:=ByteArray.extract_mk l 0 l.length
    rw [show (⟨⟨l⟩⟩:ByteArray)=ByteArray.mk l.toArray from rfl]
    rw [show (ByteArray.mk l.toArray).size=l.length from by simp [ByteArray.size],this]
    simp
   simp [Builtin.firstCells,this]
  ·simpa [strOf]using Gh (ρ:=ρ) (μ:=μ) b.data.toList
 ·cases hs
def ES (d:TypeDesc):Prop:=(∃e,d=.slice e)∨d=.string
theorem C4 {t u ty e:TypeId} {d:TypeDesc} (C:P.underlying t=some (.slice e)) (y:P.underlying u=some d) (hd:ES d) {size n c j:Nat} {x:Value} {L:Array Value} {w':World} {g:Option Addr}
  (hs:(sizeOf e).run P w=.ok size w) (z:(Builtin.lenOf x).run P w=.ok n w) (o:c+n≤j) (A:(Builtin.firstCells size n x).run P w=.ok L w)
  (k:match g with|some p=>(storeCells (p.add (c*size)) L.toList).run P w=.ok () w'|none=>w'=w):
  (Builtin.append_ #[t,u] ty #[.slice g c j,x]).run P w=.ok (.slice g (c+n) j) w':=by
 have D:(do pure (match (←underlying u)with|.int _=>true|_=>false):Sem Bool).run P w=.ok false w:=by
  rcases hd with ⟨e',rfl⟩|rfl<;>simp [run_underlying y]
 cases g with
 |none=>
  simp only at k
  subst k
  rcases hd with ⟨e',rfl⟩|rfl<;>simp [Builtin.append_,run_underlying C,run_underlying y,hs,z,o,A]
 |some p=>
  simp only at k
  rcases hd with ⟨e',rfl⟩|rfl<;>simp [Builtin.append_,run_underlying C,run_underlying y,hs,z,o,A,k]
theorem DX {t u ty e:TypeId} {d:TypeDesc} (U:P.underlying t=some (.slice e)) (N:P.underlying u=some d) (hd:ES d) {i:TypeInfo} {z:Value} (Q:P.info? e=some i) (M:i.zero=some z) {n c g:Nat} {x:Value} {O L:Array Value} {j:Option Addr}
  (J:(Builtin.lenOf x).run P w=.ok n w) (D:g<c+n) (H:(Builtin.firstCells i.size c (.slice j c g)).run P w.drew=.ok O w.drew) (R:(Builtin.firstCells i.size n x).run P w.drew=.ok L w.drew)
  (hb:i.bytes≤1048576) (X:c+n≤1048576):
  ∃k rest,c+n≤k∧rest.size=(k-(c+n))*z.cells.size∧rest=Builtin.zeroCells z.cells (k-(c+n))∧(Builtin.append_ #[t,u] ty #[.slice j c g,x]).run P w=.ok (.slice (some ⟨w.heap.size,0,none⟩) (c+n) k) (w.drew.alloc (.cells (O++L++rest) e)):=by
 have A:¬(c+n≤g):=by omega
 have y:¬(9223372036854775807<((c:Int)+(n:Int))):=by omega
 have o:=nextslicecap_le D
 have Z:Builtin.nextslicecap (c+n) g*i.bytes≤281474976710656:=by
  have:=Nat.mul_le_mul o hb
  have h2:2*(c+n)*1048576≤2*1048576*1048576:=by omega
  omega
 have C:¬(281474976710656<Builtin.nextslicecap (c+n) g*i.bytes):=by omega
 refine ⟨grownCap w (c+n) g e,Builtin.zeroCells z.cells (grownCap w (c+n) g e-(c+n)),?_,by simp [Builtin.zeroCells],rfl,?_⟩
 ·exact Nat.le_add_right _ _
 ·have aa:=H
  rcases hd with ⟨e',rfl⟩|rfl<;>
   simp [Builtin.append_,run_underlying U,run_underlying N,sizeOf,typeInfo,zeroValue,Q,M,J,A,y,C,Question.forced,H,R,newRow,grownCap]
theorem Av.drop (H:AH ρ μ h w) (b:Nat):Av ρ μ h w μ (h.set b none) w:=
 have hs:∀c B,(h.set b none).get c=some B→h.get c=some B:=fun c B hc=>by
  rw [Ak.Bk]at hc
  split at hc
  ·cases hc
  ·exact hc
 ⟨μ.le_refl,H.drop _ rfl rfl hs,Nat.le_refl _,fun r _ d=>⟨rfl,fun ⟨c,B,δ,hc,hm⟩=>d ⟨c,B,δ,hs c B hc,hm⟩⟩,rfl,rfl,Nat.le_refl _,fun _ _=>rfl,fun _ _ h=>.inl h,rfl⟩
theorem Av.XT {w':World} (H:AH ρ μ h w) {b:Nat} {P:Block} {r:Nat} {M:Nat×Nat} (hb:h.get b=some P) (N:μ b=some (r,M)) (B:Block) (δ:Nat×Nat)
  (D:∀i,i≠r→w'.heap[i]?=w.heap[i]?) (ab:w'.heap.size=w.heap.size) (Q:w'.os=w.os) (C:w'.output=w.output) (hB:∀O:Ap,μ.le O→CM ρ O B w'.heap[r]? δ):
  Av ρ μ h w (μ.put h.next (r,δ)) ((h.set b none).add B) w':=by
 have z:μ.le (μ.put h.next (r,δ)):=Ap.Rq (H.fresh _ (Nat.le_refl _))
 have u:∀c j s k,((h.set b none).add B).get c=some j→μ.put h.next (r,δ) c=some (s,k)→(c=h.next∧s=r∧j=B∧k=δ)∨(h.get c=some j∧μ c=some (s,k)∧c≠b):=fun c j s k hc d=>by
  rw [Ak.Kh,Ak.Bk]at hc
  by_cases e:c=h.next
  ·subst e
   rw [Ap.BM]at d
   simp only [oI,Prod.mk.injEq]at d
   rw [if_pos (Ak.JW ..).symm]at hc
   simp only [oI]at hc
   exact .inl ⟨rfl,d.1.symm,hc.symm,d.2.symm⟩
  ·rw [if_neg (by rw [Ak.JW];exact e)]at hc
   rw [Ap.Cl _ _ e]at d
   split at hc
   ·cases hc
   ·rename_i o
    exact .inr ⟨hc,d,o⟩
 have o:∀c j s k,h.get c=some j→μ c=some (s,k)→c≠b→s≠r:=fun c j s k hc d y e=>y (H.inj _ _ _ _ _ _ _ hc hb d (e▸N))
 have x:∀s,s<w.heap.size→¬AP μ h s→w'.heap[s]?=w.heap[s]?∧¬AP (μ.put h.next (r,δ)) ((h.set b none).add B) s:=fun s hs J=>by
  have A:s≠r:=fun e=>J ⟨b,P,M,hb,e▸N⟩
  refine ⟨D s A,?_⟩
  rintro ⟨c,j,k,hc,d⟩
  rcases u _ _ _ _ hc d with ⟨_,e,_,_⟩|⟨g,n,_⟩
  ·exact A e
  ·exact J ⟨c,j,k,g,n⟩
 refine ⟨z,⟨fun c hc=>?_,fun c j hc=>?_,fun c c' B1 B2 s δ1 δ2 X R U Z=>?_,H.GB x⟩,by omega,x,Q,C,Nat.le_succ _,fun b hb=>Ap.Cl _ _ (by omega),fun _ _ h=>.inl h,rfl⟩
 ·rw [Ak.JX,Ak.JW]at hc
  rw [Ap.Cl _ _ (by omega)]
  exact H.fresh c (by omega)
 ·by_cases e:c=h.next
  ·subst e
   refine ⟨r,δ,Ap.BM _ _ _,?_⟩
   rcases u _ _ _ _ hc (Ap.BM _ _ _)with ⟨_,_,rfl,_⟩|⟨hg,d,_⟩
   ·exact hB _ z
   ·rw [H.fresh _ (Nat.le_refl _)]at d;cases d
  ·have ac:=hc
   rw [Ak.Kh,Ak.Bk,if_neg (by rw [Ak.JW];exact e)]at hc
   split at hc
   ·cases hc
   ·rename_i y
    obtain ⟨s,k,d,hr⟩:=H.blk c j hc
    refine ⟨s,k,by rw [Ap.Cl _ _ e];exact d,?_⟩
    rw [D s (o _ _ _ _ hc d y)]
    exact hr.mono z
 ·rcases u _ _ _ _ X U with ⟨e1,e2,_,_⟩|⟨g1,n1,c1⟩<;>rcases u _ _ _ _ R Z with ⟨e3,e4,_,_⟩|⟨g2,n2,c2⟩
  ·rw [e1,e3]
  ·exact absurd e2 (o _ _ _ _ g2 n2 c2)
  ·exact absurd e4 (o _ _ _ _ g1 n1 c1)
  ·exact H.inj _ _ _ _ _ _ _ g1 g2 n1 n2
theorem OR {old new:List Aa} {O L rest:Array Value} {e:TypeId} {m:Nat} (o:Aw ρ μ old O.toList) (y:Aw ρ μ new L.toList) (z:m≤(O++L++rest).size) (c:Ap) (d:μ.le c):
  CM ρ c (.cells (old++new)) (some (.cells (O++L++rest) e)) (0,m):=by
 refine ⟨_,e,rfl,by omega,fun i x k=>?_⟩
 have g:=Aw.append o y
 obtain ⟨v,hv,hs,u⟩:=g.get k
 refine ⟨v,?_,hs,u.mono d⟩
 rw [Nat.zero_add]
 have j:=(List.getElem?_eq_some_iff.1 hv).1
 rw [Array.getElem?_append_left (by simpa using j)]
 rw [←Array.toList_append]at hv
 rw [Array.getElem?_toList]at hv
 exact hv
theorem Gw {o:Oper} {c:Call} {t u e:TypeId} {d:TypeDesc} {x y:Operand} (ho:o.op=.call c) (bX:c.callee=.builtin .append) (bH:c.args=#[x,y]) (bZ:c.argTypes=#[t,u])
  (H:AH ρ μ h w) (hT:Ba ρ μ tm a) (ht:P.underlying t=some (.slice e)) (hu:P.underlying u=some d) (hd:ES d) {i:TypeInfo} (hi:P.info? e=some i) (hb:i.bytes≤1048576) (hz:(i.zero.map fun v=>Nat.beq v.cells.size i.size).getD false=true)
  {n:Nat} {new:List Aa} (hs:∀w',w'=w∨w'=w.drew→(Builtin.lenOf (a.eval y)).run P w'=.ok n w'∧new.length=n*i.size∧∃L:Array Value,(Builtin.firstCells i.size n (a.eval y)).run P w'=.ok L w'∧Aw ρ μ new L.toList) {r:Aa×Ak} (g:I9 h i.size (ev tm (AF x)) n new=some r):EP P ρ μ h a o w (.val r.1 r.2):=by
 have R:=Aq hT x
 obtain ⟨z,hz,hzs⟩:∃z,i.zero=some z∧z.cells.size=i.size:=by
  cases e:i.zero with
  |none=>rw [e]at hz;simp at hz
  |some z=>rw [e]at hz;exact ⟨z,rfl,Al.1 (by simpa using hz)⟩
 obtain ⟨aL,ba,L,hL,ag⟩:=hs w (.inl rfl)
 obtain ⟨_,_,L',bT,aA⟩:=hs w.drew (.inr rfl)
 have bb:(sizeOf e).run P w=.ok i.size w:=by simp [sizeOf,typeInfo,hi]
 have run:∀{v:Value} {wf:World},(Builtin.append_ #[t,u] o.type #[a.eval x,a.eval y]).run P w=.ok v wf→(execOp a.eval o).run P w=.ok (.value v) wf:=fun {v wf} aE=>by
  simp [execOp,ho,resolve,bX,bH,bZ,invoke,builtin,aE]
 unfold I9 at g
 rw [AI]at g
 by_cases h0:n=0
 ·
  rw [if_pos h0]at g
  subst h0
  have aP:new=[]:=by
   have:new.length=0:=by simpa using ba
   exact List.eq_nil_of_length_eq_zero this
  subst aP
  have b3:L.toList=[]:=by simpa only [Aw]using ag
  have same:∀(D:Option Addr) (len cap:Nat),a.eval x=.slice D len cap→len≤cap→r=(ev tm (AF x),h)→EP P ρ μ h a o w (.val r.1 r.2):=fun D len cap M ac er=>by
   subst er
   refine ⟨.value (a.eval x),a.eval x,w,μ,run ?_,.inl rfl,Av.refl H,R⟩
   rw [M]
   refine C4 ht hu hd bb aL (by omega) hL ?_
   cases D with
   |none=>rfl
   |some p=>simp [b3,storeCells]
  unfold Yw at g
  split at g
  ·rename_i M
   have er:r=(ev tm (AF x),h):=by rw [M];simpa using g.symm
   rw [M]at R
   obtain ⟨p,c',N,ac,_⟩:=R.Ey
   exact same _ _ _ N ac er
  ·rename_i M
   have er:r=(ev tm (AF x),h):=by rw [M];simpa using g.symm
   rw [M]at R
   obtain ⟨r0,m0,k0,_,N,_,k1,k2⟩:=R.vec
   exact same _ _ _ N (by omega) er
  ·rename_i M
   rw [M]at R
   have N:a.eval x=.slice none 0 0:=by simpa only [Ag]using R
   simp only [oI]at g
   exact same _ _ _ N (Nat.le_refl _) g.symm
  ·rename_i M
   rw [M]at R
   obtain ⟨_,_,_,_,N,ac⟩:=R.slice
   simp only [oI]at g
   exact same _ _ _ N ac g.symm
  ·rename_i M
   rw [M]at R
   obtain ⟨_,_,_,_,_,N,ac,_⟩:=R.gslice
   simp only [oI]at g
   exact same _ _ _ N ac g.symm
  ·cases g
 ·rw [if_neg h0]at g
  have fresh:∀(D:Option Addr) (len cap:Nat) (h1:Ak) (old:List Aa) (O:Array Value),a.eval x=.slice D len cap→cap<len+n→len+n≤1048576→Av ρ μ h w μ h1 w→old.length=len*i.size→
    (Builtin.firstCells i.size len (.slice D len cap)).run P w.drew=.ok O w.drew→Aw ρ μ old O.toList→r=(.gslice h1.next 0 (len+n) i.size,h1.add (.cells (old++new)))→EP P ρ μ h a o w (.val r.1 r.2):=fun D len cap h1 old O M ai J ap ao U ah er=>by
   subst er
   obtain ⟨nc,rest,bz,aO,_,aE⟩:=DX (P:=P) (ty:=o.type) (O:=O) (L:=L') ht hu hd hi hz aL ai U bT hb J
   have aV:O.size=len*i.size:=by have:=ah.length;simp at this;omega
   have aZ:L'.size=n*i.size:=by have:=aA.length;simp at this;omega
   have bq:(O++L'++rest).size=nc*i.size:=by
    simp only [Array.size_append,aV,aZ,aO,hzs]
    rw [←Nat.add_mul,←Nat.add_mul]
    congr 1;omega
   have a4:=Av.add ap.rel.drew (.cells (old++new)) (.cells (O++L'++rest) e) (0,nc*i.size) (fun μ' ac=>OR ah aA (by omega) μ' ac)
   refine ⟨.value _,_,_,_,run (by rw [M];exact aE),.inl rfl,(ap.trans (Av.drew ap.rel)).trans a4,?_⟩
   simp only [Ag]
   exact ⟨_,_,_,nc,Ap.BM _ _ _,by simp,by omega,by omega⟩
  have aq:∀(D:Option Addr) (len cap:Nat) (h1:Ak) (Z:ST×Block) (X:List (List PV)) (O:Array Value),a.eval x=.slice D len cap→cap<len+n→Av ρ μ h w μ h1 w→(∃(j:Nat) (A B:List (List PV)),Z.2=.list j i.size∧Z.1.den ρ=((ρ.lst j).length:Int)∧(ρ.lst j).length≤1048576∧ρ.lst j=A++B∧A=X∧B.length=n∧(∀p∈B,p.length=i.size)∧CR ρ (CW new) B.flatten)→X.length=len→(∀p∈X,p.length=i.size)→
    (Builtin.firstCells i.size len (.slice D len cap)).run P w.drew=.ok O w.drew→O.size=len*i.size→AQ μ.Bb O 0 X.flatten→r=(.vec h1.next i.size Z.1,h1.add Z.2)→EP P ρ μ h a o w (.val r.1 r.2):=fun D len cap h1 Z X O M ai ap an aJ au U aV hX er=>by
   subst er
   obtain ⟨j,A,B,eb,et,J,eA,hA,hB,ad,ak⟩:=an
   subst hA
   have aQ:(ρ.lst j).length=len+n:=by rw [eA,lA];omega
   obtain ⟨nc,rest,bz,aO,_,aE⟩:=DX (P:=P) (ty:=o.type) (O:=O) (L:=L') ht hu hd hi hz aL ai U bT hb (by omega)
   have aZ:L'.size=n*i.size:=by have:=aA.length;simp at this;omega
   have bq:(O++L'++rest).size=nc*i.size:=by
    simp only [Array.size_append,aV,aZ,aO,hzs]
    rw [←Nat.add_mul,←Nat.add_mul]
    congr 1;omega
   have cv:A.flatten.length=len*i.size:=by rw [BJ au,aJ]
   have b1:B.flatten.length=n*i.size:=by rw [BJ ad,hB]
   have bo:AQ μ.Bb L' 0 B.flatten:=Aw.freeze ak aA fun i v hv=>by simpa using hv
   have a6:BR μ.Bb i.size (O++L'++rest) 0 (ρ.lst j):=by
    rw [B8]
    refine ⟨fun p Q=>?_,?_⟩
    ·rw [eA,List.mem_append]at Q
     exact Q.elim (au p) (ad p)
    ·rw [eA,List.flatten_append,AQ.append_iff]
     refine ⟨AQ.congr (fun k hk=>?_) hX,AQ.congr (fun k hk=>?_) bo⟩
     ·rw [Array.append_assoc,Array.getElem?_append_left (by omega)]
     ·rw [Array.append_assoc,Array.getElem?_append_right (by omega),Array.getElem?_append_left (by omega)]
      congr 1;omega
   have a4:=Av.add ap.rel.drew Z.2 (.cells (O++L'++rest) e) (0,OB (len+n) nc) (fun μ' ac=>by
    rw [eb]
    refine ⟨_,e,rfl,rfl,?_,?_,?_,?_,BR.mono ac.Bb a6⟩
    ·rw [B4 (by omega)];omega
    ·rw [B4 (by omega)];omega
    ·rw [B4 (by omega),BO (by omega)];exact bz
    ·rw [BO (by omega),bq];exact Nat.le_refl _)
   refine ⟨.value _,_,_,_,run (by rw [M];exact aE),.inl rfl,(ap.trans (Av.drew ap.rel)).trans a4,?_⟩
   simp only [Ag]
   refine ⟨_,_,len+n,Ap.BM _ _ _,?_,?_,?_,?_⟩
   ·rw [BO (by omega)]
   ·rw [et,aQ]
   ·rw [B4 (by omega)];exact Nat.le_refl _
   ·rw [B4 (by omega),BO (by omega)];exact bz
  have aC:∀(D:Option Addr) (len cap:Nat) (h1:Ak) (part:AL) (Z:ST×Block) (X:List (List PV)) (O:Array Value),a.eval x=.slice D len cap→cap<len+n→Av ρ μ h w μ h1 w→I8 h i.size part n new=some Z→(∀Y,FU ρ part Y→Y=X)→X.length=len→(∀p∈X,p.length=i.size)→
    (Builtin.firstCells i.size len (.slice D len cap)).run P w.drew=.ok O w.drew→O.size=len*i.size→AQ μ.Bb O 0 X.flatten→r=(.vec h1.next i.size Z.1,h1.add Z.2)→EP P ρ μ h a o w (.val r.1 r.2):=fun D len cap h1 part Z X O M ai ap al aB aJ au U aV hX er=>by
   obtain ⟨j,A,B,eb,et,J,eA,hA,hB,ad,ak⟩:=Kv H.AS.facts al
   exact aq D len cap h1 Z X O M ai ap ⟨j,A,B,eb,et,J,eA,aB A hA,hB,ad,ak⟩ aJ au U aV hX er
  unfold Yz at g
  split at g
  ·
   rename_i b es m M
   rw [M]at R
   unfold Yx at g
   obtain ⟨⟨li,b6⟩,bR,g⟩:=Ac g
   obtain ⟨bN,bU⟩:=Ao g
   clear g
   obtain ⟨Z,al,bV⟩:=Ac bU
   clear bU
   have aK:(Aa.vec h.next i.size Z.1,(h.set b none).add Z.2)=r:=by simpa using bV
   clear bV
   rw [aT,Al,Al]at bN
   obtain ⟨aw,a9⟩:=bN
   have a9:b6=es:=a9
   subst a9
   subst aw
   have al:I8 h i.size (.take li m) n new=some Z:=al
   obtain ⟨r0,m0,k,hm,N,hk,cw,bd⟩:=R.vec
   obtain ⟨r1,⟨δ1,m1⟩,af,c0,ty,ab,h0,h1,h2,h3,h4,h5⟩:=H.blk b _ (Di bR)
   rw [hm]at af
   simp only [oI,Prod.mk.injEq]at af
   obtain ⟨rfl,rfl,rfl⟩:=af
   have h1:(ρ.lst li).length≤BN m0:=h1
   have h4:BZ m0*i.size≤c0.size:=h4
   have h5:BR μ.Bb i.size c0 0 (ρ.lst li):=h5
   have bW:=al
   obtain ⟨j,A,B,eb,et,J,eA,hA,hB,ad,ak⟩:=Kv H.AS.facts bW
   have cx:k≤(ρ.lst li).length:=by
    obtain ⟨_,q,_⟩:=hA
    rw [hk]at q;omega
   have aB:∀Y,FU ρ (.take li m) Y→Y=(ρ.lst li).take k:=fun Y hY=>by
    obtain ⟨_,_,q⟩:=hY
    rw [q,hk];rfl
   have au:∀p∈(ρ.lst li).take k,p.length=i.size:=fun p Q=>(B8.1 h5).1 p (List.mem_of_mem_take Q)
   have aJ:((ρ.lst li).take k).length=k:=by rw [lT'];omega
   have hX:AQ μ.Bb c0 0 ((ρ.lst li).take k).flatten:=by
    have:=(B8.1 h5).2
    rw [←List.take_append_drop k (ρ.lst li),List.flatten_append,AQ.append_iff]at this
    exact this.1
   have bP:((ρ.lst li).take k).flatten.length=k*i.size:=by rw [BJ au,aJ]
   by_cases hfit:k+n≤BZ m0
   ·
    have:=aB A hA
    subst this
    have aQ:(ρ.lst j).length=k+n:=by rw [eA,lA];omega
    have a8:(k+n)*i.size≤BZ m0*i.size:=Nat.mul_le_mul_right _ hfit
    rw [Nat.add_mul]at a8
    have aZ:L.toList.length=n*i.size:=by rw [←ag.length];exact ba
    obtain ⟨c',aW,br,bg⟩:=DW (P:=P) L.toList ab (p:=k*i.size) (by omega) ag.one
    have b1:B.flatten.length=n*i.size:=by rw [BJ ad,hB]
    have bo:AQ μ.Bb L 0 B.flatten:=Aw.freeze ak ag fun i v hv=>by simpa using hv
    have a6:BR μ.Bb i.size c' 0 (ρ.lst j):=by
     rw [B8]
     refine ⟨fun p Q=>?_,?_⟩
     ·rw [eA,List.mem_append]at Q
      exact Q.elim (au p) (ad p)
     ·rw [eA,List.flatten_append,AQ.append_iff]
      refine ⟨AQ.congr (fun q hq=>?_) hX,AQ.congr (fun q hq=>?_) bo⟩
      ·rw [bg,if_neg (by omega)]
      ·rw [bg,if_pos (by omega),←Array.getElem?_toList]
       congr 1;omega
    have bl:=Av.XT (w':=w.setRow r0 c') H (Di bR) hm Z.2 (0,OB (k+n) (BZ m0)) (fun i hi=>setRow_other _ _ _ _ hi) (by simp) rfl rfl (fun μ' aN=>by
     rw [EC _ _ _ _ _ _ ab,eb]
     refine ⟨c',ty,rfl,rfl,?_,?_,?_,?_,BR.mono aN.Bb a6⟩
     ·rw [B4 (by omega)];omega
     ·rw [B4 (by omega)];omega
     ·rw [B4 (by omega),BO (by omega)];exact hfit
     ·rw [BO (by omega)];omega)
    subst aK
    refine ⟨.value _,_,_,_,run (v:=.slice (some ⟨r0,0,none⟩) (k+n) (BZ m0)) ?_,.inl rfl,bl,?_⟩
    ·rw [N]
     refine C4 ht hu hd bb aL hfit hL ?_
     simp only [Addr.Bh,Nat.zero_add]
     exact aW
    ·simp only [Ag]
     refine ⟨_,_,k+n,Ap.BM _ _ _,?_,?_,?_,?_⟩
     ·rw [BO (by omega)]
     ·rw [et,aQ]
     ·rw [B4 (by omega)];exact Nat.le_refl _
     ·rw [B4 (by omega),BO (by omega)];exact hfit
   ·
    obtain ⟨l,av,a0,a3⟩:=hX.values
    have U:=run_loadCells_list (P:=P) (w:=w.drew) ⟨r0,0,none⟩ l (fun j v hv=>by
     rw [Addr.Bh]
     show w.cell? _=_
     rw [C0 ab];exact a0 j v hv)
    rw [av,bP]at U
    refine aC _ _ _ (h.set b none) _ Z _ l.toArray N (by omega) (Av.drop H b) al aB aJ au (by simp [Builtin.firstCells,U]) (by simp [av,bP]) (AQ.congr (fun q hq=>?_) hX) ?_
    ·have:=a3 q hq
     simpa using this.symm
    ·rw [←aK];rfl
  ·
   rename_i li es m M
   rw [M]at R
   unfold Y3 at g
   obtain ⟨aw,g⟩:=Ao g
   obtain ⟨Z,al,aK⟩:=Ac g
   simp only [oI]at aK
   have aw:=Al.1 aw
   subst aw
   obtain ⟨co,_,bI⟩:=R.lst
   obtain ⟨p,N⟩:=bI rfl
   obtain ⟨p',c',bx,_,_,b4⟩:=R.Ey
   rw [N]at bx
   simp only [Value.slice.injEq,true_and]at bx
   obtain ⟨rfl,rfl⟩:=bx
   have ai:(ρ.lst li).length<(ρ.lst li).length+n:=by omega
   by_cases hz0:(ρ.lst li).length=0
   ·have aP:ρ.lst li=[]:=List.eq_nil_of_length_eq_zero hz0
    refine aC _ _ _ h _ Z (ρ.lst li) #[] N ai (Av.refl H) al (fun Y hY=>hY) rfl (fun q hq=>by rw [aP]at hq;cases hq) ?_ (by simp [hz0]) (by rw [aP];simp only [List.flatten_nil,AQ]) aK.symm
    rw [hz0]
    cases p<;>simp [Builtin.firstCells,loadCells,loadCellsFrom]
   ·obtain ⟨r0,δ,c0,ty,rfl,k1,k2⟩:=b4 hz0
    obtain ⟨_,k1⟩:=k1
    have ab:=(H.AS.Bb _ _ k1).1
    have aM:=B8.1 k2
    obtain ⟨l,av,a0,a3⟩:=aM.2.values
    have bQ:=BJ aM.1
    have U:=run_loadCells_list (P:=P) (w:=w.drew) ⟨r0,δ,none⟩ l (fun j v hv=>by
     rw [Addr.Bh]
     show w.cell? _=_
     rw [C0 ab];exact a0 j v hv)
    rw [av,bQ]at U
    refine aC _ _ _ h _ Z (ρ.lst li) l.toArray N ai (Av.refl H) al (fun Y hY=>hY) rfl aM.1 (by simp [Builtin.firstCells,U]) (by simp [av,bQ]) (AQ.congr (fun q hq=>?_) aM.2) aK.symm
    have:=a3 q hq
    simpa using this.symm
  ·
   rename_i M
   rw [M]at R
   have N:a.eval x=.slice none 0 0:=by simpa only [Ag]using R
   obtain hE|g:=To g
   ·obtain ⟨p,j,t,A,B,Q,er,et,J,eA,hA,hB,ad,ak⟩:=Kw H.AS.facts hE
    have Q:([]:List AL)=p:=by simpa [Qk]using Q
    subst Q
    have hA:A=[]:=hA
    exact aq none 0 0 h (t,.list j i.size) [] #[] N (by omega) (Av.refl H) ⟨j,A,B,rfl,et,J,eA,hA,hB,ad,ak⟩ rfl (fun _ hq=>by cases hq) (by simp [Builtin.firstCells]) (by simp) (by simp only [List.flatten_nil,AQ]) er
   unfold I7 at g
   obtain ⟨J,g⟩:=Ao g
   simp only [oI]at g
   exact fresh none 0 0 h [] #[] N (by omega) (AR.1 J) (Av.refl H) (by simp) (by simp [Builtin.firstCells]) (by simp only [Aw]) g.symm
  ·
   rename_i b aD len cap M
   have bB:=R
   rw [M]at R
   obtain ⟨r0,δ,m,hm,N,ac⟩:=R.slice
   cases hcap:Nat.ble (len+n) cap with
   |true=>
    rw [hcap]at g
    simp only [cond_true]at g
    unfold Ug at g
    obtain ⟨vs,be,g⟩:=Ac g
    obtain ⟨ct,aM,g⟩:=Ac g
    simp only [oI]at g
    subst g
    obtain ⟨r1,δ1,m1,af,w',aW,hg⟩:=H9 (P:=P) H be ag aM
    have hg:=hg _ (.inl rfl)
    rw [hm]at af
    simp only [oI,Prod.mk.injEq]at af
    obtain ⟨rfl,rfl,rfl⟩:=af
    refine ⟨.value _,_,w',μ,run (v:=.slice (some ⟨r0,δ+aD,none⟩) (len+n) cap) ?_,.inl rfl,hg,?_⟩
    ·rw [N]
     refine C4 ht hu hd bb aL (AR.1 hcap) hL ?_
     simp only [Addr.Bh,Nat.add_assoc]
     exact aW
    ·simp only [Ag]
     exact ⟨_,_,_,hm,rfl,AR.1 hcap⟩
   |false=>
    rw [hcap]at g
    simp only [cond_false]at g
    have ai:cap<len+n:=by
     rcases Nat.lt_or_ge cap (len+n)with h'|h'
     ·exact h'
     ·rw [AR.2 h']at hcap;cases hcap
    obtain hE|g:=To g
    ·obtain ⟨p,j,t,X0,B,Q,er,et,J,eA,bc,hB,ad,ak⟩:=Kw H.AS.facts hE
     unfold Qk at Q
     obtain ⟨bp,bO⟩:=Ao Q
     clear Q
     have bd:=Al.1 bp
     clear bp
     subst bd
     have Q:=bO
     clear bO
     rw [AI]at Q
     split at Q
     ·rename_i bC
      subst bC
      simp only [oI]at Q
      subst Q
      have bc:X0=[]:=bc
      exact aq _ 0 0 h (t,.list j i.size) [] #[] N (by omega) (Av.refl H) ⟨j,X0,B,rfl,et,J,eA,bc,hB,ad,ak⟩ rfl (fun _ hq=>by cases hq) (by simp [Builtin.firstCells,loadCells,loadCellsFrom]) (by simp) (by simp only [List.flatten_nil,AQ]) er
     ·rename_i bC
      obtain ⟨s,bt,Q⟩:=Ac Q
      obtain ⟨cr,Q⟩:=Ao Q
      obtain ⟨cs,br,Q⟩:=Ac Q
      simp only [oI]at Q
      subst Q
      have cd:Ej ρ cs X0:=by
       obtain ⟨x,y,rfl,h1,h2⟩:=bc
       have h2:y=[]:=h2
       subst h2
       rw [List.append_nil];exact h1
      obtain ⟨c1,c2,c3⟩:=DQ br
      obtain ⟨f1,f2,f3⟩:=Ej.flat cd
      have bv:JI h i.size false (ev tm (AF x))=some s:=by rw [M];exact bt
      obtain ⟨_,ao,O,U,az⟩:=Dp (P:=P) (w:=w.drew) H.drew bB (n:=s.1) (cs:=s.2) bv
      have bA:s.1=len:=by
       have C:=bt
       unfold MB at C
       rw [AI,if_neg bC]at C
       obtain ⟨_,_,C⟩:=Ac C
       obtain ⟨_,_,C⟩:=Ac C
       simp only [oI]at C;rw [←C]
      rw [bA]at ao U
      rw [N]at U
      rw [c1]at f1
      refine aq _ _ _ h (t,.list j i.size) X0 O N ai (Av.refl H) ⟨j,X0,B,rfl,et,J,eA,rfl,hB,ad,ak⟩ (by omega) (f3 _ c3) U ?_ ?_ er
      ·have:=az.length;simp at this;omega
      ·exact Aw.freeze f1 az fun q v hv=>by simpa using hv
    obtain ⟨old,ah,g⟩:=Ac g
    unfold I7 at g
    obtain ⟨J,g⟩:=Ao g
    simp only [oI]at g
    have bv:JI h i.size false (ev tm (AF x))=some old:=by rw [M];exact ah
    obtain ⟨_,ao,O,U,az⟩:=Dp (P:=P) (w:=w.drew) H.drew bB bv
    have bA:old.1=len:=by
     have C:=ah
     unfold MB at C
     rw [AI]at C
     split at C
     ·simp only [oI]at C;rw [←C];omega
     ·obtain ⟨_,_,C⟩:=Ac C
      obtain ⟨_,_,C⟩:=Ac C
      simp only [oI]at C;rw [←C]
    rw [bA]at ao U
    rw [N]at U
    exact fresh _ _ _ h old.2 O N ai (AR.1 J) (Av.refl H) ao U az g.symm
  ·
   rename_i b aD len es M
   have bB:=R
   rw [M]at R
   obtain ⟨r0,δ,m,cap,hm,N,ac,cg⟩:=R.gslice
   unfold Yy at g
   obtain ⟨vs,be,g⟩:=Ac g
   obtain ⟨bf,g⟩:=Ao g
   obtain ⟨old,ah,g⟩:=Ac g
   simp only [oI]at g
   rw [aT,Al,AR]at bf
   obtain ⟨aw,J⟩:=bf
   obtain ⟨B0,b5⟩:=LX be
   obtain ⟨r1,δ1,m1,c1,e3,af,ab,cu,aY⟩:=H.cells be
   rw [hm]at af
   simp only [oI,Prod.mk.injEq]at af
   obtain ⟨rfl,rfl,rfl⟩:=af
   by_cases hfit:len+n≤cap
   ·
    have a8:(len+n)*i.size≤cap*es:=by rw [←aw];exact Nat.mul_le_mul_right _ hfit
    rw [Nat.add_mul]at a8
    have aZ:L.toList.length=n*i.size:=by rw [←ag.length];exact ba
    obtain ⟨c',aW,br,bg⟩:=DW (P:=P) L.toList ab (p:=δ+aD+len*i.size) (by omega) ag.one
    have an:=Ks ah
    have bl:=Av.XT (w':=w.setRow r0 c') H b5 hm (.cells (old++new)) (δ+aD,m-aD) (fun i hi=>setRow_other _ _ _ _ hi) (by simp) rfl rfl (fun μ' aN=>by
     rw [EC _ _ _ _ _ _ ab]
     refine ⟨c',e3,rfl,by omega,fun k v hk=>?_⟩
     rw [bg]
     by_cases hko:k<old.length
     ·rw [List.getElem?_append_left hko,an.2.2 k]at hk
      rw [an.1]at hko
      rw [if_pos hko]at hk
      obtain ⟨u',aU,bw,bn⟩:=aY _ _ hk
      refine ⟨u',?_,bw,bn.mono aN⟩
      rw [if_neg (by omega),Nat.add_assoc]
      exact aU
     ·rw [List.getElem?_append_right (by omega)]at hk
      obtain ⟨u',aU,bw,bn⟩:=ag.get hk
      refine ⟨u',?_,bw,bn.mono aN⟩
      have cf:=(List.getElem?_eq_some_iff.1 aU).1
      rw [an.1]at aU cf hko
      rw [if_pos (by omega),←aU]
      congr 1
      omega)
    subst g
    refine ⟨.value _,_,_,_,run (v:=.slice (some ⟨r0,δ+aD,none⟩) (len+n) cap) ?_,.inl rfl,bl,?_⟩
    ·rw [N]
     refine C4 ht hu hd bb aL hfit hL ?_
     simp only [Addr.Bh]
     exact aW
    ·simp only [Ag]
     refine ⟨_,_,_,cap,Ap.BM _ _ _,rfl,hfit,?_⟩
     rw [aw];omega
   ·
    obtain ⟨l,av,bS,bd⟩:=DP aY ah
    have U:=run_loadCells_list (P:=P) (w:=w.drew) ⟨r0,δ+aD,none⟩ l (fun j v hv=>by
     rw [Addr.Bh]
     show w.cell? _=_
     rw [C0 ab];exact bd j v hv)
    rw [av]at U
    refine fresh _ _ _ (h.set b none) old l.toArray N (by omega) J (Av.drop H b) ?_ ?_ (by simpa using bS) ?_
    ·rw [bS.length,av]
    ·simp [Builtin.firstCells,U]
    ·rw [←g];rfl
  ·cases g
theorem LV {o:Oper} {c:Call} {t u e:TypeId} {d:TypeDesc} {x y:Operand} (J:o.op=.call c) (k:c.callee=.builtin .append) (g:c.args=#[x,y]) (j:c.argTypes=#[t,u])
  (H:AH ρ μ h w) (A:Ba ρ μ tm a) (O:P.underlying t=some (.slice e)) (M:P.underlying u=some d) (hd:ES d) {i:TypeInfo} (N:P.info? e=some i) (hb:i.bytes≤1048576) (C:(i.zero.map fun v=>Nat.beq v.cells.size i.size).getD false=true)
  {bytes:Bool} {s:Nat×List Aa} (hs:JI h i.size bytes (ev tm (AF y))=some s) {r:Aa×Ak} (Q:I9 h i.size (ev tm (AF x)) s.1 s.2=some r):EP P ρ μ h a o w (.val r.1 r.2):=by
 have z:=Aq A y
 refine Gw J k g j H A O M hd N hb C (fun w' D=>?_) Q
 obtain ⟨n,new⟩:=s
 rcases D with rfl|rfl
 ·exact Dp (P:=P) H z hs
 ·exact Dp (P:=P) H.drew z hs
theorem Aw.take:∀{as:List Aa} {vs:List Value} (k:Nat),Aw ρ μ as vs→Aw ρ μ (as.take k) (vs.take k)
 |[],vs,k,e=>by simp only [Aw]at e;subst e;simp only [List.take_nil,Aw]
 |a::as,vs,k,e=>by
  simp only [Aw]at e
  obtain ⟨v,rest,rfl,d,c⟩:=e
  cases k with
  |zero=>simp only [List.take_zero,Aw]
  |succ k=>simp only [List.take_succ_cons,Aw];exact ⟨_,_,rfl,d,Aw.take k c⟩
theorem SF (H:AH ρ μ h w) {size n m:Nat} {bytes:Bool} {x:Aa} {u:Value} {cs:List Aa} (C:Ag ρ μ x u) (hs:JI h size bytes x=some (n,cs)) (O:m≤n):
  ∃L:Array Value,(Builtin.firstCells size m u).run P w=.ok L w∧Aw ρ μ (cs.take (m*size)) L.toList:=by
 have key:∀(b k len r δ U c:Nat),MB h size b k len=some (n,cs)→μ b=some (r,δ,U)→u=.slice (some ⟨r,δ+k,none⟩) len c→
   ∃L:Array Value,(Builtin.firstCells size m u).run P w=.ok L w∧Aw ρ μ (cs.take (m*size)) L.toList:=fun b k len r δ U c hs D e=>by
  subst e
  unfold MB at hs
  rw [AI]at hs
  by_cases M:len=0
  ·rw [if_pos M]at hs
   simp only [oI,Prod.mk.injEq]at hs
   obtain ⟨rfl,rfl⟩:=hs
   have:m=0:=by omega
   subst this
   exact ⟨#[],by simp [Builtin.firstCells,loadCells,loadCellsFrom],by simp only [List.take_nil,Aw]⟩
  ·rw [if_neg M]at hs
   obtain ⟨vs,R,hs⟩:=Ac hs
   obtain ⟨r',X,hs⟩:=Ac hs
   simp only [oI,Prod.mk.injEq]at hs
   obtain ⟨rfl,rfl⟩:=hs
   obtain ⟨r2,δ2,m2,c2,e2,y,Q,_,hc⟩:=H.cells R
   rw [D]at y
   simp only [oI,Prod.mk.injEq]at y
   obtain ⟨rfl,rfl,rfl⟩:=y
   obtain ⟨l,J,z,o⟩:=DP hc X
   have g:m*size≤l.length:=by rw [J];exact Nat.mul_le_mul_right _ O
   have d:=run_loadCells_list (P:=P) (w:=w) ⟨r,δ+k,none⟩ (l.take (m*size)) (fun j v hv=>by
    rw [List.getElem?_take]at hv
    split at hv
    ·rw [Addr.Bh,C0 Q];exact o j v hv
    ·cases hv)
   rw [lT',Nat.min_eq_left g]at d
   exact ⟨(l.take (m*size)).toArray,by simp [Builtin.firstCells,d],by simpa using z.take (m*size)⟩
 unfold JI at hs
 split at hs
 ·obtain ⟨Z,⟨rfl,rfl,p,c,rfl⟩|⟨r,δ,c,ar,e,_,rfl,Q,hc⟩⟩:=P9 H C hs
  ·have M:m=0:=by omega
   subst M
   cases p
   ·exact ⟨#[],by simp [Builtin.firstCells],by simp only [List.take_nil,Aw]⟩
   ·exact ⟨#[],by simp [Builtin.firstCells,loadCells,loadCellsFrom],by simp only [List.take_nil,Aw]⟩
  ·obtain ⟨l,J,z,o⟩:=DP hc (Yj cs)
   have g:m*size≤l.length:=by rw [J,Z];exact Nat.mul_le_mul_right _ O
   have d:=run_loadCells_list (P:=P) (w:=w) ⟨r,δ,none⟩ (l.take (m*size)) (fun j v hv=>by
    rw [List.getElem?_take]at hv
    split at hv
    ·rw [Addr.Bh,C0 Q];simpa using o j v hv
    ·cases hv)
   rw [lT',Nat.min_eq_left g]at d
   exact ⟨(l.take (m*size)).toArray,by simp [Builtin.firstCells,d],by simpa using z.take (m*size)⟩
 ·simp only [oI,Prod.mk.injEq]at hs
  obtain ⟨rfl,rfl⟩:=hs
  have e:u=.slice none 0 0:=by simpa only [Ag]using C
  subst e
  exact ⟨#[],by simp [Builtin.firstCells],by simp only [List.take_nil,Aw]⟩
 ·obtain ⟨r,δ,m,D,e,_⟩:=C.slice
  exact key _ _ _ _ _ _ _ hs D e
 ·obtain ⟨r,δ,m,c,D,e,_⟩:=C.gslice
  exact key _ _ _ _ _ _ _ hs D e
 ·rename_i s
  obtain ⟨A,N⟩:=Ao hs
  clear hs
  have A:=Al.1 A
  subst A
  simp only [oI,Prod.mk.injEq]at N
  obtain ⟨rfl,rfl⟩:=N
  obtain ⟨b,rfl,rfl⟩:=C.str
  refine ⟨((b.extract 0 m).data.map fun c=>.int .u8 c.toNat),by simp [Builtin.firstCells],?_⟩
  have hb:=(Gh (ρ:=ρ) (μ:=μ) b.data.toList).take (m*1)
  have he:(b.extract 0 m).data.toList=b.data.toList.take m:=by
   obtain ⟨⟨l⟩⟩:=b
   have:=ByteArray.extract_mk l 0 m
   rw [show (⟨⟨l⟩⟩:ByteArray)=ByteArray.mk l.toArray from rfl,this]
   simp
  rw [Array.toList_map,he]
  unfold strOf
  simpa [List.map_take]using hb
 ·cases hs
theorem Qc {o:Oper} {c:Call} {t u e:TypeId} {x y:Operand} (ho:o.op=.call c) (ae:c.callee=.builtin .copy) (U:c.args=#[x,y]) (Z:c.argTypes=#[t,u])
  (H:AH ρ μ h w) (hT:Ba ρ μ tm a) (ht:P.underlying t=some (.slice e)) {size:Nat} (hn:Bf P e=some size)
  {bytes:Bool} {s:Nat×List Aa} (hs:JI h size bytes (ev tm (AF y))=some s) {r:Aa×Ak} (d:AcA h size (ev tm (AF x)) s.1 s.2=some r):EP P ρ μ h a o w (.val r.1 r.2):=by
 have z:=Aq hT x
 have hy:=Aq hT y
 have D:=Bx (w:=w) hn
 obtain ⟨n,src⟩:=s
 obtain ⟨Q,ao,_⟩:=Dp (P:=P) H hy hs
 have run:∀{v:Value} {wf:World},(Builtin.copy_ #[t,u] o.type #[a.eval x,a.eval y]).run P w=.ok v wf→(execOp a.eval o).run P w=.ok (.value v) wf:=fun {v wf} hrun=>by
  simp [execOp,ho,resolve,ae,U,Z,invoke,builtin,hrun]
 have key:∀(b A len:Nat) (C δ R cap:Nat),μ b=some (C,δ,R)→a.eval x=.slice (some ⟨C,δ+A,none⟩) len cap→
   Yk h size b A (bif Nat.ble n len then n else len) src=some r→EP P ρ μ h a o w (.val r.1 r.2):=fun b A len C δ R cap O g d=>by
  have ad:(bif Nat.ble n len then n else len)=min n len:=by
   cases hb:Nat.ble n len with
   |true=>simp only [cond_true];have:=AR.1 hb;omega
   |false=>
    simp only [cond_false]
    have:¬n≤len:=fun h'=>by rw [AR.2 h']at hb;cases hb
    omega
  rw [ad]at d
  obtain ⟨L,J,j⟩:=SF (P:=P) H hy hs (Nat.min_le_left n len)
  unfold Yk at d
  rw [AI]at d
  by_cases k:min n len=0
  ·rw [if_pos k]at d
   simp only [oI]at d
   subst d
   rw [k]at j J
   simp only [Nat.zero_mul,List.take_zero,Aw]at j
   refine ⟨.value (goInt 0),goInt 0,w,μ,run ?_,.inl rfl,Av.refl H,by simp only [lit,Ag,ST.den];rfl⟩
   have ak:Nat.min n len=0:=k
   simp [Builtin.copy_,run_underlying ht,g,Q,D,ak,J,j,storeCells,goInt]
  ·rw [if_neg k]at d
   obtain ⟨vs,ag,d⟩:=Ac d
   obtain ⟨new,X,d⟩:=Ac d
   obtain ⟨ap,ai,d⟩:=Ac d
   simp only [oI]at d
   subst d
   obtain ⟨rfl,_⟩:=GA X
   obtain ⟨r1,δ1,m1,M,w',aj,hg⟩:=H9 (P:=P) H ag j ai
   have hg:=hg _ (.inl rfl)
   rw [O]at M
   simp only [oI,Prod.mk.injEq]at M
   obtain ⟨rfl,rfl,rfl⟩:=M
   refine ⟨.value (goInt (min n len:Nat)),_,w',μ,run ?_,.inl rfl,hg,by simp only [lit,Ag,ST.den];rfl⟩
   have af:(Builtin.firstCells size (Nat.min n len) (a.eval y)).run P w=.ok L w:=J
   simp [Builtin.copy_,run_underlying ht,g,Q,D,af,aj,goInt]
 unfold AcA at d
 split at d
 ·rename_i N
  rw [N]at z
  have g:a.eval x=.slice none 0 0:=by simpa only [Ag]using z
  simp only [oI]at d
  subst d
  obtain ⟨L,J,j⟩:=SF (P:=P) H hy hs (Nat.zero_le n)
  refine ⟨.value (goInt 0),goInt 0,w,μ,run ?_,.inl rfl,Av.refl H,by simp only [lit,Ag,ST.den];rfl⟩
  have k:Nat.min n 0=0:=Nat.min_zero n
  simp [Builtin.copy_,run_underlying ht,g,Q,D,k,J,goInt]
 ·rename_i N
  rw [N]at z
  obtain ⟨C,δ,R,O,g,_⟩:=z.slice
  exact key _ _ _ _ _ _ _ O g d
 ·rename_i N
  rw [N]at z
  obtain ⟨C,δ,R,cap,O,g,_⟩:=z.gslice
  exact key _ _ _ _ _ _ _ O g d
 ·cases d
end
end Go.AM
end
section
namespace Go.AM
section
variable {P:Program} {Γ:An} {ρ:Env} {μ:Ap} {tm:Tr Aa} {a:Act} {w:World} {h:Ak}
def FV (L:List Value):Prop:=∀v∈L,∃x:UInt8,v=.int .u8 x.toNat
theorem Ze {v:Aa} (h:AeO v=true):∃n,v=.int .u8 (.lit (.ofNat n))∧n≤255:=by
 unfold AeO at h
 split at h
 ·exact ⟨_,rfl,AR.1 h⟩
 ·cases h
theorem Me:∀{cs:List Aa} {L:List Value},Aw ρ μ cs L→Y4 cs=true→FV L
 |[],L,h,_=>by simp only [Aw]at h;subst h;intro v hv;cases hv
 |c::cs,L,h,d=>by
  simp only [Aw]at h
  obtain ⟨v,rest,rfl,⟨_,hv⟩,k⟩:=h
  have d:(AeO c&&Y4 cs)=true:=d
  rw [aT]at d
  intro u g
  cases g with
  |head=>
   obtain ⟨n,j,o⟩:=Ze d.1
   subst j
   have e:=hv.int
   refine ⟨UInt8.ofNat n,?_⟩
   rw [e]
   simp only [ST.den]
   have:(UInt8.ofNat n).toNat=n:=by simp;omega
   rw [this];rfl
  |tail _ hm=>exact Me k d.2 u hm
theorem Uj (l:List UInt8):FV (l.map fun c=>.int .u8 (c.toNat:Int)):=fun v hv=>by
 obtain ⟨c,_,rfl⟩:=List.mem_map.1 hv
 exact ⟨c,rfl⟩
theorem MC (H:AH ρ μ h w) {bytes:Bool} {y:Aa} {u:Value} {x n:Nat} (C:Ag ρ μ y u) (hs:Aev h bytes y=some (x,n)):
  ∃k,x≤k∧k≤n∧(Builtin.lenOf u).run P w=.ok k w∧∃L:Array Value,(Builtin.firstCells 1 k u).run P w=.ok L w∧L.size=k∧FV L.toList:=by
 have str:∀b:ByteArray,u=.string b→(Builtin.lenOf u).run P w=.ok b.size w∧∃L:Array Value,(Builtin.firstCells 1 b.size u).run P w=.ok L w∧L.size=b.size∧FV L.toList:=fun b e=>by
  subst e
  refine ⟨by simp [Builtin.lenOf],(b.data.map fun c=>.int .u8 c.toNat),?_,by rw [Array.size_map];rfl,?_⟩
  ·have:b.extract 0 b.size=b:=by
    obtain ⟨⟨l⟩⟩:=b
    have:=ByteArray.extract_mk l 0 l.length
    rw [show (⟨⟨l⟩⟩:ByteArray)=ByteArray.mk l.toArray from rfl]
    rw [show (ByteArray.mk l.toArray).size=l.length from by simp [ByteArray.size],this]
    simp
   simp [Builtin.firstCells,this]
  ·simpa using Uj b.data.toList
 have J:∀s,JI h 1 false y=some s→Y4 s.2=true→(s.1,s.1)=(x,n)→∃k,x≤k∧k≤n∧(Builtin.lenOf u).run P w=.ok k w∧∃L:Array Value,(Builtin.firstCells 1 k u).run P w=.ok L w∧L.size=k∧FV L.toList:=fun s o j D=>by
  simp only [Prod.mk.injEq]at D
  obtain ⟨rfl,rfl⟩:=D
  obtain ⟨d,g,L,O,M⟩:=Dp (P:=P) H C o
  refine ⟨s.1,Nat.le_refl _,Nat.le_refl _,d,L,O,?_,Me M j⟩
  have:=M.length
  simp at this;omega
 unfold Aev at hs
 split at hs
 ·rename_i i
  obtain ⟨r,Q,hs⟩:=Ac hs
  simp only [oI]at hs
  obtain ⟨b,e,N⟩:=C.svar
  obtain ⟨d,g⟩:=str b e
  obtain ⟨_,A,z⟩:=H.AS.facts.BB _ (KN Q)
  have A:r.2.1≤(ρ.str i).length:=A
  have z:(ρ.str i).length≤r.2.2:=z
  rw [hs,←N,BG]at A z
  exact ⟨b.size,A,z,d,g⟩
 ·rename_i s
  simp only [oI,Prod.mk.injEq]at hs
  obtain ⟨rfl,rfl⟩:=hs
  obtain ⟨b,e,rfl⟩:=C.str
  obtain ⟨d,g⟩:=str b e
  refine ⟨b.size,?_,?_,d,g⟩<;>rw [Dq,BG]<;>exact Nat.le_refl _
 ·rename_i m
  simp only [oI,Prod.mk.injEq]at hs
  obtain ⟨rfl,rfl⟩:=hs
  obtain ⟨b,e,o,j⟩:=C.anyStr
  obtain ⟨d,g⟩:=str b e
  exact ⟨b.size,o,j,d,g⟩
 ·obtain ⟨s,o,hs⟩:=Ac hs
  obtain ⟨j,hs⟩:=Ao hs
  simp only [oI]at hs
  exact J s o j hs
 ·cases hs
theorem ZP {e:TypeId} {size t:Nat} (h:u8T P e size=some t):t=e∧size=1∧P.underlying e=some (.int .u8)∧∃i,P.info? e=some i∧i.zero=some (.int .u8 0):=by
 unfold u8T at h
 split at h
 ·rename_i i c d
  split at h
  ·rename_i g
   split at h
   ·rename_i hs
    simp only [oI]at h
    exact ⟨h.symm,Al.1 hs,c,i,d,g⟩
   ·cases h
  ·cases h
 ·cases h
theorem AH.bytes (H:AH ρ μ h w) {b n e:Nat} (hb:h.get b=some (.bytes n e)):∃r m c,μ b=some (r,0,m)∧w.heap[r]?=some (.cells c e (0,0))∧1≤BN m∧BN m≤n∧n≤1048576∧BN m≤BZ m∧BZ m≤c.size∧∀i,i<BZ m→∃x:UInt8,c[i]?=some (.int .u8 x.toNat):=by
 obtain ⟨r,⟨δ,m⟩,d,c,g,j,k⟩:=H.blk b _ hb
 subst j
 exact ⟨r,m,c,d,g,k⟩
theorem AH.sbytes (H:AH ρ μ h w) {b e:Nat} {n:ST} (hb:h.get b=some (.sbytes n e)):∃r m c,μ b=some (r,0,m)∧w.heap[r]?=some (.cells c e (0,0))∧1≤BN m∧(BN m:Int)≤n.den ρ∧n.den ρ≤1048576∧BN m≤BZ m∧BZ m≤c.size∧∀i,i<BZ m→∃x:UInt8,c[i]?=some (.int .u8 x.toNat):=by
 obtain ⟨r,⟨δ,m⟩,d,c,g,j,k⟩:=H.blk b _ hb
 subst j
 exact ⟨r,m,c,d,g,k⟩
theorem O2 {o:Option Block} {m:ST×Nat} (h:HK o=some m):o=some (.sbytes m.1 m.2):=by
 unfold HK at h
 split at h
 ·simp only [oI]at h;rw [←h]
 ·cases h
theorem ZJ (k:Nat):FV (Builtin.zeroCells (Value.int .u8 0).cells k).toList:=fun v hv=>by
 refine ⟨0,?_⟩
 have hc:(Value.int .u8 0).cells=#[.int .u8 0]:=rfl
 rw [hc]at hv
 unfold Builtin.zeroCells at hv
 simp only [Array.toList_map,List.mem_map]at hv
 obtain ⟨i,_,rfl⟩:=hv
 have:i%(#[Value.int .u8 0]:Array Value).size=0:=Nat.mod_one i
 rw [this];rfl
theorem FV.append {x y:List Value} (c:FV x) (d:FV y):FV (x++y):=fun v hv=>by
 rcases List.mem_append.1 hv with h|h
 ·exact c v h
 ·exact d v h
theorem FV.get {x:Array Value} (g:FV x.toList) {i:Nat} (d:i<x.size):∃u:UInt8,x[i]?=some (.int .u8 u.toNat):=by
 obtain ⟨u,c⟩:=g x[i] (by simp)
 exact ⟨u,by rw [Array.getElem?_eq_getElem d,c]⟩
theorem RX {o:Oper} {c:Call} {t u e:TypeId} {d:TypeDesc} {x y:Operand} (ho:o.op=.call c) (aV:c.callee=.builtin .append) (aC:c.args=#[x,y]) (aW:c.argTypes=#[t,u])
  (H:AH ρ μ h w) (hT:Ba ρ μ tm a) (ht:P.underlying t=some (.slice e)) (hu:P.underlying u=some d) (hd:ES d) {i:TypeInfo} (hi:P.info? e=some i) (hb:i.bytes≤1048576) {e':Nat} (he:u8T P e i.size=some e')
  {bytes:Bool} {s:Nat×Nat} (hs:Aev h bytes (ev tm (AF y))=some s) {r:Aa×Ak} (A:Si h e' (ev tm (AF x)) s.1 s.2=some r):EP P ρ μ h a o w (.val r.1 r.2):=by
 have hx:=Aq hT x
 have hy:=Aq hT y
 obtain ⟨rfl,au,_,i',aw,hz⟩:=ZP he
 rw [hi]at aw
 simp only [oI]at aw
 subst aw
 obtain ⟨lo,n⟩:=s
 obtain ⟨k,bJ,bD,am,L,hL,aJ,aI⟩:=MC (P:=P) H hy hs
 obtain ⟨g,_,_,aU,L',bb,aQ,aO⟩:=MC (P:=P) H.drew hy hs
 have bg:g=k:=by
  have N:(Builtin.lenOf (a.eval y)).run P w=.ok k w:=am
  have h2:(Builtin.lenOf (a.eval y)).run P w.drew=.ok g w.drew:=aU
  have:∀v:Value,∀k g:Nat,(Builtin.lenOf v).run P w=.ok k w→(Builtin.lenOf v).run P w.drew=.ok g w.drew→g=k:=fun v k g N h2=>by
   cases v<;>simp [Builtin.lenOf,stuck]at N h2<;>omega
  exact this _ _ _ N h2
 subst bg
 have aH:(sizeOf e').run P w=.ok 1 w:=by simp [sizeOf,typeInfo,hi,au]
 have run:∀{v:Value} {wf:World},(Builtin.append_ #[t,u] o.type #[a.eval x,a.eval y]).run P w=.ok v wf→(execOp a.eval o).run P w=.ok (.value v) wf:=fun {v wf} af=>by
  simp [execOp,ho,resolve,aV,aC,aW,invoke,builtin,af]
 have fresh:∀(ag:Option Addr) (len cap:Nat) (X:Block) (N:Ak) (O:Array Value),a.eval x=.slice ag len cap→cap<len+g→len+g≤1048576→(∀(Z:Ap) (C:Array Value) (D:Nat),BN D=len+g→BN D≤BZ D→BZ D≤C.size→(∀i,i<BZ D→∃x:UInt8,C[i]?=some (.int .u8 x.toNat))→CM ρ Z X (some (.cells C e' (0,0))) (0,D))→1≤len+g→Av ρ μ h w μ N w→O.size=len→FV O.toList→
   (Builtin.firstCells 1 len (.slice ag len cap)).run P w.drew=.ok O w.drew→r=(.gbytes N.next,N.add X)→EP P ρ μ h a o w (.val r.1 r.2):=fun ag len cap X N O e1 bj z al bB av bi a5 hO er=>by
  subst er
  obtain ⟨nc,rest,bH,ak,a6,af⟩:=DX (P:=P) (ty:=o.type) (O:=O) (L:=L') ht hu hd hi hz am bj (by rw [au];exact hO) (by rw [au];exact bb) hb (by omega)
  have a4:(Value.int .u8 0).cells.size=1:=rfl
  rw [a4,Nat.mul_one]at ak
  have bn:(O++L'++rest).size=nc:=by simp only [Array.size_append,bi,aQ,ak];omega
  have aR:FV (O++L'++rest).toList:=by
   rw [Array.toList_append,Array.toList_append]
   exact (a5.append aO).append (by rw [a6];exact ZJ _)
  have U:=B4 (len:=len+g) (cap:=nc) (by omega)
  have ai:=BO (len:=len+g) (cap:=nc) (by omega)
  have aM:=Av.add av.rel.drew X (.cells (O++L'++rest) e') (0,OB (len+g) nc) (fun Z bK=>al Z _ _ U (by omega) (by omega) fun i hi=>aR.get (by omega))
  refine ⟨.value _,_,_,_,run (by rw [e1];exact af),.inl rfl,(av.trans (Av.drew av.rel)).trans aM,?_⟩
  simp only [Ag]
  exact ⟨_,_,Ap.BM _ _ _,by rw [U,ai],by omega,by omega⟩
 unfold Si at A
 split at A
 ·
  rename_i e1
  have aK:=hx
  rw [e1]at hx
  have e2:a.eval x=.slice none 0 0:=by simpa only [Ag]using hx
  simp only [AI]at A
  split at A
  ·split at A
   ·rename_i h0 N
    have N:n=0:=N
    have hk:g=0:=by omega
    subst hk
    simp only [oI]at A
    subst A
    refine ⟨.value (a.eval x),a.eval x,w,μ,run ?_,.inl rfl,Av.refl H,by rw [e1]at aK⊢;exact aK⟩
    rw [e2]
    exact C4 ht hu hd aH am (by omega) hL rfl
   ·cases A
  ·rename_i h0
   obtain ⟨z,A⟩:=Ao A
   simp only [oI]at A
   have z:=AR.1 z
   exact fresh none 0 0 (.bytes n e') h #[] e2 (by omega) (by omega) (fun Z C D q1 q2 q3 q4=>⟨C,rfl,rfl,by omega,by omega,by omega,q2,q3,q4⟩) (by omega) (Av.refl H) rfl (fun v hv=>by cases hv) (by simp [Builtin.firstCells]) A.symm
 ·
  rename_i b e1
  rw [e1]at hx
  obtain ⟨r0,m,hm,e2,bF,bE⟩:=hx.gbytes
  have key:∀(B0 X:Block) (R:Array Value),h.get b=some B0→w.heap[r0]?=some (.cells R e' (0,0))→BZ m≤R.size→(∀i,i<BZ m→∃x:UInt8,R[i]?=some (.int .u8 x.toNat))→BN m+g≤1048576→
    (∀(Z:Ap) (C:Array Value) (D:Nat),BN D=BN m+g→BN D≤BZ D→BZ D≤C.size→(∀i,i<BZ D→∃x:UInt8,C[i]?=some (.int .u8 x.toNat))→CM ρ Z X (some (.cells C e' (0,0))) (0,D))→
    r=(.gbytes h.next,(h.set b none).add X)→EP P ρ μ h a o w (.val r.1 r.2):=fun B0 X R M J an ab z al er=>by
   by_cases hfit:BN m+g≤BZ m
   ·
    obtain ⟨C,a3,bG,bc⟩:=DW (P:=P) L.toList J (p:=BN m) (by simp [aJ];omega) (fun v hv=>by obtain ⟨x,rfl⟩:=aI v hv;rfl)
    have U:=B4 (len:=BN m+g) (cap:=BZ m) (by omega)
    have ai:=BO (len:=BN m+g) (cap:=BZ m) (by omega)
    have a1:=Av.XT (w':=w.setRow r0 C) H M hm X (0,OB (BN m+g) (BZ m)) (fun i hi=>setRow_other _ _ _ _ hi) (by simp) rfl rfl (fun Z bo=>by
     rw [EC _ _ _ _ _ _ J]
     refine al Z C _ U (by omega) (by omega) fun j hj=>?_
     rw [bc]
     split
     ·rename_i bh
      simp only [Array.length_toList,aJ]at bh
      obtain ⟨x,hx⟩:=aI.get (i:=j-BN m) (by omega)
      exact ⟨x,by rw [Array.getElem?_toList];exact hx⟩
     ·exact ab j (by omega))
    subst er
    refine ⟨.value _,_,_,_,run (v:=.slice (some ⟨r0,0,none⟩) (BN m+g) (BZ m)) ?_,.inl rfl,a1,?_⟩
    ·rw [e2]
     refine C4 ht hu hd aH am hfit hL ?_
     simp only [Addr.Bh,Nat.mul_one,Nat.zero_add]
     exact a3
    ·simp only [Ag]
     exact ⟨_,_,Ap.BM _ _ _,by rw [U,ai],by omega,by omega⟩
   ·
    have hO:=run_loadCells_list (P:=P) (w:=w.drew) ⟨r0,0,none⟩ (R.toList.take (BN m)) (fun j v hv=>by
     rw [Addr.Bh]
     show w.cell? _=_
     rw [C0 J,Nat.zero_add]
     rw [List.getElem?_take]at hv
     split at hv
     ·rw [←Array.getElem?_toList];exact hv
     ·cases hv)
    have aL:(R.toList.take (BN m)).length=BN m:=by simp;omega
    rw [aL]at hO
    refine fresh _ _ _ X (h.set b none) (R.toList.take (BN m)).toArray e2 (by omega) z al (by omega) (Av.drop H b) (by simpa using aL) ?_ ?_ er
    ·intro v hv
     simp only at hv
     obtain ⟨j,hj⟩:=List.mem_iff_getElem?.1 hv
     rw [List.getElem?_take]at hj
     split at hj
     ·rename_i bI
      obtain ⟨x,hx⟩:=ab j (by omega)
      rw [Array.getElem?_toList,hx]at hj
      simp only [oI]at hj
      exact ⟨x,hj.symm⟩
     ·cases hj
    ·simp [Builtin.firstCells,hO]
  unfold Y2 at A
  split at A
  ·rename_i mm ax
   obtain ⟨ad,ay⟩:=Ao A
   obtain ⟨t',bm,ae⟩:=Ac ay
   simp only [oI]at ae
   have ad:=Al.1 ad
   have M:=O2 ax
   rw [ad]at M
   obtain ⟨r1,m1,R,Q,J,a8,a9,bd,bk,an,ab⟩:=H.sbytes M
   rw [hm]at Q
   simp only [oI,Prod.mk.injEq,true_and]at Q
   obtain ⟨rfl,rfl⟩:=Q
   obtain ⟨q,aG,a7⟩:=PF bm
   obtain ⟨b1,b2⟩:=H.AS.facts.CQ _ a7
   have b1:mm.1.den ρ+(q:Int)≤t'.den ρ:=b1
   have b2:t'.den ρ≤1048576:=b2
   have aG:n≤q:=aG
   exact key _ (.sbytes t' e') R M J an ab (by omega) (fun Z C D g1 g2 g3 g4=>⟨C,rfl,rfl,by omega,by omega,b2,g2,g3,g4⟩) ae.symm
  ·obtain ⟨mm,ax,ay⟩:=Ac A
   obtain ⟨aj,ae⟩:=Ao ay
   simp only [oI]at ae
   rw [aT,Al,AR]at aj
   obtain ⟨ad,z⟩:=aj
   have M:=Ku ax
   rw [ad]at M
   obtain ⟨r1,m1,R,Q,J,a8,a9,bd,bk,an,ab⟩:=H.bytes M
   rw [hm]at Q
   simp only [oI,Prod.mk.injEq,true_and]at Q
   obtain ⟨rfl,rfl⟩:=Q
   have z:mm.1+n≤1048576:=z
   exact key _ (.bytes (mm.1+n) e') R M J an ab (by omega) (fun Z C D g1 g2 g3 g4=>⟨C,rfl,rfl,by omega,by omega,z,g2,g3,g4⟩) ae.symm
 ·cases A
theorem Av.lost {w':World} (H:AH ρ μ h w) {b:Nat} {M:Block} {r:Nat} {δ:Nat×Nat} (hb:h.get b=some M) (J:μ b=some (r,δ))
  (y:∀i,i≠r→w'.heap[i]?=w.heap[i]?) (R:w'.heap.size=w.heap.size) (N:w'.os=w.os) (x:w'.output=w.output):Av ρ μ h w μ (h.set b none) w':=by
 have k:∀c g s u,(h.set b none).get c=some g→μ c=some (s,u)→h.get c=some g∧s≠r:=fun c g s u hc d=>by
  rw [Ak.Bk]at hc
  split at hc
  ·cases hc
  ·rename_i D
   exact ⟨hc,fun e=>D (H.inj _ _ _ _ _ _ _ hc hb d (e▸J))⟩
 have j:∀s,s<w.heap.size→¬AP μ h s→w'.heap[s]?=w.heap[s]?∧¬AP μ (h.set b none) s:=fun s hs z=>by
  refine ⟨y s fun e=>z ⟨b,M,δ,hb,e▸J⟩,?_⟩
  rintro ⟨c,g,u,hc,d⟩
  exact z ⟨c,g,u,(k _ _ _ _ hc d).1,d⟩
 refine ⟨μ.le_refl,⟨fun c hc=>H.fresh c hc,fun c g hc=>?_,fun c U X B2 s Z δ2 P O A C=>?_,H.GB j⟩,by omega,j,N,x,Nat.le_refl _,fun _ _=>rfl,fun _ _ h=>.inl h,rfl⟩
 ·have o:=hc
  rw [Ak.Bk]at o
  split at o
  ·cases o
  ·obtain ⟨s,u,d,Q⟩:=H.blk c g o
   exact ⟨s,u,d,by rw [y s (k _ _ _ _ hc d).2];exact Q⟩
 ·exact H.inj _ _ _ _ _ _ _ (k _ _ _ _ P A).1 (k _ _ _ _ O C).1 A C
theorem RI (w:World) (r i n:Nat) (c:i≠r):(w.freeze ⟨r,0,none⟩ n).heap[i]?=w.heap[i]?:=by
 unfold World.freeze
 split
 ·rfl
 ·simp only [Array.getElem?_modify]
  rw [if_neg (Ne.symm c)]
theorem TF (w:World) (p:Addr) (n:Nat):(w.freeze p n).heap.size=w.heap.size:=by
 unfold World.freeze
 split<;>simp
theorem PT (w:World) (p:Addr) (n:Nat):(w.freeze p n).os=w.os∧(w.freeze p n).output=w.output:=by
 unfold World.freeze
 split<;>exact ⟨rfl,rfl⟩
theorem Zs {o:Oper} {c:Call} {pt it e:TypeId} {p n:Operand} (ho:o.op=.call c) (an:c.callee=.builtin .unsafeString) (ai:c.args=#[p,n]) (ap:c.argTypes=#[pt,it])
  (H:AH ρ μ h w) (hT:Ba ρ μ tm a) (hp:P.underlying pt=some (.pointer e)) (hc:P.cellsOf e=1) {r:Hy} (z:ZM h e (ev tm (AF p)) (ev tm (AF n))=some r):EP P ρ μ h a o w r:=by
 have hx:=Aq hT p
 have hy:=Aq hT n
 have run:∀{v:Value} {wf:World},(Builtin.unsafeString_ #[pt,it] o.type #[a.eval p,a.eval n]).run P w=.ok v wf→(execOp a.eval o).run P w=.ok (.value v) wf:=fun {v wf} N=>by
  simp [execOp,ho,resolve,an,ai,ap,invoke,builtin,N]
 unfold ZM at z
 split at z
 ·rename_i e1 e2
  rw [e1]at hx
  rw [e2]at hy
  have f1:a.eval p=.pointer none:=by simpa only [Ag]using hx
  have f2:a.eval n=.int .i64 0:=by have:=hy.int;simpa [ST.den]using this
  simp only [oI]at z
  subst z
  refine ⟨.value (.string .empty),.string .empty,w,μ,run ?_,.inl rfl,Av.refl H,by simp only [Ag];exact ⟨_,rfl,rfl⟩⟩
  rw [f1,f2]
  exact Lib.run_unsafeString_none w pt it o.type none
 ·rename_i b k e1 e2
  rw [e1]at hx
  rw [e2]at hy
  obtain ⟨ac,R⟩:=Ao z
  clear z
  have ac:=Al.1 ac
  subst ac
  obtain ⟨nn,blk,d,rfl,M,g,J,C,u,Z,Q,ad,U,aa,X⟩:∃(nn:Nat) (blk:Block),h.get b=some blk∧r=.val (.anyStr nn) (h.set b none)∧∃M g J,μ b=some (M,0,g)∧w.heap[M]?=some (.cells J e (0,0))∧1≤BN g∧BN g≤nn∧nn≤1048576∧BN g≤BZ g∧BZ g≤J.size∧∀i,i<BZ g→∃x:UInt8,J[i]?=some (.int .u8 x.toNat):=by
   unfold Afq at R
   split at R
   ·rename_i sm O
    obtain ⟨A,z⟩:=Ao R
    have A:=Al.1 A
    simp only [oI]at z
    have d:h.get b=some (.sbytes sm.1 sm.2):=by
     unfold HK at O
     split at O
     ·rename_i t' e' hb
      simp only [oI]at O
      rw [hb,←O]
     ·cases O
    rw [A]at d
    obtain ⟨M,⟨δ1,g⟩,C,J,u,h0,Z,Q,ad,U,aa,X⟩:=H.blk b _ d
    have h0:δ1=0:=h0
    subst h0
    have Q:(BN g:Int)≤sm.1.den ρ:=Q
    exact ⟨1048576,_,d,z.symm,M,g,J,C,u,Z,by omega,Nat.le_refl _,U,aa,X⟩
   ·obtain ⟨m,hm,aj⟩:=Ac R
    unfold Afr at aj
    obtain ⟨A,z⟩:=Ao aj
    have A:=Al.1 A
    simp only [oI]at z
    have d:=Ku hm
    rw [A]at d
    obtain ⟨M,g,J,C,u,Z,Q,ad,U,aa,X⟩:=H.bytes d
    exact ⟨m.1,_,d,z.symm,M,g,J,C,u,Z,Q,ad,U,aa,X⟩
  clear R
  obtain ⟨r2,δ2,m2,af,f1⟩:=hx.ptr
  rw [C]at af
  simp only [oI,Prod.mk.injEq]at af
  obtain ⟨rfl,rfl,rfl⟩:=af
  obtain ⟨r3,m3,ae,f2⟩:=hy.glen
  rw [C]at ae
  simp only [oI,Prod.mk.injEq,true_and]at ae
  obtain ⟨rfl,rfl⟩:=ae
  obtain ⟨l,hl1,hl2⟩:∃l:List UInt8,l.length=BN g∧∀(j:Nat) (x:UInt8),l[j]?=some x→J[j]?=some (Value.int .u8 (x.toNat:Int)):=by
   have:∀q,q≤BZ g→∃l:List UInt8,l.length=q∧∀(j:Nat) (x:UInt8),l[j]?=some x→J[j]?=some (Value.int .u8 (x.toNat:Int)):=fun q=>by
    induction q with
    |zero=>exact fun _=>⟨[],rfl,fun j x D=>by simp at D⟩
    |succ q ih=>
     intro hq
     obtain ⟨l,h1,h2⟩:=ih (by omega)
     obtain ⟨x,hx⟩:=X q (by omega)
     refine ⟨l++[x],by simp [h1],fun j y D=>?_⟩
     rw [List.getElem?_append]at D
     split at D
     ·exact h2 j y D
     ·rename_i aE
      have av:j=q:=by
       have:=(List.getElem?_eq_some_iff.1 D).1
       simp at this;omega
      subst av
      rw [h1]at D
      simp at D
      subst D
      exact hx
   exact this _ U
  have N:=Lib.run_unsafeString_row (P:=P) w pt it o.type e hp hc M J.size (by simp [World.shape?,u]) l (by rintro rfl;simp at hl1;omega) (by omega) (by omega) (fun j x D=>by
   rw [Addr.Bh,C0 u,Nat.zero_add]
   exact hl2 j x D)
  rw [hl1]at N
  have hg:Av ρ μ h w μ (h.set b none) (w.freeze ⟨M,0,none⟩ (BN g)):=Av.lost H d C (fun i hi=>RI w M i _ hi) (TF w _ _) (PT w _ _).1 (PT w _ _).2
  refine ⟨.value (.string ⟨l.toArray⟩),_,_,μ,run ?_,.inl rfl,hg,?_⟩
  ·rw [f1,f2];exact N
  ·simp only [Ag]
   exact ⟨_,rfl,by simp [ByteArray.size,hl1];omega,by simp [ByteArray.size,hl1];omega⟩
 ·cases z
end
end Go.AM
end
section
namespace Go.AM
section
variable {P:Program} {Γ:An} {ρ:Env} {μ:Ap} {tm:Tr Aa} {a:Act} {w:World} {h:Ak}
theorem IG.one {Bb:Nat→Option Obj} {p:PV} {v:Value} (h:IG Bb p v):v.oneCell'=true:=by
 cases p<;>simp only [IG]at h
 case bool|int|nilp=>subst h;rfl
 case str=>obtain ⟨_,rfl,_⟩:=h;rfl
 case list=>
  obtain ⟨_,_,⟨_,_,rfl⟩|⟨_,_,_,_,rfl,_⟩⟩:=h<;>rfl
theorem AQ.one {Bb:Nat→Option Obj} {c:Array Value}:∀{ps:List PV} {δ:Nat},AQ Bb c δ ps→∀k v,k<ps.length→c[δ+k]?=some v→v.oneCell'=true
 |[],_,_,k,v,hk,_=>by simp at hk
 |p::ps,δ,h,k,v,hk,hv=>by
  simp only [AQ]at h
  obtain ⟨⟨u,d,j⟩,g⟩:=h
  cases k with
  |zero=>
   rw [Nat.add_zero,d]at hv
   simp only [oI]at hv
   subst hv
   exact j.one
  |succ k=>exact AQ.one g k v (by simpa using hk) (by rw [show δ+1+k=δ+(k+1) by omega];exact hv)
theorem Rk (H:AH ρ μ h w) {f:Bool} {i g:Nat} {t:ST} {u:Value} (M:Ag ρ μ (.lst f i g t) u):
  (Builtin.lenOf u).run P w=.ok (ρ.lst i).length w∧∃L:Array Value,(Builtin.firstCells g (ρ.lst i).length u).run P w=.ok L w∧AQ μ.Bb L 0 (ρ.lst i).flatten∧((ρ.lst i).length≠0→(∀p∈ρ.lst i,p.length=g)∧L.size=(ρ.lst i).length*g):=by
 obtain ⟨p,c,rfl,_,_,N⟩:=M.Ey
 refine ⟨by simp [Builtin.lenOf],?_⟩
 by_cases hz:(ρ.lst i).length=0
 ·have A:ρ.lst i=[]:=List.eq_nil_of_length_eq_zero hz
  refine ⟨#[],?_,by rw [A];simp only [List.flatten_nil,AQ],fun h=>absurd hz h⟩
  rw [hz]
  cases p<;>simp [Builtin.firstCells,loadCells,loadCellsFrom]
 ·obtain ⟨r,δ,a,e,rfl,x,J⟩:=N hz
  obtain ⟨_,x⟩:=x
  have C:=(H.AS.Bb _ _ x).1
  have d:=B8.1 J
  obtain ⟨l,k,y,z⟩:=d.2.values
  have o:=BJ d.1
  have D:=run_loadCells_list (P:=P) (w:=w) ⟨r,δ,none⟩ l (fun j v hv=>by
   rw [Addr.Bh]
   show w.cell? _=_
   rw [C0 C];exact y j v hv)
  rw [k,o]at D
  refine ⟨l.toArray,by simp [Builtin.firstCells,D],AQ.congr (fun q O=>?_) d.2,fun _=>⟨d.1,by simp [k,o]⟩⟩
  have:=z q O
  simpa using this.symm
theorem B6.split:∀{p q:List AL} {l:List (List PV)},B6 ρ (p++q) l→∃x y,l=x++y∧B6 ρ p x∧B6 ρ q y
 |[],q,l,h=>⟨[],l,rfl,rfl,h⟩
 |z::p,q,l,h=>by
  obtain ⟨x,y,rfl,j,o⟩:=h
  obtain ⟨c,g,rfl,k,d⟩:=B6.split o
  exact ⟨x++c,g,(List.append_assoc _ _ _).symm,⟨x,c,rfl,j,k⟩,d⟩
theorem B6.single {p:AL} {l:List (List PV)} (h:B6 ρ [p] l):FU ρ p l:=by
 obtain ⟨x,y,rfl,d,c⟩:=h
 have c:y=[]:=c
 subst c
 rw [List.append_nil];exact d
theorem Vh {y:Aa} {bytes:Bool} {l:Nat×Nat×ST} (h:XO y bytes=some l):∃f,y=.lst f l.1 l.2.1 l.2.2:=by
 unfold XO at h
 split at h
 ·cases h
 ·simp only [oI]at h
  subst h
  exact ⟨_,rfl⟩
 ·cases h
theorem RV {o:Oper} {c:Call} {t u e:TypeId} {d:TypeDesc} {x y:Operand} (ho:o.op=.call c) (bt:c.callee=.builtin .append) (aW:c.args=#[x,y]) (br:c.argTypes=#[t,u])
  (H:AH ρ μ h w) (hT:Ba ρ μ tm a) (ht:P.underlying t=some (.slice e)) (hu:P.underlying u=some d) (hd:ES d) {i:TypeInfo} (hi:P.info? e=some i) (hb:i.bytes≤1048576) (hz:(i.zero.map fun v=>Nat.beq v.cells.size i.size).getD false=true)
  {bytes:Bool} {l:Nat×Nat×ST} (hs:XO (ev tm (AF y)) bytes=some l) {r:Aa×Ak} (hr:Mw h i.size (ev tm (AF x)) l.1 l.2.1 l.2.2=some r):EP P ρ μ h a o w (.val r.1 r.2):=by
 have Z:=Aq hT x
 have hy:=Aq hT y
 obtain ⟨z,hz,hzs⟩:∃z,i.zero=some z∧z.cells.size=i.size:=by
  cases e:i.zero with
  |none=>rw [e]at hz;simp at hz
  |some z=>rw [e]at hz;exact ⟨z,rfl,Al.1 (by simpa using hz)⟩
 obtain ⟨li,es,nt⟩:=l
 obtain ⟨f,e0⟩:=Vh hs
 have e0:ev tm (AF y)=.lst f li es nt:=e0
 rw [e0]at hy
 have hr:Mw h i.size (ev tm (AF x)) li es nt=some r:=hr
 unfold Mw at hr
 obtain ⟨hc,be⟩:=Ao hr
 obtain ⟨p,g,a7⟩:=Ac be
 obtain ⟨j,hj,bj⟩:=Ac a7
 obtain ⟨tt,bX,bh⟩:=Ac bj
 obtain ⟨az,C⟩:=Ao bh
 simp only [oI]at C
 clear hr be a7 bj bh
 rw [aT,Al]at hc
 obtain ⟨U,bA⟩:=hc
 have hΓ:=H.AS.facts
 have bM:nt.den ρ=((ρ.lst li).length:Int):=hy.lst.2.1
 have bo:0<(ρ.lst li).length:=by
  have:=Vy hΓ bA
  simp only [ST.den,Int.ofNat_eq_natCast]at this
  omega
 have b8:tt.den ρ≤1048576:=by
  have:=GM hΓ az
  simpa [ST.den]using this
 have bf:tt.den ρ=((ρ.lst j).length:Int):=hΓ.Ad _ (CH bX)
 obtain ⟨J,Y0,a0,M,bc⟩:=B6.split (hΓ.defs _ (Fm hj))
 have bV:Y0=ρ.lst li:=B6.single bc
 clear bc
 subst bV
 have ej:ρ.lst j=J++ρ.lst li:=a0
 clear a0
 subst U
 obtain ⟨ax,L,hL,aw,bg⟩:=Rk (P:=P) H hy
 obtain ⟨af,a6⟩:=bg (by omega)
 obtain ⟨_,L',a4,ay,aA⟩:=Rk (P:=P) H.drew hy
 obtain ⟨_,aB⟩:=aA (by omega)
 clear bg aA
 generalize hBg:ρ.lst li=B at bo bM ej ax hL aw af a6 a4 ay aB
 have bD:(sizeOf e).run P w=.ok i.size w:=by simp [sizeOf,typeInfo,hi]
 have run:∀{v:Value} {wf:World},(Builtin.append_ #[t,u] o.type #[a.eval x,a.eval y]).run P w=.ok v wf→(execOp a.eval o).run P w=.ok (.value v) wf:=fun {v wf} an=>by
  simp [execOp,ho,resolve,bt,aW,br,invoke,builtin,an]
 have D:∀(al:Option Addr) (len cap:Nat) (h1:Ak) (X:List (List PV)) (O:Array Value),a.eval x=.slice al len cap→cap<len+B.length→Av ρ μ h w μ h1 w→J=X→X.length=len→(∀p∈X,p.length=i.size)→
   (Builtin.firstCells i.size len (.slice al len cap)).run P w.drew=.ok O w.drew→O.size=len*i.size→AQ μ.Bb O 0 X.flatten→r=(.vec h1.next i.size tt,h1.add (.list j i.size))→EP P ρ μ h a o w (.val r.1 r.2):=fun al len cap h1 X O e1 bO aH bK ao ac R bS hX er=>by
  subst er
  subst bK
  have ad:(ρ.lst j).length=len+B.length:=by rw [ej,lA];omega
  obtain ⟨nc,rest,a3,aK,_,an⟩:=DX (P:=P) (ty:=o.type) (O:=O) (L:=L') ht hu hd hi hz ax bO R a4 hb (by omega)
  have bx:(O++L'++rest).size=nc*i.size:=by
   simp only [Array.size_append,bS,aB,aK,hzs]
   rw [←Nat.add_mul,←Nat.add_mul]
   congr 1;omega
  have cf:J.flatten.length=len*i.size:=by rw [BJ ac,ao]
  have bP:B.flatten.length=B.length*i.size:=BJ af
  have ai:BR μ.Bb i.size (O++L'++rest) 0 (ρ.lst j):=by
   rw [B8]
   refine ⟨fun p g=>?_,?_⟩
   ·rw [ej,List.mem_append]at g
    exact g.elim (ac p) (af p)
   ·rw [ej,List.flatten_append,AQ.append_iff]
    refine ⟨AQ.congr (fun k hk=>?_) hX,AQ.congr (fun k hk=>?_) ay⟩
    ·rw [Array.append_assoc,Array.getElem?_append_left (by omega)]
    ·rw [Array.append_assoc,Array.getElem?_append_right (by omega),Array.getElem?_append_left (by omega)]
     congr 1;omega
  have bq:=Av.add aH.rel.drew (.list j i.size) (.cells (O++L'++rest) e) (0,OB (len+B.length) nc) (fun μ' az=>by
   refine ⟨_,e,rfl,rfl,?_,?_,?_,?_,BR.mono az.Bb ai⟩
   ·rw [B4 (by omega)];omega
   ·rw [B4 (by omega)];omega
   ·rw [B4 (by omega),BO (by omega)];exact a3
   ·rw [BO (by omega),bx];exact Nat.le_refl _)
  refine ⟨.value _,_,_,_,run (by rw [e1];exact an),.inl rfl,(aH.trans (Av.drew aH.rel)).trans bq,?_⟩
  simp only [Ag]
  refine ⟨_,_,len+B.length,Ap.BM _ _ _,?_,?_,?_,?_⟩
  ·rw [BO (by omega)]
  ·rw [bf,ad]
  ·rw [B4 (by omega)];exact Nat.le_refl _
  ·rw [B4 (by omega),BO (by omega)];exact a3
 unfold Qk at g
 split at g
 ·
  rename_i e1
  simp only [oI]at g
  subst g
  have M:J=[]:=M
  rw [e1]at Z C
  have Q:a.eval x=.slice none 0 0:=by simpa only [Ag]using Z
  exact D none 0 0 h [] #[] Q (by omega) (Av.refl H) M rfl (fun _ N=>by cases N) (by simp [Builtin.firstCells]) (by simp) (by simp only [List.flatten_nil,AQ]) C.symm
 ·
  rename_i b ce len cap e1
  obtain ⟨aF,aY⟩:=Ao g
  clear g
  have bb:=Al.1 aF
  clear aF
  subst bb
  have g:=aY
  clear aY
  have bN:=Z
  rw [e1]at Z C
  obtain ⟨r0,δ,m,hm,Q,_⟩:=Z.slice
  rw [AI]at g
  split at g
  ·rename_i aI
   subst aI
   simp only [oI]at g
   subst g
   have M:J=[]:=M
   exact D _ 0 0 h [] #[] Q (by omega) (Av.refl H) M rfl (fun _ N=>by cases N) (by simp [Builtin.firstCells,loadCells,loadCellsFrom]) (by simp) (by simp only [List.flatten_nil,AQ]) C.symm
  ·rename_i aI
   obtain ⟨s,aG,g⟩:=Ac g
   obtain ⟨cc,g⟩:=Ao g
   obtain ⟨cs,bd,g⟩:=Ac g
   simp only [oI]at g
   subst g
   have ab:Ej ρ cs J:=B6.single M
   obtain ⟨c1,c2,c3⟩:=DQ bd
   obtain ⟨f1,f2,f3⟩:=Ej.flat ab
   have bU:JI h i.size false (ev tm (AF x))=some s:=by rw [e1];exact aG
   obtain ⟨_,aX,O,R,ap⟩:=Dp (P:=P) (w:=w.drew) H.drew bN (n:=s.1) (cs:=s.2) bU
   have bL:s.1=len:=by
    have A:=aG
    unfold MB at A
    rw [AI,if_neg aI]at A
    obtain ⟨_,_,A⟩:=Ac A
    obtain ⟨_,_,A⟩:=Ac A
    simp only [oI]at A;rw [←A]
   rw [bL]at aX R
   rw [Q]at R
   rw [c1]at f1
   refine D _ _ _ h J O Q (by omega) (Av.refl H) rfl (by omega) (f3 _ c3) R ?_ ?_ C.symm
   ·have:=ap.length;simp at this;omega
   ·exact Aw.freeze f1 ap fun q v hv=>by simpa using hv
 ·
  rename_i k ba m e1
  obtain ⟨U,g⟩:=Ao g
  simp only [oI]at g
  subst g
  have U:=Al.1 U
  subst U
  have ab:J=ρ.lst k:=B6.single M
  rw [e1]at Z C
  obtain ⟨_,_,aM⟩:=Z.lst
  obtain ⟨q,Q⟩:=aM rfl
  obtain ⟨_,O,R,b1,bZ⟩:=Rk (P:=P) H.drew Z
  rw [Q]at R
  by_cases hz0:(ρ.lst k).length=0
  ·have aC:ρ.lst k=[]:=List.eq_nil_of_length_eq_zero hz0
   refine D _ _ _ h (ρ.lst k) #[] Q (by omega) (Av.refl H) ab rfl (fun q N=>by rw [aC]at N;cases N) ?_ (by simp [hz0]) (by rw [aC];simp only [List.flatten_nil,AQ]) C.symm
   rw [hz0]
   cases q<;>simp [Builtin.firstCells,loadCells,loadCellsFrom]
  ·obtain ⟨h2,h3⟩:=bZ hz0
   exact D _ _ _ h (ρ.lst k) O Q (by omega) (Av.refl H) ab rfl h2 R h3 b1 C.symm
 ·
  rename_i b ba m e1
  obtain ⟨⟨bi,bE⟩,a2,g⟩:=Ac g
  obtain ⟨a9,g⟩:=Ao g
  simp only [oI]at g
  subst g
  rw [aT,Al,Al]at a9
  obtain ⟨U,ak⟩:=a9
  have ak:bE=ba:=ak
  subst ak
  subst U
  have ab:FU ρ (.take bi m) J:=B6.single M
  rw [e1]at Z C
  have C:(Aa.vec h.next i.size tt,(h.set b none).add (.list j i.size))=r:=C
  obtain ⟨r0,m0,k,hm,Q,hk,ci,bb⟩:=Z.vec
  obtain ⟨r1,⟨δ1,m1⟩,aE,c0,ty,aj,h0,h1,h2,h3,h4,h5⟩:=H.blk b _ (Di a2)
  rw [hm]at aE
  simp only [oI,Prod.mk.injEq]at aE
  obtain ⟨rfl,rfl,rfl⟩:=aE
  have h1:(ρ.lst bi).length≤BN m0:=h1
  have h4:BZ m0*i.size≤c0.size:=h4
  have h5:BR μ.Bb i.size c0 0 (ρ.lst bi):=h5
  obtain ⟨_,a8,ae⟩:=ab
  have a8:k≤(ρ.lst bi).length:=by rw [hk]at a8;omega
  have ae:J=(ρ.lst bi).take k:=by rw [ae,hk];rfl
  have ac:∀p∈J,p.length=i.size:=fun p g=>(B8.1 h5).1 p (List.mem_of_mem_take (by rw [ae]at g;exact g))
  have ao:J.length=k:=by rw [ae,lT'];omega
  have hX:AQ μ.Bb c0 0 J.flatten:=by
   have:=(B8.1 h5).2
   rw [←List.take_append_drop k (ρ.lst bi),List.flatten_append,AQ.append_iff]at this
   rw [ae];exact this.1
  have aZ:J.flatten.length=k*i.size:=by rw [BJ ac,ao]
  by_cases hfit:k+B.length≤BZ m0
  ·
   have ad:(ρ.lst j).length=k+B.length:=by rw [ej,lA];omega
   have bB:(k+B.length)*i.size≤BZ m0*i.size:=Nat.mul_le_mul_right _ hfit
   rw [Nat.add_mul]at bB
   have bP:B.flatten.length=B.length*i.size:=BJ af
   have cg:L.toList.length=B.length*i.size:=by simpa using a6
   have bn:∀v∈L.toList,v.oneCell'=true:=fun v hv=>by
    obtain ⟨q,N⟩:=List.mem_iff_getElem?.1 hv
    have cd:=(List.getElem?_eq_some_iff.1 N).1
    exact aw.one q v (by omega) (by rw [Nat.zero_add,←Array.getElem?_toList];exact N)
   obtain ⟨c',bH,bd,a5⟩:=DW (P:=P) L.toList aj (p:=k*i.size) (by omega) bn
   have ai:BR μ.Bb i.size c' 0 (ρ.lst j):=by
    rw [B8]
    refine ⟨fun p g=>?_,?_⟩
    ·rw [ej,List.mem_append]at g
     exact g.elim (ac p) (af p)
    ·rw [ej,List.flatten_append,AQ.append_iff]
     refine ⟨AQ.congr (fun q N=>?_) hX,AQ.congr (fun q N=>?_) aw⟩
     ·rw [a5,if_neg (by omega)]
     ·rw [a5,if_pos (by omega),←Array.getElem?_toList]
      congr 1;omega
   have bQ:=Av.XT (w':=w.setRow r0 c') H (Di a2) hm (.list j i.size) (0,OB (k+B.length) (BZ m0)) (fun i hi=>setRow_other _ _ _ _ hi) (by simp) rfl rfl (fun μ' bk=>by
    rw [EC _ _ _ _ _ _ aj]
    refine ⟨c',ty,rfl,rfl,?_,?_,?_,?_,BR.mono bk.Bb ai⟩
    ·rw [B4 (by omega)];omega
    ·rw [B4 (by omega)];omega
    ·rw [B4 (by omega),BO (by omega)];exact hfit
    ·rw [BO (by omega)];omega)
   subst C
   refine ⟨.value _,_,_,_,run (v:=.slice (some ⟨r0,0,none⟩) (k+B.length) (BZ m0)) ?_,.inl rfl,bQ,?_⟩
   ·rw [Q]
    refine C4 ht hu hd bD ax hfit hL ?_
    simp only [Addr.Bh,Nat.zero_add]
    exact bH
   ·simp only [Ag]
    refine ⟨_,_,k+B.length,Ap.BM _ _ _,?_,?_,?_,?_⟩
    ·rw [BO (by omega)]
    ·rw [bf,ad]
    ·rw [B4 (by omega)];exact Nat.le_refl _
    ·rw [B4 (by omega),BO (by omega)];exact hfit
  ·
   obtain ⟨l,a1,bl,bw⟩:=hX.values
   have R:=run_loadCells_list (P:=P) (w:=w.drew) ⟨r0,0,none⟩ l (fun j v hv=>by
    rw [Addr.Bh]
    show w.cell? _=_
    rw [C0 aj];exact bl j v hv)
   rw [a1,aZ]at R
   refine D _ _ _ (h.set b none) J l.toArray Q (by omega) (Av.drop H b) rfl ao ac (by simp [Builtin.firstCells,R]) (by simp [a1,aZ]) (AQ.congr (fun q N=>?_) hX) ?_
   ·have:=bw q N
    simpa using this.symm
   ·rw [←C];rfl
 ·cases g
end
end Go.AM
end
section
namespace Go.AM
theorem I4 (b off len es j:Nat) (v:Aa) (r:List Aa):Mo b off len es j (v::r)=VQ b off len es j v::Mo b off len es j r:=rfl
theorem N3 {b off len es j:Nat}:∀{l:List Aa} {i:Nat},(Mo b off len es j l)[i]?=(l[i]?).map (VQ b off len es j)
 |[],i=>by show ([]:List Aa)[i]?=_;simp
 |v::r,i=>by
  rw [I4]
  cases i with
  |zero=>simp
  |succ i=>simpa using N3 (l:=r) (i:=i)
def Ap.E5 (μ:Ap) (r:Nat) (o:Option Obj):Ap:=⟨μ.spot,fun g=>if g=r then o else μ.Bb g⟩
section
variable {ρ:Env} {μ:Ap} {w:World} {h:Ak} {b off len es j:Nat}
theorem Ap.Kb {r:Nat} {o:Option Obj} (c:∀x,μ.Bb r=some x→o=some x):μ.le (μ.E5 r o):=
 ⟨fun _ _ e=>e,fun g x e=>by
  show (if g=r then o else μ.Bb g)=some x
  by_cases hg:g=r
  ·subst hg;rw [if_pos rfl];exact c x e
  ·rw [if_neg hg];exact e⟩
structure Frz (ρ:Env) (μ:Ap) (b off len es j r δ m:Nat) (c:Array Value) (e:TypeId):Prop where
 spot:μ b=some (r,δ,m)
 len:(ρ.lst j).length=len
 Bb:μ.Bb r=some (.cells c e (0,0))
 rep:BR μ.Bb es c (δ+off) (ρ.lst j)
theorem HU {r δ m:Nat} {c:Array Value} {e:TypeId} (F:Frz ρ μ b off len es j r δ m c e) {v:Aa} {u:Value} (hv:Ag ρ μ v u):Ag ρ μ (VQ b off len es j v) u∧(VQ b off len es j v).single=v.single:=by
 have key:∀(cap:Nat),u=.slice (some ⟨r,δ+off,none⟩) len cap→len≤cap→Ag ρ μ (.lst false j es (.lit (.ofNat len))) u:=fun cap H hc=>by
  simp only [Ag,IG]
  refine ⟨⟨cap,by rw [F.len];exact hc,.inr ⟨r,δ+off,c,e,by rw [F.len];exact H,⟨_,F.Bb⟩,F.rep⟩⟩,?_,fun e=>by cases e⟩
  rw [F.len];rfl
 unfold VQ
 split
 ·rename_i y d g cap
  cases hc:Nat.beq b y&&(Nat.beq off d&&Nat.beq len g)with
  |false=>exact ⟨hv,rfl⟩
  |true=>
   rw [aT,aT,Al,Al,Al]at hc
   obtain ⟨rfl,rfl,rfl⟩:=hc
   obtain ⟨D,A,J,k,o,x⟩:=hv.slice
   rw [F.spot]at k
   simp only [oI,Prod.mk.injEq]at k
   obtain ⟨rfl,rfl,rfl⟩:=k
   refine ⟨?_,rfl⟩
   have z:=key cap o x
   simp only [Ag]at z⊢
   obtain ⟨M,C,_⟩:=z
   refine ⟨M,C,fun e=>?_⟩
   have e:=Al.1 e
   exact ⟨_,by rw [F.len];rw [o,e]⟩
 ·rename_i y d g N
  cases hc:Nat.beq b y&&(Nat.beq off d&&Nat.beq len g)with
  |false=>exact ⟨hv,rfl⟩
  |true=>
   rw [aT,aT,Al,Al,Al]at hc
   obtain ⟨rfl,rfl,rfl⟩:=hc
   obtain ⟨D,A,J,cap,k,o,x,_⟩:=hv.gslice
   rw [F.spot]at k
   simp only [oI,Prod.mk.injEq]at k
   obtain ⟨rfl,rfl,rfl⟩:=k
   exact ⟨key cap o x,rfl⟩
 ·exact ⟨hv,rfl⟩
theorem RH {r δ m:Nat} {c:Array Value} {e:TypeId} (F:Frz ρ μ b off len es j r δ m c e):∀{l:List Aa} {us:List Value},Aw ρ μ l us→Aw ρ μ (Mo b off len es j l) us
 |[],us,h=>h
 |v::l,us,h=>by
  rw [I4]
  simp only [Aw]at h⊢
  obtain ⟨u,rest,rfl,⟨g,o⟩,k⟩:=h
  obtain ⟨d,x⟩:=HU F o
  exact ⟨u,rest,rfl,⟨by rw [x];exact g,d⟩,RH F k⟩
theorem FN {o:Option Bool}:Dv o=true↔o=some true:=by
 unfold Dv
 split
 ·simp
 ·rename_i h
  constructor
  ·intro e;cases e
  ·intro e;exact absurd e h
theorem N2 {Γ:An} (H:Γ.AG ρ) {vs:List Aa} (C:PR Γ off len es j vs=true):∃cs,cut vs off (len*es)=some cs∧(ρ.lst j).length=len∧(∀p∈ρ.lst j,p.length=es)∧CR ρ (CW cs) (ρ.lst j).flatten:=by
 unfold PR at C
 obtain ⟨cs,z,k⟩:=Ac (FN.1 C)
 obtain ⟨_,u⟩:=Ao k
 obtain ⟨E,O,o⟩:=Ac u
 obtain ⟨j',y,c⟩:=Ac o
 simp only [oI]at c
 have c:=Al.1 c
 subst c
 obtain ⟨M,P,N⟩:=DQ O
 obtain ⟨A,B,d,D,g⟩:=H.defs _ (Fm y)
 have g:B=[]:=g
 subst g
 rw [List.append_nil]at d
 have d:ρ.lst j'=A:=d
 subst d
 obtain ⟨x,Q,J⟩:=Ej.flat D
 exact ⟨cs,z,by omega,J es N,by rw [M]at x;exact x⟩
theorem NR {vs cs:List Aa} {c:Array Value} {δ n:Nat} (hc:∀(i:Nat) (x:Aa),vs[i]?=some x→∃v,c[δ+i]?=some v∧x.single=true∧Ag ρ μ x v) (d:cut vs off n=some cs) {ps:List PV} (hd:CR ρ (CW cs) ps):AQ μ.Bb c (δ+off) ps:=by
 obtain ⟨l,k,j,g⟩:=DP hc d
 exact Aw.freeze hd j fun i v hv=>g i v hv
theorem Zt (H:AH ρ μ h w) {B0:Block} {r:Nat} {O:Nat×Nat} (hb:h.get b=some B0) (M:μ b=some (r,O)):
  AH ρ (μ.E5 r w.heap[r]?) (h.set b none) w∧Av ρ μ h w (μ.E5 r w.heap[r]?) (h.set b none) w:=by
 have k:AP μ h r:=⟨b,_,O,hb,M⟩
 have J:∀x,μ.Bb r=some x→w.heap[r]?=some x:=fun x Z=>absurd k (H.AS.Bb r x Z).2
 have z:μ.le (μ.E5 r w.heap[r]?):=Ap.Kb J
 have j:∀d B,(h.set b none).get d=some B→h.get d=some B∧d≠b:=fun d B hd=>by
  have hd:(Tr.set h.DT b none).get d=some B:=hd
  rw [Tr.Bk]at hd
  by_cases e:d=b
  ·rw [if_pos e]at hd;cases hd
  ·rw [if_neg e]at hd;exact ⟨hd,e⟩
 have c:∀s,AP (μ.E5 r w.heap[r]?) (h.set b none) s→AP μ h s∧s≠r:=fun s ⟨d,B,x,D,u⟩=>by
  obtain ⟨y,P⟩:=j d B D
  exact ⟨⟨d,B,x,y,u⟩,fun e=>P (H.inj _ _ _ _ _ _ _ y hb u (e▸M))⟩
 have N:AH ρ (μ.E5 r w.heap[r]?) (h.set b none) w:=by
  refine ⟨fun d hd=>H.fresh d hd,fun d B hd=>?_,fun d d' B B' s x x' D u R U=>?_,⟨fun g o hg=>?_,fun g o hg=>?_,H.AS.facts⟩⟩
  ·obtain ⟨y,P⟩:=j d B hd
   obtain ⟨s,x,X,Q⟩:=H.blk d B y
   exact ⟨s,x,X,Q.mono z⟩
  ·exact H.inj _ _ _ _ _ _ _ (j _ _ D).1 (j _ _ u).1 R U
  ·obtain ⟨A,C⟩:=H.AS.AS g o hg
   exact ⟨A,fun e=>C (c g e).1⟩
  ·have hg:(if g=r then w.heap[r]? else μ.Bb g)=some o:=hg
   by_cases e:g=r
   ·subst e
    rw [if_pos rfl]at hg
    exact ⟨hg,fun q=>(c _ q).2 rfl⟩
   ·rw [if_neg e]at hg
    obtain ⟨A,C⟩:=H.AS.Bb g o hg
    exact ⟨A,fun q=>C (c g q).1⟩
 refine ⟨N,⟨z,N,Nat.le_refl _,fun s _ hs=>⟨rfl,fun q=>hs (c s q).1⟩,rfl,rfl,Nat.le_refl _,fun _ _=>rfl,fun g o hg=>?_,rfl⟩⟩
 have hg:(if g=r then w.heap[r]? else μ.Bb g)=some o:=hg
 by_cases e:g=r
 ·subst e;exact .inr (.inl k)
 ·rw [if_neg e]at hg;exact .inl hg
theorem NX (H:AH ρ μ h w) (z:Nat×Nat×Nat×Nat×Nat) (new:List Aa):
  ∃d,AH ρ d (F7 h z new).1 w∧Av ρ μ h w d (F7 h z new).1 w∧∀us,Aw ρ μ new us→Aw ρ d (F7 h z new).2 us:=by
 have same:∃d,AH ρ d h w∧Av ρ μ h w d h w∧∀us,Aw ρ μ new us→Aw ρ d new us:=⟨μ,H,Av.refl H,fun _ h=>h⟩
 unfold F7
 split
 case h_2=>exact same
 rename_i vs hb
 cases hk:PR h.fx z.2.1 z.2.2.1 z.2.2.2.1 z.2.2.2.2 vs with
 |false=>exact same
 |true=>
 simp only [cond_true]
 obtain ⟨b,off,len,es,j⟩:=z
 simp only at hb hk⊢
 obtain ⟨cs,u,C,A,hd⟩:=N2 H.AS.facts hk
 obtain ⟨r,⟨δ,m⟩,o,c,t,M,O,hc⟩:=H.blk b _ hb
 obtain ⟨N,D⟩:=Zt H hb o
 have k:AP μ h r:=⟨b,_,(δ,m),hb,o⟩
 have g:μ.le (μ.E5 r w.heap[r]?):=Ap.Kb fun x J=>absurd k (H.AS.Bb r x J).2
 have y:AQ μ.Bb c (δ+off) (ρ.lst j).flatten:=NR hc u hd
 have Z:Frz ρ (μ.E5 r w.heap[r]?) b off len es j r δ m c t:=by
  refine ⟨o,C,?_,?_⟩
  ·show (if r=r then w.heap[r]? else μ.Bb r)=_
   rw [if_pos rfl];exact M
  ·exact BR.mono g.Bb (B8.2 ⟨A,y⟩)
 exact ⟨_,N,D,fun us h=>RH Z (h.mono g)⟩
theorem Il:∀(l:List (Nat×Nat×Nat×Nat×Nat)) {μ:Ap} {h:Ak} (new:List Aa),AH ρ μ h w→
  ∃c,AH ρ c (Gy l h new).1 w∧Av ρ μ h w c (Gy l h new).1 w∧∀us,Aw ρ μ new us→Aw ρ c (Gy l h new).2 us
 |[],μ,h,new,H=>⟨μ,H,Av.refl H,fun _ h=>h⟩
 |z::l,μ,h,new,H=>by
  obtain ⟨x,g,g1,o⟩:=NX H z new
  obtain ⟨u,k,g2,j⟩:=Il l (F7 h z new).2 g
  exact ⟨u,k,g1.trans g2,fun us d=>j us (o us d)⟩
end
section
variable {P:Program} {ρ:Env} {μ:Ap} {tm:Tr Aa} {a:Act} {w:World} {h:Ak}
theorem RW {o:Oper} {c:Call} {t u e:TypeId} {d:TypeDesc} {x y:Operand} (J:o.op=.call c) (z:c.callee=.builtin .append) (g:c.args=#[x,y]) (k:c.argTypes=#[t,u])
  (H:AH ρ μ h w) (C:Ba ρ μ tm a) (U:P.underlying t=some (.slice e)) (Q:P.underlying u=some d) (hd:ES d) {i:TypeInfo} (R:P.info? e=some i) (hb:i.bytes≤1048576) (M:(i.zero.map fun v=>Nat.beq v.cells.size i.size).getD false=true)
  {bytes:Bool} {s:Nat×List Aa} (hs:JI h i.size bytes (ev tm (AF y))=some s) {r:Aa×Ak} (j:Sh h i.size (ev tm (AF x)) s.1 s.2=some r):EP P ρ μ h a o w (.val r.1 r.2):=by
 unfold Sh at j
 split at j
 ·rename_i b es m Z
  rw [←Z]at j
  cases hden:RY s.2 with
  |true=>rw [hden]at j;exact LV J z g k H C U Q hd R hb M hs j
  |false=>
   rw [hden]at j
   simp only [cond_false]at j
   obtain ⟨n,new⟩:=s
   have X:=Aq C y
   obtain ⟨μ1,H1,g1,O⟩:=Il h.fx.BI new H
   obtain ⟨q1,q2,L1,q3,N⟩:=Dp (P:=P) H X hs
   obtain ⟨p1,p2,L2,p3,p4⟩:=Dp (P:=P) H.drew X hs
   have A:(Gy h.fx.BI h new).2.length=n*i.size:=by
    have Z:=(O _ N).length
    have e2:=N.length
    omega
   have D:=Gw (P:=P) J z g k H1 (C.mono g1.le) U Q hd R hb M (n:=n) (new:=(Gy h.fx.BI h new).2) (fun w' hw=>by
    rcases hw with rfl|rfl
    ·exact ⟨q1,A,L1,q3,O _ N⟩
    ·exact ⟨p1,A,L2,p3,O _ p4⟩) j
   obtain ⟨nx,v,w',μ',d1,d2,d3,d4⟩:=D
   exact ⟨nx,v,w',μ',d1,d2,g1.trans d3,d4⟩
 ·exact LV J z g k H C U Q hd R hb M hs j
end
end Go.AM
end
section
namespace Go.AM
section
variable {P:Program} {Γ:An} {ρ:Env} {μ:Ap} {tm:Tr Aa} {a:Act} {w:World} {h:Ak}
theorem LG (H:AH ρ μ h w) (C:Ba ρ μ tm a) {pl:List C5} {o:Oper} {q:MOp} (hc:D8 P pl o=some (.m q)) {r:Hy} (D:KI tm h q=some r):EP P ρ μ h a o w r:=by
 cases hop:o.op<;>simp only [D8,hop,reduceCtorEq,oI]at hc
 case store t x y=>
  obtain ⟨n,A,e⟩:=mS hc
  simp only [DS.m.injEq]at e
  subst e
  obtain ⟨h',hs,e⟩:=Ac D
  simp only [oI]at e
  subst e
  exact Wd hop H C A hs
 case insert t m k x=>
  split at hc
  ·rename_i kt e J
   obtain ⟨kk,hk,e⟩:=mS hc
   simp only [DS.m.injEq]at e
   subst e
   obtain ⟨h',hs,e⟩:=Ac D
   simp only [oI]at e
   subst e
   exact NQ (.inr hop) H C J hk hs
  ·cases hc
 case mapUpdate t m k x=>
  split at hc
  ·rename_i kt e J
   obtain ⟨kk,hk,e⟩:=mS hc
   simp only [DS.m.injEq]at e
   subst e
   obtain ⟨h',hs,e⟩:=Ac D
   simp only [oI]at e
   subst e
   exact NQ (.inl hop) H C J hk hs
  ·cases hc
 case panic x=>
  simp only [DS.m.injEq]at hc
  subst hc
  exact We hop C D
 case call c=>
  unfold F6 at hc
  split at hc
  ·rename_i f hf
   split at hc
   ·rename_i fn Z
    split at hc
    ·simp only [oI,DS.m.injEq]at hc
     subst hc
     simp only [KI]at D
     obtain ⟨p,g,e⟩:=Ac D
     simp only [oI]at e
     subst e
     exact Qd hop hf C g
    ·rename_i hb
     split at hc
     ·rename_i A
      split at hc
      ·rename_i x O
       have M:c.args=#[x]:=by rw [←Array.toList_inj];simpa using O
       simp only [oI,DS.m.injEq]at hc
       subst hc
       rw [aT,beq_iff_eq,beq_iff_eq]at A
       exact Wh hop hf M Z (by simpa using hb) A.1 A.2 H C D
      ·cases hc
     ·split at hc
      ·rename_i A
       split at hc
       ·rename_i x O
        have M:c.args=#[x]:=by rw [←Array.toList_inj];simpa using O
        simp only [oI,DS.m.injEq]at hc
        subst hc
        rw [aT,beq_iff_eq,beq_iff_eq]at A
        exact Wf hop hf M Z (by simpa using hb) A.1 A.2 H C D
       ·cases hc
      ·cases hc
   ·cases hc
  ·rename_i f _ hf
   simp only [oI,DS.m.injEq]at hc
   subst hc
   obtain ⟨p,g,e⟩:=Ac D
   simp only [oI]at e
   subst e
   exact Qd hop hf C g
  ·cases hc
  ·rename_i b hb
   split at hc
   ·split at hc<;>simp at hc
   ·rename_i x y t u O R
    have M:c.args=#[x,y]:=by rw [←Array.toList_inj];simpa using O
    have Q:c.argTypes=#[t,u]:=by rw [←Array.toList_inj];simpa using R
    have app:∀{e:TypeId} {bytes:Bool} {d:TypeDesc},P.underlying t=some (.slice e)→P.underlying u=some d→ES d→Fg P e bytes x y=some (.m q)→EP P ρ μ h a o w r:=fun {e bytes d} N J hd hc=>by
     unfold Fg at hc
     split at hc
     ·rename_i i X
      split at hc
      ·rename_i j
       rw [aT,decide_eq_true_eq]at j
       simp only [oI,DS.m.injEq]at hc
       subst hc
       obtain ⟨p,g,e⟩:=Ac D
       simp only [oI]at e
       subst e
       unfold Uf at g
       split at g
       ·rename_i e' h8 hh
        obtain ⟨s,hs,g⟩:=Ac g
        exact RX hop hb M Q H C N J hd X j.1 h8 hs g
       ·unfold Y1 at g
        split at g
        ·rename_i l hl
         exact RV hop hb M Q H C N J hd X j.1 j.2 hl g
        ·obtain ⟨s,hs,g⟩:=Ac g
         exact RW hop hb M Q H C N J hd X j.1 j.2 hs g
      ·cases hc
     ·cases hc
    split at hc
    ·rename_i N J
     exact app N J (.inl ⟨_,rfl⟩) hc
    ·rename_i N J
     exact app N J (.inr rfl) hc
    ·cases hc
   ·rename_i x y t u O R
    have M:c.args=#[x,y]:=by rw [←Array.toList_inj];simpa using O
    have Q:c.argTypes=#[t,u]:=by rw [←Array.toList_inj];simpa using R
    split at hc
    ·rename_i N J
     obtain ⟨n,A,e⟩:=mS hc
     simp only [DS.m.injEq]at e
     subst e
     obtain ⟨s,hs,U⟩:=Ac D
     obtain ⟨p,g,e⟩:=Ac U
     simp only [oI]at e
     subst e
     exact Qc hop hb M Q H C N A hs g
    ·rename_i N J
     obtain ⟨n,A,e⟩:=mS hc
     simp only [DS.m.injEq]at e
     subst e
     obtain ⟨s,hs,U⟩:=Ac D
     obtain ⟨p,g,e⟩:=Ac U
     simp only [oI]at e
     subst e
     exact Qc hop hb M Q H C N A hs g
    ·cases hc
   ·simp at hc
   ·simp at hc
   ·simp only [oI,DS.m.injEq]at hc
    subst hc
    cases D
   ·simp at hc
   ·rename_i p n pt it O R
    have M:c.args=#[p,n]:=by rw [←Array.toList_inj];simpa using O
    have Q:c.argTypes=#[pt,it]:=by rw [←Array.toList_inj];simpa using R
    split at hc
    ·rename_i e g
     split at hc
     ·rename_i ac
      simp only [oI,DS.m.injEq]at hc
      subst hc
      exact Zs hop hb M Q H C g (Al.1 ac) D
     ·cases hc
    ·cases hc
   ·cases hc
 case convert s d x=>
  rcases CV hc with ⟨k0,k,hs,hd,e⟩|⟨hs,hd,e⟩|⟨t,n,hs,hd,A,e⟩|⟨u,n,hs,hd,A,e⟩|⟨el,hs,he,hd,e⟩<;>cases e
 case typeAssert x xt t ok=>
  obtain ⟨d,i,z,J,hd,X,hz,e⟩:=Cu hc
  cases e
 case defer c=>
  obtain ⟨ad,args,ag⟩:=c
  cases ad<;>simp at hc
  subst hc
  obtain ⟨p,g,e⟩:=Ac D
  simp only [oI]at e
  subst e
  exact Wg hop rfl C g
 case makeFunc fn x c=>cases fn<;>simp at hc
 case binOp op t x y yt=>obtain ⟨_,_,e⟩:=mS hc;cases e
 case slice t x lo X mx=>
  exfalso
  split at hc
  ·simp at hc
  ·obtain ⟨_,_,e⟩:=mS hc;cases e
  ·split at hc
   ·obtain ⟨_,_,e⟩:=mS hc;cases e
   ·cases hc
  ·cases hc
 case build t parts=>
  exfalso
  split at hc
  ·split at hc
   ·obtain ⟨_,_,e⟩:=mS hc;cases e
   ·cases hc
  ·obtain ⟨_,_,hc⟩:=Option.bind_eq_some_iff.1 hc
   obtain ⟨_,_,e⟩:=mS hc;cases e
  ·cases hc
 case fieldAddr t x f=>
  exfalso
  split at hc
  ·obtain ⟨_,_,hc⟩:=Option.bind_eq_some_iff.1 hc
   split at hc<;>simp at hc
  ·cases hc
 case field t x f=>
  exfalso
  split at hc
  ·obtain ⟨_,_,hc⟩:=Option.bind_eq_some_iff.1 hc
   obtain ⟨_,_,e⟩:=mS hc;cases e
  ·cases hc
 all_goals
  exfalso
  first
   |(cases hc;done)
   |(split at hc<;>first|(cases hc;done) |(simp at hc;done) |(obtain ⟨_,_,e⟩:=mS hc;cases e;done) |(split at hc<;>first|(cases hc;done) |(simp at hc;done) |(obtain ⟨_,_,e⟩:=mS hc;cases e;done) |(split at hc<;>first|(cases hc;done) |(simp at hc;done) |(obtain ⟨_,_,e⟩:=mS hc;cases e;done))))
   |(obtain ⟨_,_,e⟩:=mS hc;cases e;done)
end
end Go.AM
end
