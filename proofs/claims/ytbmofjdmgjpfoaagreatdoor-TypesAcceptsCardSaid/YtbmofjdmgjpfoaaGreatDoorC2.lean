/- Part 2 of the proof of TypesAccepts. -/
import Derived.Test.YtbmofjdmgjpfoaaGreatDoorC1
import Derived.Laws.Rows
import Derived.Laws.Cells
import Derived.Laws.CopyRow
import Derived.Laws.Append
import Derived.KernelRfl
import Derived.Lib.UnsafeStr
set_option linter.all false
section
namespace Go.AM
section
variable {P:Program} {Γ:Ao} {ρ:Env} {μ:Aq} {tm:Tr Aa} {a:Act} {w:World}
section
variable {t e kt:TypeId} (d:Nat)
theorem JS (c:P.underlying t=some (.pointer e)) (q:Option Addr):(Op.equalIn (d+1) t (.pointer none) (.pointer q)).run P w=.ok q.isNone w:=by
 simp only [Op.equalIn,Sem.run_bind,run_underlying c,Result.andThen_ok,Sem.run_pure]
theorem Oh (c:P.underlying t=some (.pointer e)) (q:Addr):(Op.equalIn (d+1) t (.pointer (some q)) (.pointer none)).run P w=.ok false w:=by
 simp only [Op.equalIn,Sem.run_bind,run_underlying c,Result.andThen_ok,Sem.run_pure]
theorem Oi (g:P.underlying t=some (.pointer e)) {n:Nat} (c:Bj P e=some n) (q:Addr):(Op.equalIn (d+1) t (.pointer (some q)) (.pointer (some q))).run P w=.ok true w:=by
 have hs:=B5 (w:=w) c
 by_cases h:n=0<;>simp [Op.equalIn,run_underlying g,hs,sameAddr,h]
theorem Fl (c:P.underlying t=some (.slice e)) (q:Option Addr) (n m:Nat):(Op.equalIn (d+1) t (.slice none 0 0) (.slice q n m)).run P w=.ok q.isNone w:=by
 simp only [Op.equalIn,Sem.run_bind,run_underlying c,Result.andThen_ok,Sem.run_pure]
theorem GR (c:P.underlying t=some (.slice e)) (q:Addr) (n m:Nat):(Op.equalIn (d+1) t (.slice (some q) n m) (.slice none 0 0)).run P w=.ok false w:=by
 simp only [Op.equalIn,Sem.run_bind,run_underlying c,Result.andThen_ok,Sem.run_pure]
theorem JT (c:P.underlying t=some (.map kt e)) (q:Option Nat):(Op.equalIn (d+1) t (.map none) (.map q)).run P w=.ok q.isNone w:=by
 simp only [Op.equalIn,Sem.run_bind,run_underlying c,Result.andThen_ok,Sem.run_pure]
theorem Oj (c:P.underlying t=some (.map kt e)) (q:Nat):(Op.equalIn (d+1) t (.map (some q)) (.map none)).run P w=.ok false w:=by
 simp only [Op.equalIn,Sem.run_bind,run_underlying c,Result.andThen_ok,Sem.run_pure]
variable {ps rs:Array TypeId} {va:Bool}
theorem On (c:P.underlying t=some (.func ps rs va)):(Op.equalIn (d+1) t .nilFunc .nilFunc).run P w=.ok true w:=by
 simp only [Op.equalIn,Sem.run_bind,run_underlying c,Result.andThen_ok,Sem.run_pure]
theorem SJ (c:P.underlying t=some (.func ps rs va)) (f:Fn) (x y:Array Value):(Op.equalIn (d+1) t (.func f x y) .nilFunc).run P w=.ok false w:=by
 simp only [Op.equalIn,Sem.run_bind,run_underlying c,Result.andThen_ok,Sem.run_pure]
theorem SI (c:P.underlying t=some (.func ps rs va)) (f:Fn) (x y:Array Value):(Op.equalIn (d+1) t .nilFunc (.func f x y)).run P w=.ok false w:=by
 simp only [Op.equalIn,Sem.run_bind,run_underlying c,Result.andThen_ok,Sem.run_pure]
variable {ms:Array (String×TypeId)}
theorem Nh (c:P.underlying t=some (.interface ms)):(Op.equalIn (d+1) t .nilIface .nilIface).run P w=.ok true w:=by
 simp only [Op.equalIn,Sem.run_bind,run_underlying c,Result.andThen_ok,Sem.run_pure]
theorem QT (c:P.underlying t=some (.interface ms)) (u:TypeId) (v:Value):(Op.equalIn (d+1) t (.iface u v) .nilIface).run P w=.ok false w:=by
 simp only [Op.equalIn,Sem.run_bind,run_underlying c,Result.andThen_ok,Sem.run_pure]
theorem QS (c:P.underlying t=some (.interface ms)) (u:TypeId) (v:Value):(Op.equalIn (d+1) t .nilIface (.iface u v)).run P w=.ok false w:=by
 simp only [Op.equalIn,Sem.run_bind,run_underlying c,Result.andThen_ok,Sem.run_pure]
theorem Ol (j:P.underlying t=some (.interface ms)) {u c:TypeId} (h:u≠c) (v g:Value):(Op.equalIn (d+1) t (.iface u v) (.iface c g)).run P w=.ok false w:=by
 simp only [Op.equalIn,Sem.run_bind,run_underlying j,Result.andThen_ok]
 rw [if_pos h]
 rfl
theorem Om (j:P.underlying t=some (.interface ms)) {u:TypeId} {i:TypeInfo} (g:P.info? u=some i) (hc:i.comparable=true) (v c:Value):(Op.equalIn (d+1) t (.iface u v) (.iface u c)).run P w=(Op.equalIn d u v c).run P w:=by
 simp only [Op.equalIn,Sem.run_bind,run_underlying j,Result.andThen_ok,ne_eq,not_true_eq_false,if_false,typeInfo,run_program,g,Sem.run_pure,hc,Bool.not_true,Bool.false_eq_true]
theorem Oc (c:P.underlying t=some (.interface ms)):(Op.eqGuardIn (d+1) t .nilIface .nilIface).run P w=.ok (!ms.isEmpty) w:=by
 simp only [Op.eqGuardIn,Sem.run_bind,run_underlying c,Result.andThen_ok,Sem.run_pure]
end
theorem Qa (c:Bool) (t:TypeId) (u v:Value) (b:Bool) (hc:∀s,u≠.string s) (d:∀k n,u≠.int k n) (hf:∀k n,u≠.float k n) (g:∀k n m,u≠.complex k n m)
  (h:(Op.equalIn 10000 t u v).run P w=.ok b w):(binOp (if c then .neq else .eql) t u v).run P w=.ok (.bool (if c then !b else b)) w:=by
 cases c
 ·simp only [Bool.false_eq_true,if_false]
  unfold binOp
  cases u<;>first|(exact absurd rfl (hc _)) |(exact absurd rfl (d _ _)) |(exact absurd rfl (hf _ _)) |(exact absurd rfl (g _ _ _)) |(simp [Op.equal,Op.maxDepth,h])
 ·simp only [if_true]
  unfold binOp
  cases u<;>first|(exact absurd rfl (hc _)) |(exact absurd rfl (d _ _)) |(exact absurd rfl (hf _ _)) |(exact absurd rfl (g _ _ _)) |(simp [Op.equal,Op.maxDepth,h])
theorem Bs {o:Oper} {c:Bool} {t u:TypeId} {x y:Operand} (q:o.op=.binOp (if c then .neq else .eql) t x y u) {b:Bool} {v:Aa} (z:v=.bool (.lit (bif c then !b else b)))
  (g:(eqGuard (if c then .neq else .eql) t x y (a.eval x) (a.eval y)).run P w=.ok () w)
  (hc:∀s,a.eval x≠.string s) (d:∀k n,a.eval x≠.int k n) (hf:∀k n,a.eval x≠.float k n) (j:∀k n m,a.eval x≠.complex k n m)
  (h:(Op.equalIn 10000 t (a.eval x) (a.eval y)).run P w=.ok b w):Bx P ρ μ a o w v:=by
 refine ⟨.bool (if c then !b else b),?_,?_⟩
 ·simp only [execOp,q,Sem.run_bind,g,Result.andThen_ok,Qa c t _ _ b hc d hf j h]
  simp
 ·subst z
  simp only [Ae,SB.den]
  cases c<;>rfl
theorem Ky {t:Nat}:∀{l:List C3} {r:C3},Aad t l=some r→r∈l∧r.t=t
 |[],r,h=>by have h:none=some r:=h;cases h
 |x::l,r,h=>by
  have h:(bif Nat.beq x.t t then some x else Aad t l)=some r:=h
  cases e:Nat.beq x.t t with
  |true=>
   rw [e]at h
   simp only [cond_true,oI]at h
   subst h
   exact ⟨List.mem_cons_self,An.1 e⟩
  |false=>
   rw [e]at h
   exact ⟨List.mem_cons_of_mem _ (Ky h).1,(Ky h).2⟩
theorem I5:∀{x y:List (Nat×LK)},Ep x y=true→x=y
 |[],[],_=>rfl
 |[],_::_,h=>by simp [Ep]at h
 |_::_,[],h=>by simp [Ep]at h
 |(a,k)::x,(b,j)::y,h=>by
  simp only [Ep,aT]at h
  rw [An.1 h.1.1,I5 h.2]
  have:=An.1 h.1.2
  cases k<;>cases j<;>first|rfl|(simp [LK.no]at this)
theorem Sq {pl:List C3} (h:Q6 P pl=true) {x:C3} (j:x∈pl):
  leaves P 6 x.t=some x.Sg∧(∃i,P.info? x.t=some i∧i.comparable=true)∧K3 P x.t=x.agg:=by
 unfold Q6 at h
 have:=List.all_eq_true.1 h _ j
 simp only [aT]at this
 obtain ⟨⟨d,c⟩,g⟩:=this
 refine ⟨?_,?_,?_⟩
 ·split at d
  ·rename_i k e
   rw [e,I5 d]
  ·cases d
 ·cases e:P.info? x.t with
  |none=>rw [e]at c;simp at c
  |some i=>rw [e]at c;exact ⟨i,rfl,by simpa using c⟩
 ·rw [beq_eq]at g;simpa using g
theorem SG (o:Γ.AL ρ) {t:TypeId} {l:List (Nat×LK)} (hl:leaves P 6 t=some l) {x y:Aa} {u v:Value} {cs ds:List Aa} (q:Ae ρ μ x u) (j:Ae ρ μ y v) (c:x.cells=some cs) (d:y.cells=some ds)
  {b:Bool} (h:Dj Γ cs ds l=some b) (hb:Aby P u.cells v.cells 0 t u v) {k:Nat} (g:6≤k):
  (Op.equalIn k t u v).run P w=.ok b w:=
 Gu o (q.cells c) (j.cells d) 6 t l hl k 0 u v b g hb (by
  have:C7 0 l=l:=by unfold C7;simp
  rw [this];exact h)
theorem HA {o:Oper} {j:Bool} {t R:TypeId} {x y:Operand} (N:o.op=.binOp (if j then .neq else .eql) t x y R) (M:Γ.AL ρ) (C:Be ρ μ tm a) {l:List (Nat×LK)}
  (d:(∃H,P.underlying t=some (.struct H))∨∃k e,P.underlying t=some (.array k e)) (hl:leaves P 6 t=some l) (A:P.eqGuardType P.depth t=false) {v:Aa}
  (h:Jc Γ j (.plain l) (ev tm (AJ x)) (ev tm (AJ y))=some v):Bx P ρ μ a o w v:=by
 unfold Jc at h
 obtain ⟨b,hb,h⟩:=Ab h
 simp only [oI]at h
 have hb:QO Γ l (ev tm (AJ x)) (ev tm (AJ y))=some b:=hb
 have u:=Au C x
 have q:=Au C y
 unfold QO at hb
 split at hb
 ·rename_i Z ys O Q
  rw [O]at u
  rw [Q]at q
  have J:=u
  have z:=q
  obtain ⟨X,c,hX⟩:=u.agg
  obtain ⟨Y,D,hY⟩:=q.agg
  have g:Aby P (a.eval x).cells (a.eval y).cells 0 t (a.eval x) (a.eval y):=by
   rw [c,D]
   refine ⟨fun n U=>⟨X,Y,rfl,rfl,Yi.whole _ _,Yi.whole _ _⟩,fun h=>?_⟩
   exfalso
   unfold Ee at h
   rcases d with ⟨H,d⟩|⟨k,e,d⟩<;>rw [d]at h<;>cases ei:P.info? t<;>rw [ei]at h<;>simp at h
  refine Bs N h.symm ?_ (by simp [c]) (by simp [c]) (by simp [c]) (by simp [c]) (SG M hl J z rfl rfl hb g (by omega))
  rw [c,D]
  exact run_eqGuard_agg w _ t x y X Y A
 ·cases hb
theorem MO {o:Oper} {j M:Bool} {t yt:TypeId} {x y:Operand} (Z:o.op=.binOp (if j then .neq else .eql) t x y yt) (hΓ:Γ.AL ρ) (hT:Be ρ μ tm a) {pl:List C3}
  {ms:Array (String×TypeId)} (O:P.underlying t=some (.interface ms)) (am:Q6 P pl=true) (hn:M=(ms.isEmpty||Ev x||Ev y)) {v:Aa}
  (h:Jc Γ j (.iface M pl) (ev tm (AJ x)) (ev tm (AJ y))=some v):Bx P ρ μ a o w v:=by
 unfold Jc at h
 obtain ⟨b,hb,h⟩:=Ab h
 simp only [oI]at h
 have hb:QU Γ M pl (ev tm (AJ x)) (ev tm (AJ y))=some b:=hb
 have D:=Au hT x
 have C:=Au hT y
 unfold QU at hb
 split at hb
 ·rename_i d p d' q H J
  rw [H]at D
  rw [J]at C
  obtain ⟨u,g,hX⟩:=D.iface
  obtain ⟨u',A,hY⟩:=C.iface
  refine Bs Z h.symm ?_ (by simp [g]) (by simp [g]) (by simp [g]) (by simp [g]) ?_
  ·rw [g,A];cases j<;>simp [eqGuard]
  ·rw [g,A]
   unfold AaA at hb
   cases ed:Nat.beq d d' with
   |false=>
    rw [ed]at hb
    simp only [cond_false,oI]at hb
    have au:d≠d':=fun e=>by rw [An.2 e]at ed;cases ed
    rw [←hb]
    exact Ol 9999 O au _ _
   |true=>
    rw [ed]at hb
    simp only [cond_true]at hb
    obtain ⟨hd,hl,hb⟩:=Ab hb
    unfold WO at hb
    obtain ⟨k,hb⟩:=Ap hb
    obtain ⟨cs,ae,hb⟩:=Ab hb
    obtain ⟨ds,ad,hb⟩:=Ab hb
    have:=An.1 ed
    subst this
    obtain ⟨af,aq⟩:=Ky hl
    obtain ⟨ab,⟨i,hi,ag⟩,R⟩:=Sq am af
    rw [aq]at ab hi R
    rw [aT,beq_eq,beq_eq,beq_iff_eq,beq_iff_eq]at k
    refine (Om 9999 O hi ag _ _).trans ?_
    have aa:Aby P u.cells u'.cells 0 d u u':=by
     refine ⟨fun n hn=>?_,fun h1=>?_⟩
     ·have ha:K3 P d=true:=by unfold K3;rw [hn]
      rw [←R,ha]at k
      cases p<;>simp [K2]at k
      cases q<;>simp [K2]at k
      obtain ⟨U,rfl,_⟩:=hX.agg
      obtain ⟨V,rfl,_⟩:=hY.agg
      exact ⟨U,V,rfl,rfl,Yi.whole _ _,Yi.whole _ _⟩
     ·have ha:K3 P d=false:=by unfold K3;rw [h1]
      rw [←R,ha]at k
      have Q:∀{z:Aa} {v:Value} {zs:List Aa},z.cells=some zs→K2 z=false→Ae ρ μ z v→v.cells[0]?=some v:=fun {z v zs} hz hza hv=>by
       have h1:=hv.Qk (by cases z<;>first|rfl|(simp [Aa.cells]at hz;done) |(simp [K2]at hza;done))
       cases v<;>first|rfl|(simp [Value.oneCell']at h1)
      exact ⟨Q ae k.1 hX,Q ad k.2 hY⟩
    exact SG hΓ ab hX hY ae ad hb aa (by omega)
 ·rename_i H J
  rw [H]at D
  rw [J]at C
  have g:a.eval x=.nilIface:=by simpa only [Ae]using D
  have A:a.eval y=.nilIface:=by simpa only [Ae]using C
  obtain ⟨N,hb⟩:=Ap hb
  simp only [oI]at hb
  subst hb
  refine Bs Z h.symm ?_ (by simp [g]) (by simp [g]) (by simp [g]) (by simp [g]) ?_
  ·rw [g,A]
   subst hn
   have ac:(Op.eqGuardIn Op.maxDepth t .nilIface .nilIface).run P w=.ok (!ms.isEmpty) w:=Oc 9999 O
   simp only [Bool.or_eq_true]at N
   rcases N with (hms|hcx) |hcy
   ·rw [hms]at ac
    cases j<;>cases x<;>cases y<;>simp [eqGuard,ac]
   ·have:∃c,x=.const c:=by
     cases x<;>simp [Ev]at hcx
     exact ⟨_,rfl⟩
    obtain ⟨c,rfl⟩:=this
    cases j<;>simp [eqGuard]
   ·have:∃c,y=.const c:=by
     cases y<;>simp [Ev]at hcy
     exact ⟨_,rfl⟩
    obtain ⟨c,rfl⟩:=this
    cases j<;>cases x<;>simp [eqGuard]
  ·rw [g,A];exact Nh 9999 O
 ·rename_i d p H J
  rw [H]at D
  rw [J]at C
  have g:a.eval x=.nilIface:=by simpa only [Ae]using D
  obtain ⟨u,A,_⟩:=C.iface
  simp only [oI]at hb
  subst hb
  refine Bs Z h.symm ?_ (by simp [g]) (by simp [g]) (by simp [g]) (by simp [g]) ?_
  ·rw [g,A];cases j<;>simp [eqGuard]
  ·rw [g,A];exact QS 9999 O _ _
 ·rename_i d p H J
  rw [H]at D
  rw [J]at C
  have A:a.eval y=.nilIface:=by simpa only [Ae]using C
  obtain ⟨u,g,_⟩:=D.iface
  simp only [oI]at hb
  subst hb
  refine Bs Z h.symm ?_ (by simp [g]) (by simp [g]) (by simp [g]) (by simp [g]) ?_
  ·rw [g,A];cases j<;>simp [eqGuard]
  ·rw [g,A];exact QT 9999 O _ _
 ·cases hb
theorem Q9 {o:Oper} {g:Bool} {t Q e:TypeId} {x y:Operand} (D:o.op=.binOp (if g then .neq else .eql) t x y Q) (H:Be ρ μ tm a) (C:P.underlying t=some (.pointer e)) {n:Nat} (N:Bj P e=some n) {v:Aa}
  (h:Jc Γ g .ptr (ev tm (AJ x)) (ev tm (AJ y))=some v):Bx P ρ μ a o w v:=by
 unfold Jc at h
 obtain ⟨b,hb,h⟩:=Ab h
 simp only [oI]at h
 have hb:Aa8 (ev tm (AJ x)) (ev tm (AJ y))=some b:=hb
 have k:=Au H x
 have j:=Au H y
 unfold Aa8 at hb
 split at hb
 ·rename_i q u
  rw [q]at k
  rw [u]at j
  have c:a.eval x=.pointer none:=by simpa only [Ae]using k
  have d:a.eval y=.pointer none:=by simpa only [Ae]using j
  simp only [oI]at hb
  subst hb
  refine Bs D h.symm ?_ (by simp [c]) (by simp [c]) (by simp [c]) (by simp [c]) ?_
  ·rw [c,d];cases g<;>simp [eqGuard]
  ·rw [c,d];exact JS 9999 C none
 ·rename_i U J q u
  rw [q]at k
  rw [u]at j
  have c:a.eval x=.pointer none:=by simpa only [Ae]using k
  obtain ⟨r,δ,_,_,d⟩:=j.ptr
  simp only [oI]at hb
  subst hb
  refine Bs D h.symm ?_ (by simp [c]) (by simp [c]) (by simp [c]) (by simp [c]) ?_
  ·rw [c,d];cases g<;>simp [eqGuard]
  ·rw [c,d];exact JS 9999 C _
 ·rename_i U J q u
  rw [q]at k
  rw [u]at j
  have d:a.eval y=.pointer none:=by simpa only [Ae]using j
  obtain ⟨r,δ,_,_,c⟩:=k.ptr
  simp only [oI]at hb
  subst hb
  refine Bs D h.symm ?_ (by simp [c]) (by simp [c]) (by simp [c]) (by simp [c]) ?_
  ·rw [c,d];cases g<;>simp [eqGuard]
  ·rw [c,d];exact Oh 9999 C _
 ·rename_i b1 o1 b2 Z q u
  rw [q]at k
  rw [u]at j
  obtain ⟨hc,A⟩:=Ap hb
  rw [aT]at hc
  have R:=An.1 hc.1
  have M:=An.1 hc.2
  subst R M
  obtain ⟨r,δ,m,O,c⟩:=k.ptr
  obtain ⟨r',δ',m',z,d⟩:=j.ptr
  rw [O]at z
  simp only [oI,Prod.mk.injEq]at z
  obtain ⟨rfl,rfl,rfl⟩:=z
  have A:true=b:=by simpa using A
  subst A
  refine Bs D h.symm ?_ (by simp [c]) (by simp [c]) (by simp [c]) (by simp [c]) ?_
  ·rw [c,d];cases g<;>simp [eqGuard]
  ·rw [c,d];exact Oi 9999 C N _
 ·cases hb
theorem MN {o:Oper} {j:Bool} {t M e:TypeId} {x y:Operand} (A:o.op=.binOp (if j then .neq else .eql) t x y M) (J:Be ρ μ tm a) (C:P.underlying t=some (.slice e)) {v:Aa}
  (h:Jc Γ j .slice (ev tm (AJ x)) (ev tm (AJ y))=some v):Bx P ρ μ a o w v:=by
 unfold Jc at h
 obtain ⟨b,hb,h⟩:=Ab h
 simp only [oI]at h
 have hb:QM (ev tm (AJ x)) (ev tm (AJ y))=some b:=hb
 have q:=Au J x
 have k:=Au J y
 unfold QM at hb
 split at hb
 ·rename_i u z
  rw [u]at q
  rw [z]at k
  have d:a.eval x=.slice none 0 0:=by simpa only [Ae]using q
  have g:a.eval y=.slice none 0 0:=by simpa only [Ae]using k
  simp only [oI]at hb
  subst hb
  refine Bs A h.symm ?_ (by simp [d]) (by simp [d]) (by simp [d]) (by simp [d]) ?_
  ·rw [d,g];cases j<;>simp [eqGuard]
  ·rw [d,g];exact Fl 9999 C none 0 0
 ·rename_i H D len cap u z
  rw [u]at q
  rw [z]at k
  have g:a.eval y=.slice none 0 0:=by simpa only [Ae]using k
  obtain ⟨r,δ,m,_,d,_⟩:=q.slice
  simp only [oI]at hb
  subst hb
  refine Bs A h.symm ?_ (by simp [d]) (by simp [d]) (by simp [d]) (by simp [d]) ?_
  ·rw [d,g];cases j<;>simp [eqGuard]
  ·rw [d,g];exact GR 9999 C _ _ _
 ·rename_i H D len cap u z
  rw [u]at q
  rw [z]at k
  have d:a.eval x=.slice none 0 0:=by simpa only [Ae]using q
  obtain ⟨r,δ,m,_,g,_⟩:=k.slice
  simp only [oI]at hb
  subst hb
  refine Bs A h.symm ?_ (by simp [d]) (by simp [d]) (by simp [d]) (by simp [d]) ?_
  ·rw [d,g];cases j<;>simp [eqGuard]
  ·rw [d,g];exact Fl 9999 C _ _ _
 ·rename_i H D len cap u z
  rw [u]at q
  rw [z]at k
  have g:a.eval y=.slice none 0 0:=by simpa only [Ae]using k
  obtain ⟨r,δ,m,c,_,d,_⟩:=q.gslice
  simp only [oI]at hb
  subst hb
  refine Bs A h.symm ?_ (by simp [d]) (by simp [d]) (by simp [d]) (by simp [d]) ?_
  ·rw [d,g];cases j<;>simp [eqGuard]
  ·rw [d,g];exact GR 9999 C _ _ _
 ·rename_i H D len cap u z
  rw [u]at q
  rw [z]at k
  have d:a.eval x=.slice none 0 0:=by simpa only [Ae]using q
  obtain ⟨r,δ,m,c,_,g,_⟩:=k.gslice
  simp only [oI]at hb
  subst hb
  refine Bs A h.symm ?_ (by simp [d]) (by simp [d]) (by simp [d]) (by simp [d]) ?_
  ·rw [d,g];cases j<;>simp [eqGuard]
  ·rw [d,g];exact Fl 9999 C _ _ _
 ·cases hb
theorem QA {o:Oper} {d:Bool} {t J k e:TypeId} {x y:Operand} (A:o.op=.binOp (if d then .neq else .eql) t x y J) (D:Be ρ μ tm a) (C:P.underlying t=some (.map k e)) {v:Aa}
  (h:Jc Γ d .map (ev tm (AJ x)) (ev tm (AJ y))=some v):Bx P ρ μ a o w v:=by
 unfold Jc at h
 obtain ⟨b,hb,h⟩:=Ab h
 simp only [oI]at h
 have hb:Aa9 (ev tm (AJ x)) (ev tm (AJ y))=some b:=hb
 have q:=Au D x
 have j:=Au D y
 unfold Aa9 at hb
 split at hb
 ·rename_i u z
  rw [u]at q
  rw [z]at j
  have c:a.eval x=.map none:=by simpa only [Ae]using q
  have g:a.eval y=.map none:=by simpa only [Ae]using j
  simp only [oI]at hb
  subst hb
  refine Bs A h.symm ?_ (by simp [c]) (by simp [c]) (by simp [c]) (by simp [c]) ?_
  ·rw [c,g];cases d<;>simp [eqGuard]
  ·rw [c,g];exact JT 9999 C none
 ·rename_i H u z
  rw [u]at q
  rw [z]at j
  have g:a.eval y=.map none:=by simpa only [Ae]using j
  obtain ⟨r,_,c⟩:=q.NW
  simp only [oI]at hb
  subst hb
  refine Bs A h.symm ?_ (by simp [c]) (by simp [c]) (by simp [c]) (by simp [c]) ?_
  ·rw [c,g];cases d<;>simp [eqGuard]
  ·rw [c,g];exact Oj 9999 C _
 ·rename_i H u z
  rw [u]at q
  rw [z]at j
  have c:a.eval x=.map none:=by simpa only [Ae]using q
  obtain ⟨r,_,g⟩:=j.NW
  simp only [oI]at hb
  subst hb
  refine Bs A h.symm ?_ (by simp [c]) (by simp [c]) (by simp [c]) (by simp [c]) ?_
  ·rw [c,g];cases d<;>simp [eqGuard]
  ·rw [c,g];exact JT 9999 C _
 ·cases hb
theorem Oe {o:Oper} {d:Bool} {t H:TypeId} {ps rs:Array TypeId} {va:Bool} {x y:Operand} (A:o.op=.binOp (if d then .neq else .eql) t x y H) (D:Be ρ μ tm a) (C:P.underlying t=some (.func ps rs va)) {v:Aa}
  (h:Jc Γ d .func (ev tm (AJ x)) (ev tm (AJ y))=some v):Bx P ρ μ a o w v:=by
 unfold Jc at h
 obtain ⟨b,hb,h⟩:=Ab h
 simp only [oI]at h
 have hb:UB (ev tm (AJ x)) (ev tm (AJ y))=some b:=hb
 have k:=Au D x
 have j:=Au D y
 unfold UB at hb
 split at hb
 ·rename_i u z
  rw [u]at k
  rw [z]at j
  have c:a.eval x=.nilFunc:=by simpa only [Ae]using k
  have g:a.eval y=.nilFunc:=by simpa only [Ae]using j
  simp only [oI]at hb
  subst hb
  refine Bs A h.symm ?_ (by simp [c]) (by simp [c]) (by simp [c]) (by simp [c]) ?_
  ·rw [c,g];cases d<;>simp [eqGuard]
  ·rw [c,g];exact On 9999 C
 ·rename_i f p q u z
  rw [u]at k
  rw [z]at j
  have g:a.eval y=.nilFunc:=by simpa only [Ae]using j
  obtain ⟨_,_,c,_⟩:=k.func
  simp only [oI]at hb
  subst hb
  refine Bs A h.symm ?_ (by simp [c]) (by simp [c]) (by simp [c]) (by simp [c]) ?_
  ·rw [c,g];cases d<;>simp [eqGuard]
  ·rw [c,g];exact SJ 9999 C _ _ _
 ·rename_i f p q u z
  rw [u]at k
  rw [z]at j
  have c:a.eval x=.nilFunc:=by simpa only [Ae]using k
  obtain ⟨_,_,g,_⟩:=j.func
  simp only [oI]at hb
  subst hb
  refine Bs A h.symm ?_ (by simp [c]) (by simp [c]) (by simp [c]) (by simp [c]) ?_
  ·rw [c,g];cases d<;>simp [eqGuard]
  ·rw [c,g];exact SI 9999 C _ _ _
 ·cases hb
theorem Of {o:Oper} {d:Bool} {t H:TypeId} {x y:Operand} (z:o.op=.binOp (if d then .neq else .eql) t x y H) (j:Be ρ μ tm a) (C:P.underlying t=some .bool) {v:Aa}
  (h:Jc Γ d .bool (ev tm (AJ x)) (ev tm (AJ y))=some v):Bx P ρ μ a o w v:=by
 unfold Jc at h
 obtain ⟨b,hb,h⟩:=Ab h
 simp only [oI]at h
 have hb:UC (ev tm (AJ x)) (ev tm (AJ y))=some b:=hb
 have u:=Au j x
 have k:=Au j y
 unfold UC at hb
 split at hb
 ·rename_i p q A D
  rw [A]at u
  rw [D]at k
  have c:=u.bool
  have g:=k.bool
  simp only [SB.den]at c g
  simp only [oI]at hb
  refine Bs z h.symm ?_ (by simp [c]) (by simp [c]) (by simp [c]) (by simp [c]) ?_
  ·rw [c,g];cases d<;>simp [eqGuard]
  ·rw [c,g,run_equalIn_bool' w 9999 t p q C,←hb,beq_eq]
 ·cases hb
end
end Go.AM
end
section
namespace Go.AM
section
variable {P:Program} {Γ:Ao} {ρ:Env} {μ:Aq} {tm:Tr Aa} {a:Act} {w:World}
theorem Gr (c:Be ρ μ tm a) {d n:Nat} {x:Option Operand} (h:Cu tm d (x.map AJ)=some n):(x=none∧n=d)∨∃y k,x=some y∧a.eval y=.int k (n:Int):=by
 cases x with
 |none=>have h:some d=some n:=h;simp only [oI]at h;exact .inl ⟨rfl,h.symm⟩
 |some y=>
  have h:CN (ev tm (AJ y))=some n:=h
  obtain ⟨k,e⟩:=Cw h (Au c y)
  exact .inr ⟨y,k,rfl,e⟩
theorem Cl {k:IntKind} {n y:Nat} {c:BoundsCode} (h:n≤y):(Instr.sliceBound (.int k (n:Int)) y c).run P w=.ok n w:=by
 rw [run_sliceBound w k _ y c (by omega) (by omega)];simp
theorem Gp (g:Be ρ μ tm a) {sl:Bool} {len cap l h:Nat} {o j:Option Operand} (hl:Cu tm 0 (o.map AJ)=some l) (q:Cu tm len (j.map AJ)=some h) (c:l≤h) (d:h≤cap):
  (Instr.sliceBounds sl len cap (o.map a.eval) (j.map a.eval) none).run P w=.ok (l,h,cap) w:=by
 rcases Gr g hl with ⟨rfl,rfl⟩|⟨y,k,rfl,e⟩<;>rcases Gr g q with ⟨rfl,rfl⟩|⟨y',k',rfl,e'⟩
 ·simp [Instr.sliceBounds]
 ·simp [Instr.sliceBounds,e',Cl d]
 ·simp [Instr.sliceBounds,e,Cl c]
 ·simp [Instr.sliceBounds,e,e',Cl c,Cl d]
theorem Mn (g:Be ρ μ tm a) {sl:Bool} {len cap l h m:Nat} {v:Option Operand} {d c:Operand} (hl:Cu tm 0 (v.map AJ)=some l) (z:CN (ev tm (AJ d))=some h) (A:CN (ev tm (AJ c))=some m)
  (x:l≤h) (j:h≤m) (u:m≤cap):
  (Instr.sliceBounds sl len cap (v.map a.eval) (some (a.eval d)) (some (a.eval c))).run P w=.ok (l,h,m) w:=by
 obtain ⟨C,o⟩:=Cw z (Au g d)
 obtain ⟨D,q⟩:=Cw A (Au g c)
 rcases Gr g hl with ⟨rfl,rfl⟩|⟨y,k,rfl,e⟩
 ·simp [Instr.sliceBounds,o,q,Cl j,Cl u]
 ·simp [Instr.sliceBounds,e,o,q,Cl x,Cl j,Cl u]
theorem Ur {o:Oper} {t:TypeId} {x:Operand} {y g:Option Operand} (A:o.op=.slice t x y g none) (k:Be ρ μ tm a) (j:P.underlying t=some .string) {v:Aa}
  (h:YB (ev tm (AJ x)) (Cu tm 0 (y.map AJ)) (fun d=>Cu tm d (g.map AJ))=some v):Bx P ρ μ a o w v:=by
 have z:=Au k x
 unfold YB at h
 split at h
 ·rename_i s D
  rw [D]at z
  obtain ⟨l,hl,h⟩:=Ab h
  obtain ⟨c,u,h⟩:=Ab h
  obtain ⟨b,C,rfl⟩:=z.str
  unfold Adr at h
  obtain ⟨hc,h⟩:=Ap h
  rw [aT,AX,AX]at hc
  obtain ⟨r,H,h⟩:=Ab h
  simp only [oI]at h
  subst h
  simp only [Dq,BK]at u hc
  have hb:=Gp (P:=P) (w:=w) (sl:=false) k hl u hc.1 hc.2
  refine ⟨.string (b.extract l c),?_,?_⟩
  ·simp only [execOp,A,Option.map_none,Sem.run_bind,run_sliceAt_string w t _ _ _ _ j,C]
   simp [Instr.slice,run_underlying j,hb]
  ·simp only [Ae]
   refine ⟨_,rfl,?_⟩
   have:=KZ H
   rw [La]at this
   rw [this]
   unfold strOf
   have q:(b.extract l c).data.toList=(b.data.toList.drop l).take (c-l):=by
    obtain ⟨⟨L⟩⟩:=b
    have:=ByteArray.extract_mk L l c
    rw [show (⟨⟨L⟩⟩:ByteArray)=ByteArray.mk L.toArray from rfl,this]
   rw [q,List.map_take,List.map_drop]
 ·cases h
theorem Ig (r p l h m size:Nat):sliced (some ⟨r,p,none⟩) l h m size=.slice (some ⟨r,p+(if m=l then 0 else l*size),none⟩) (h-l) (m-l):=by
 unfold sliced
 by_cases e:m=l
 ·rw [if_pos e,if_pos e];rfl
 ·rw [if_neg e,if_neg e]
  simp [Addr.Bl]
theorem Od {o:Oper} {t e:TypeId} {x:Operand} {lo Q:Option Operand} {n:Nat} (O:o.op=.slice t x lo Q none) (J:Be ρ μ tm a) (R:P.underlying t=some (.slice e)) (hn:Bj P e=some n) {v:Aa}
  (h:FZ n (ev tm (AJ x)) (Cu tm 0 (lo.map AJ)) (fun d=>Cu tm d (Q.map AJ)) none=some v):Bx P ρ μ a o w v:=by
 have y:=Au J x
 have q:P.elem t=e:=by simp [Program.elem,R]
 have g:P.underlying t=some (.slice (P.elem t)):=by rw [q];exact R
 have hs:=B5 (w:=w) hn
 unfold FZ at h
 split at h
 ·rename_i b j len c D _
  rw [D]at y
  obtain ⟨l,hl,h⟩:=Ab h
  obtain ⟨u,A,h⟩:=Ab h
  obtain ⟨r,δ,m,M,z,U⟩:=y.slice
  unfold RR at h
  obtain ⟨hc,h⟩:=Ap h
  rw [aT,AX,AX]at hc
  simp only [oI]at h
  subst h
  have hb:=Gp (P:=P) (w:=w) (sl:=true) J hl A hc.1 hc.2
  refine ⟨sliced (some ⟨r,δ+j,none⟩) l u c n,?_,?_⟩
  ·simp only [execOp,O,Option.map_none,Sem.run_bind,run_sliceAt_slice w t _ _ _ _ g,z,run_slice_any w t _ _ _ g,hb,Result.andThen_ok,q,hs]
   simp
  ·rw [Ig]
   simp only [Ae,AP]
   refine ⟨r,δ,m,M,?_,by omega⟩
   by_cases e:c=l<;>simp [e,Nat.add_assoc]
 ·rename_i b j len es D _
  rw [D]at y
  obtain ⟨l,hl,h⟩:=Ab h
  obtain ⟨u,A,h⟩:=Ab h
  obtain ⟨r,δ,m,k,M,z,U,H⟩:=y.gslice
  unfold RP at h
  obtain ⟨hc,h⟩:=Ap h
  rw [aT,aT,AX,AX,An]at hc
  have Z:=hc.2
  have hb:=Gp (P:=P) (w:=w) (sl:=true) (cap:=k) J hl A hc.1.1 (by omega)
  refine ⟨sliced (some ⟨r,δ+j,none⟩) l u k n,?_,?_⟩
  ·simp only [execOp,O,Option.map_none,Sem.run_bind,run_sliceAt_slice w t _ _ _ _ g,z,run_slice_any w t _ _ _ g,hb,Result.andThen_ok,q,hs]
   simp
  ·rw [AP]at h
   rw [Ig]
   by_cases e0:l=0
   ·rw [if_pos e0]at h
    simp only [oI]at h
    subst h
    simp only [Ae]
    refine ⟨r,δ,m,k,M,?_,by omega,H⟩
    subst e0
    have:δ+j+(if k=0 then 0 else 0*n)=δ+j:=by split<;>omega
    rw [this];simp
   ·rw [if_neg e0]at h
    obtain ⟨N,h⟩:=Ap h
    have N:=Ip.1 N
    simp only [oI]at h
    subst h
    simp only [Ae]
    refine ⟨r,δ,m,k-l,M,?_,by omega,?_⟩
    ·rw [if_neg (by omega)];simp [Nat.add_assoc]
    ·subst Z
     have:(k-l)*n+l*n=k*n:=by rw [←Nat.add_mul];congr 1;omega
     omega
 ·rename_i C
  simp at C
 ·rename_i C
  simp at C
 ·rename_i D _
  rw [D]at y
  have z:a.eval x=.slice none 0 0:=by simpa only [Ae]using y
  obtain ⟨l,hl,h⟩:=Ab h
  obtain ⟨u,A,h⟩:=Ab h
  obtain ⟨hc,h⟩:=Ap h
  rw [aT,An,An]at hc
  simp only [oI]at h
  subst h
  obtain ⟨rfl,rfl⟩:=hc
  have hb:=Gp (P:=P) (w:=w) (sl:=true) (cap:=0) J hl A (Nat.le_refl _) (Nat.le_refl _)
  refine ⟨sliced none 0 0 0 n,?_,by simp [sliced,Ae]⟩
  simp only [execOp,O,Option.map_none,Sem.run_bind,run_sliceAt_slice w t _ _ _ _ g,z,run_slice_any w t _ _ _ g,hb,Result.andThen_ok,q,hs]
  rfl
 ·cases h
theorem DK {x:Option Operand} (h:Lz tm (x.map AJ)=none):x=none:=by
 cases x with
 |none=>rfl
 |some x=>cases h
theorem XC {x:Option Operand} {v:Aa} (c:Be ρ μ tm a) (h:Lz tm (x.map AJ)=some v):∃y,x=some y∧ev tm (AJ y)=v∧Ae ρ μ v (a.eval y):=by
 cases x with
 |none=>cases h
 |some y=>
  have h:some (ev tm (AJ y))=some v:=h
  simp only [oI]at h
  exact ⟨y,rfl,h,h▸Au c y⟩
theorem RN {sl:Bool} {d c:Option Operand} {l h cap len:Nat} (hl:(d=none∧l=0)∨∃x k,d=some x∧a.eval x=.int k (l:Int)) (o:(c=none∧h=len)∨∃x k,c=some x∧a.eval x=.int k (h:Int)) (g:l≤h) (j:h≤cap):
  (Instr.sliceBounds sl len cap (d.map a.eval) (c.map a.eval) none).run P w=.ok (l,h,cap) w:=by
 rcases hl with ⟨rfl,rfl⟩|⟨y,k,rfl,e⟩<;>rcases o with ⟨rfl,rfl⟩|⟨y',k',rfl,e'⟩
 ·simp [Instr.sliceBounds]
 ·simp [Instr.sliceBounds,e',Cl j]
 ·simp [Instr.sliceBounds,e,Cl g]
 ·simp [Instr.sliceBounds,e,e',Cl g,Cl j]
theorem DI (p:Option Addr) (h c n:Nat):sliced p 0 h c n=.slice p h c:=by
 have e:p.map (·.add (0*n))=p:=by
  cases p with
  |none=>rfl
  |some p=>simp [Addr.add]
 unfold sliced
 rw [e]
 simp
theorem ML (hΓ:Γ.AL ρ) {o:Oper} {t e:TypeId} {x:Operand} {lo hi:Option Operand} {n:Nat} (ho:o.op=.slice t x lo hi none) (hT:Be ρ μ tm a) (hu:P.underlying t=some (.slice e)) (hn:Bj P e=some n) {v:Aa}
  (h:Mo Γ n (ev tm (AJ x)) (Lz tm (lo.map AJ)) (Lz tm (hi.map AJ))=some v):Bx P ρ μ a o w v:=by
 have hx:=Au hT x
 have ao:P.elem t=e:=by simp [Program.elem,hu]
 have af:P.underlying t=some (.slice (P.elem t)):=by rw [ao];exact hu
 have hs:=B5 (w:=w) hn
 have key:∀(p:Option Addr) (len cap l h':Nat),a.eval x=.slice p len cap→((lo=none∧l=0)∨∃x k,lo=some x∧a.eval x=.int k (l:Int))→((hi=none∧h'=len)∨∃x k,hi=some x∧a.eval x=.int k (h':Int))→l≤h'→h'≤cap→Ae ρ μ v (sliced p l h' cap n)→Bx P ρ μ a o w v:=fun p len cap l h' C hl hh N h2 hv=>by
  have hb:=RN (P:=P) (w:=w) (sl:=true) hl hh N h2
  refine ⟨_,?_,hv⟩
  simp only [execOp,ho,Option.map_none,Sem.run_bind,run_sliceAt_slice w t _ _ _ _ af,C,run_slice_any w t _ _ _ af,hb,Result.andThen_ok,ao,hs]
  simp
 have num:∀{y:Option Operand} {k:IntKind} {t:ST},Lz tm (y.map AJ)=some (.int k t)→∃z,y=some z∧a.eval z=.int k (t.den ρ):=fun {y k t} e=>by
  obtain ⟨z,N,_,h3⟩:=XC hT e
  exact ⟨z,N,h3.int⟩
 unfold Mo at h
 split at h
 ·rename_i f i es len e1
  obtain ⟨D,h⟩:=Ap h
  have D:=An.1 D
  subst D
  rw [e1]at hx
  have Z:=hx
  obtain ⟨p,cap,C,aa,aq,hp⟩:=hx.Et
  have take:∀(u:ST) (j:Nat),((hi=none∧u.den ρ=((ρ.lst i).length:Int))∨∃z k,hi=some z∧a.eval z=.int k (u.den ρ))→((lo=none)∨∃z k,lo=some z∧a.eval z=.int k 0)→JF [.take i u] Γ.defs=some j→v=.lst false j n u→Bx P ρ μ a o w v:=fun u j hh hl hj hv=>by
   subst hv
   obtain ⟨A,B,J,⟨q2,q3,q4⟩,q5⟩:=hΓ.defs _ (EZ hj)
   have q5:B=[]:=q5
   subst q5
   rw [List.append_nil]at J
   have J:ρ.lst j=A:=J
   subst J
   obtain ⟨m,H⟩:∃m:Nat,u.den ρ=(m:Int):=⟨(u.den ρ).toNat,by omega⟩
   have O:(ρ.lst j).length=m:=by rw [q4,lT',H];simp;omega
   refine key p _ cap 0 m C ?_ ?_ (Nat.zero_le _) (by omega) ?_
   ·rcases hl with rfl|⟨z,k,rfl,e⟩
    ·exact .inl ⟨rfl,rfl⟩
    ·exact .inr ⟨z,k,rfl,e⟩
   ·rcases hh with ⟨rfl,e⟩|⟨z,k,rfl,e⟩
    ·exact .inl ⟨rfl,by omega⟩
    ·exact .inr ⟨z,k,rfl,by rw [e,H]⟩
   ·rw [DI]
    simp only [Ae,Ix]
    refine ⟨⟨cap,by omega,?_⟩,by rw [O,H],fun e=>by cases e⟩
    by_cases h0:m=0
    ·exact .inl ⟨List.eq_nil_of_length_eq_zero (by omega),p,by rw [h0]⟩
    ·obtain ⟨r,δ,c,ty,rfl,k1,U⟩:=hp (by omega)
     refine .inr ⟨r,δ,c,ty,by rw [O],k1,?_⟩
     rw [q4]
     rw [BB]at U⊢
     refine ⟨fun ps Q=>U.1 ps (List.mem_of_mem_take Q),?_⟩
     have:=U.2
     rw [←List.take_append_drop (u.den ρ).toNat (ρ.lst i),List.flatten_append,AW.append_iff]at this
     exact this.1
  have ag:∀(ak:Option Aa),Lz tm (lo.map AJ)=ak→J8 Γ i n len ak (Lz tm (hi.map AJ))=some v→Bx P ρ μ a o w v:=fun ak am h=>by
   unfold J8 at h
   split at h
   ·rename_i k u g
    obtain ⟨j,hj,h⟩:=Ab h
    simp only [oI]at h
    obtain ⟨z,M,d⟩:=num g
    exact take u j (.inr ⟨z,k,M,d⟩) (.inl (DK am)) hj h.symm
   ·rename_i k0 k u g
    obtain ⟨j,hj,h⟩:=Ab h
    simp only [oI]at h
    obtain ⟨z,M,d⟩:=num g
    obtain ⟨z0,ay,ap⟩:=num am
    exact take u j (.inr ⟨z,k,M,d⟩) (.inr ⟨z0,k0,ay,ap⟩) hj h.symm
   ·rename_i _ k u g
    obtain ⟨j,hj,h⟩:=Ab h
    obtain ⟨u',af,h⟩:=Ab h
    simp only [oI]at h
    subst h
    obtain ⟨z,M,d⟩:=num am
    obtain ⟨A,B,J,⟨q2,q3,q4⟩,q5⟩:=hΓ.defs _ (EZ hj)
    have q5:B=[]:=q5
    subst q5
    rw [List.append_nil]at J
    have J:ρ.lst j=A:=J
    subst J
    have aE:u'.den ρ=((ρ.lst j).length:Int):=hΓ.Ad _ (CG af)
    obtain ⟨m,H⟩:∃m:Nat,u.den ρ=(m:Int):=⟨(u.den ρ).toNat,by omega⟩
    have aF:m≤(ρ.lst i).length:=by omega
    have O:(ρ.lst j).length=(ρ.lst i).length-m:=by rw [q4,List.length_drop,H];rfl
    refine key p _ cap m (ρ.lst i).length C (.inr ⟨z,k,M,by rw [d,H]⟩) (.inl ⟨DK g,rfl⟩) aF aa ?_
    simp only [Ae]
    refine ⟨?_,aE,fun e=>by cases e⟩
    by_cases h0:m=0
    ·subst h0
     rw [DI]
     have e:ρ.lst j=ρ.lst i:=by rw [q4,H];rfl
     rw [e,←C]
     exact Z.lst.1
    ·obtain ⟨r,δ,c,ty,rfl,k1,U⟩:=hp (by omega)
     rw [Ig]
     simp only [Ix]
     refine ⟨cap-m,by omega,?_⟩
     by_cases N:(ρ.lst j).length=0
     ·exact .inl ⟨List.eq_nil_of_length_eq_zero N,_,by rw [←O,N]⟩
     ·refine .inr ⟨r,δ+m*n,c,ty,?_,k1,?_⟩
      ·rw [if_neg (by omega),O]
      ·rw [q4,H]
       rw [BB]at U⊢
       refine ⟨fun ps Q=>U.1 ps (List.mem_of_mem_drop Q),?_⟩
       have:=U.2
       rw [←List.take_append_drop m (ρ.lst i),List.flatten_append,AW.append_iff]at this
       have aA:((ρ.lst i).take m).flatten.length=m*n:=by
        rw [BN fun ps Q=>U.1 ps (List.mem_of_mem_take Q),lT'];congr 1;omega
       rw [aA]at this
       exact this.2
   ·cases h
  unfold RQ at h
  split at h
  ·rename_i g R
   simp only [oI]at h
   subst h
   exact key p _ cap 0 _ C (.inl ⟨DK g,rfl⟩) (.inl ⟨DK R,rfl⟩) (Nat.zero_le _) aa (by rw [DI,←C];exact Z)
  ·rename_i k u g R
   cases hc:u.eq len with
   |true=>
    rw [hc]at h
    simp only [cond_true,oI]at h
    subst h
    obtain ⟨z,M,d⟩:=num R
    have hc:=ST.Bk hc
    subst hc
    refine key p _ cap 0 _ C (.inl ⟨DK g,rfl⟩) (.inr ⟨z,k,M,by rw [d,aq]⟩) (Nat.zero_le _) aa (by rw [DI,←C];exact Z)
   |false=>
    rw [hc]at h
    simp only [cond_false]at h
    exact ag none g (by rw [R];exact h)
  ·exact ag _ rfl h
 ·rename_i b es len e1
  obtain ⟨D,h⟩:=Ap h
  have D:=An.1 D
  subst D
  rw [e1]at hx
  have Z:=hx
  obtain ⟨r,m,k,H,C,hk,aQ,aC⟩:=hx.vec
  unfold RO at h
  split at h
  ·rename_i g R
   simp only [oI]at h
   subst h
   exact key _ _ _ 0 _ C (.inl ⟨DK g,rfl⟩) (.inl ⟨DK R,rfl⟩) (Nat.zero_le _) (by omega) (by rw [DI,←C];exact Z)
  ·rename_i kk u g R
   obtain ⟨hc,h⟩:=Ap h
   simp only [oI]at h
   subst h
   rw [aT]at hc
   have N:=IX hΓ hc.1
   have h2:=Gw hΓ hc.2
   have N:0≤u.den ρ:=N
   obtain ⟨q,hq⟩:∃q:Nat,u.den ρ=(q:Int):=⟨(u.den ρ).toNat,by omega⟩
   obtain ⟨z,M,d⟩:=num R
   refine key _ _ _ 0 q C (.inl ⟨DK g,rfl⟩) (.inr ⟨z,kk,M,by rw [d,hq]⟩) (Nat.zero_le _) (by omega) ?_
   rw [DI]
   simp only [Ae]
   exact ⟨r,m,q,H,rfl,hq,by omega,aC⟩
  ·cases h
 ·cases h
theorem MM {o:Oper} {t e:TypeId} {x H J:Operand} {N:Option Operand} {n:Nat} (ho:o.op=.slice t x N (some H) (some J)) (Q:Be ρ μ tm a) (O:P.underlying t=some (.slice e)) (Z:Bj P e=some n) {v:Aa}
  (h:FZ n (ev tm (AJ x)) (Cu tm 0 (N.map AJ)) (fun d=>Cu tm d (some (AJ H))) (some (CN (ev tm (AJ J))))=some v):Bx P ρ μ a o w v:=by
 have A:=Au Q x
 have C:P.elem t=e:=by simp [Program.elem,O]
 have D:P.underlying t=some (.slice (P.elem t)):=by rw [C];exact O
 have hs:=B5 (w:=w) Z
 have key:∀(b c len r δ q y:Nat),(AG (Cu tm 0 (N.map AJ)) fun l=>AG (CN (ev tm (AJ H))) fun h=>AG (CN (ev tm (AJ J))) fun m=>J7 n b c len l h m)=some v→
   μ b=some (r,δ,q)→a.eval x=.slice (some ⟨r,δ+c,none⟩) len y→len≤y→Bx P ρ μ a o w v:=fun b c len r δ q y h u k j=>by
  obtain ⟨l,hl,h⟩:=Ab h
  obtain ⟨U,hh,h⟩:=Ab h
  obtain ⟨m,R,h⟩:=Ab h
  unfold J7 at h
  obtain ⟨hc,h⟩:=Ap h
  rw [aT,aT,AX,AX,AX]at hc
  simp only [oI]at h
  subst h
  have hb:=Mn (P:=P) (w:=w) (sl:=true) (len:=len) (cap:=y) Q hl hh R hc.1.1 hc.1.2 (by omega)
  refine ⟨sliced (some ⟨r,δ+c,none⟩) l U m n,?_,?_⟩
  ·simp only [execOp,ho,Option.map_some,Sem.run_bind,run_sliceAt_slice w t _ _ _ _ D,k,run_slice_any w t _ _ _ D,hb,Result.andThen_ok,C,hs]
   simp
  ·rw [Ig]
   simp only [Ae,AP]
   refine ⟨r,δ,q,u,?_,by omega⟩
   by_cases e:m=l<;>simp [e,Nat.add_assoc]
 unfold FZ at h
 split at h
 ·rename_i g;simp at g
 ·rename_i g;simp at g
 ·rename_i b c len cap m' M z
  rw [M]at A
  simp only [oI]at z
  subst z
  obtain ⟨r,δ,q,u,k,j⟩:=A.slice
  exact key _ _ _ _ _ _ _ h u k j
 ·rename_i b c len cap m' M z
  rw [M]at A
  simp only [oI]at z
  subst z
  obtain ⟨r,δ,q,y,u,k,j,_⟩:=A.gslice
  exact key _ _ _ _ _ _ _ h u k j
 ·rename_i g;simp at g
 ·cases h
theorem M8 {α:Type} {o:Option α} {f:α→POp} {q:POp} (h:(o.map fun x=>DQ.p (f x))=some (.p q)):∃x,o=some x∧q=f x:=by
 obtain ⟨x,c,e⟩:=mS h
 simp only [DQ.p.injEq]at e
 exact ⟨x,c,e.symm⟩
theorem SP {t:TypeId} {d:TypeDesc} (h:P.underlying t=some d) (hd:∀ms,d≠.interface ms):P.concrete t=true:=by
 unfold Program.concrete
 rw [h]
 cases d<;>first|rfl|(exact absurd rfl (hd _))
theorem QB {o:Oper} {x:Operand} {xt t:TypeId} {ok:Bool} (M:o.op=.typeAssert x xt t ok) (Z:Be ρ μ tm a) {d:TypeDesc} (J:P.underlying t=some d) (hd:∀ms,d≠.interface ms) {i:TypeInfo} (R:P.info? t=some i)
  {z:Option Aa} (k:if ok then∃c,i.zero=some c∧z=some (GK c)else z=none) {v:Aa} (h:Rg t z (ev tm (AJ x))=some v):Bx P ρ μ a o w v:=by
 have g:=Au Z x
 unfold Rg at h
 split at h
 ·rename_i u y A
  have U:ok=false:=by
   cases ok
   ·rfl
   ·obtain ⟨_,_,e⟩:=k;cases e
  subst U
  obtain ⟨hc,N⟩:=Ap h
  have hc:=An.1 hc
  subst hc
  have N:y=v:=by simpa using N
  subst N
  rw [A]at g
  obtain ⟨O,j,Q⟩:=g.iface
  refine ⟨O,?_,Q⟩
  cases d<;>first|exact absurd rfl (hd _) |simp [execOp,M,Instr.typeAssert,run_underlying J,j]
 ·rename_i u y zz A
  have H:ok=true:=by
   cases ok
   ·cases k
   ·rfl
  subst H
  obtain ⟨c,C,D⟩:=k
  simp only [oI]at D
  subst D
  simp only [oI]at h
  rw [A]at g
  obtain ⟨O,j,Q⟩:=g.iface
  rw [AP]at h
  by_cases hut:u=t
  ·rw [if_pos hut]at h
   subst h
   refine ⟨.tuple #[O,.bool true],?_,?_⟩
   ·cases d<;>first|exact absurd rfl (hd _) |simp [execOp,M,Instr.typeAssert,run_underlying J,j,hut]
   ·simp only [Ae]
    exact ⟨_,rfl,by simp only [A9];exact ⟨_,_,rfl,Q,_,_,rfl,rfl,rfl⟩⟩
  ·rw [if_neg hut]at h
   subst h
   have q:(zeroValue t).run P w=.ok c w:=by simp [zeroValue,typeInfo,R,C]
   refine ⟨.tuple #[c,.bool false],?_,?_⟩
   ·cases d<;>first|exact absurd rfl (hd _) |simp [execOp,M,Instr.typeAssert,run_underlying J,j,hut,q]
   ·simp only [Ae]
    exact ⟨_,rfl,by simp only [A9];exact ⟨_,_,rfl,Dm c,_,_,rfl,rfl,rfl⟩⟩
 ·rename_i zz A
  have H:ok=true:=by
   cases ok
   ·cases k
   ·rfl
  subst H
  obtain ⟨c,C,D⟩:=k
  simp only [oI]at D
  subst D
  simp only [oI]at h
  subst h
  rw [A]at g
  have j:a.eval x=.nilIface:=by simpa only [Ae]using g
  have q:(zeroValue t).run P w=.ok c w:=by simp [zeroValue,typeInfo,R,C]
  refine ⟨.tuple #[c,.bool false],?_,?_⟩
  ·cases d<;>first|exact absurd rfl (hd _) |simp [execOp,M,Instr.typeAssert,run_underlying J,j,q]
  ·simp only [Ae]
   exact ⟨_,rfl,by simp only [A9];exact ⟨_,_,rfl,Dm c,_,_,rfl,rfl,rfl⟩⟩
 ·cases h
theorem Cv {t:TypeId} {ok:Bool} {x:Operand} {q:DQ} (h:Jg P t ok x=some q):
  ∃d i z,P.underlying t=some d∧(∀ms,d≠.interface ms)∧P.info? t=some i∧(if ok then∃g,i.zero=some g∧z=some (GK g)else z=none)∧q=.p (.assert t z (AJ x)):=by
 unfold Jg at h
 split at h
 ·cases h
 ·rename_i d i o k j
  have hd:∀ms,d≠.interface ms:=fun ms e=>o ms e
  split at h
  ·rename_i c
   obtain ⟨g,u,e⟩:=mS h
   subst c
   exact ⟨d,i,some (GK g),k,hd,j,by simp only [if_true];exact ⟨g,u,rfl⟩,e.symm⟩
  ·rename_i c
   simp only [oI]at h
   exact ⟨d,i,none,k,hd,j,by rw [if_neg c],h.symm⟩
 ·cases h
theorem CV {s d:TypeId} {x:Operand} {q:DQ} (h:Nu P s d x=some q):
  (∃g k,P.underlying s=some (.int g)∧P.underlying d=some (.int k)∧q=.p (.conv k (AJ x)))∨(P.underlying s=some .string∧P.underlying d=some .string∧q=.p (.same (AJ x)))∨
  (∃t n,P.underlying s=some (.pointer t)∧P.underlying d=some .unsafePointer∧Bj P t=some (n+1)∧q=.r (.uptr (Hq P fun _ _=>true) (AJ x)))∨
  (∃u n,P.underlying s=some .unsafePointer∧P.underlying d=some (.pointer u)∧Bj P u=some n∧q=.r (.uptr (Hq P fun e n=>liesAt P P.depth e (n/P.cellsOf e) 0 u 1) (AJ x)))∨
  (∃e,P.underlying s=some (.slice e)∧P.underlying e=some (.int .u8)∧P.underlying d=some .string∧q=.r (.bstr (AJ x))):=by
 unfold Nu at h
 split at h
 ·rename_i g k hs hd
  simp only [oI]at h
  exact .inl ⟨g,k,hs,hd,h.symm⟩
 ·rename_i hs hd
  simp only [oI]at h
  exact .inr (.inl ⟨hs,hd,h.symm⟩)
 ·rename_i e hs hd
  split at h
  ·rename_i j
   simp only [oI]at h
   exact .inr (.inr (.inr (.inr ⟨e,hs,j,hd,h.symm⟩)))
  ·cases h
 ·rename_i t hs hd
  split at h
  ·rename_i n c
   simp only [oI]at h
   exact .inr (.inr (.inl ⟨t,n,hs,hd,c,h.symm⟩))
  ·cases h
 ·rename_i u hs hd
  obtain ⟨n,c,h⟩:=mS h
  exact .inr (.inr (.inr (.inl ⟨u,n,hs,hd,c,h.symm⟩)))
 ·cases h
theorem Mw (H:Γ.AL ρ) (u:Be ρ μ tm a) {pl:List C3} {o:Oper} {q:POp} (hc:D9 P pl o=some (.p q)) {v:Aa} (h:I6 Γ tm q=some v):Bx P ρ μ a o w v:=by
 cases hop:o.op<;>simp only [D9,hop,reduceCtorEq,oI,DQ.p.injEq]at hc
 case move x=>subst hc;simp only [I6,oI]at h;subst h;exact Sx (.inl hop) u
 case assign x=>subst hc;simp only [I6,oI]at h;subst h;exact Sx (.inr hop) u
 case pick c x y=>subst hc;exact Ut hop u h
 case alloc t=>obtain ⟨_,_,e⟩:=mS hc;cases e
 case build t parts=>
  split at hc
  ·rename_i fs z j N
   split at hc
   ·rename_i Z
    obtain ⟨ps,hp,rfl⟩:=M8 hc
    exact IY hop u j N Z hp h
   ·cases hc
  ·rename_i k e z j N
   obtain ⟨n,C,hc⟩:=Option.bind_eq_some_iff.1 hc
   obtain ⟨ps,hp,rfl⟩:=M8 hc
   exact JK hop u j N C hp h
  ·cases hc
 case nilCheck x=>subst hc;exact Uu hop u h
 case binOp op t x y yt=>
  obtain ⟨q',D,e⟩:=mS hc
  simp only [DQ.p.injEq]at e
  subst e
  have eqs:∀O:Bool,op=(if O then .neq else .eql)→Rc P pl O t x y=some q'→Bx P ρ μ a o w v:=fun O R A=>by
   clear D hc
   subst R
   unfold Rc at A
   split at A
   ·rename_i j;simp only [oI]at A;subst A;exact Of hop u j h
   ·rename_i j
    obtain ⟨n,C,A⟩:=Option.bind_eq_some_iff.1 A
    simp only [oI]at A;subst A;exact Q9 hop u j C h
   ·rename_i j;simp only [oI]at A;subst A;exact MN hop u j h
   ·rename_i j;simp only [oI]at A;subst A;exact QA hop u j h
   ·rename_i j;simp only [oI]at A;subst A;exact Oe hop u j h
   ·rename_i fs j
    split at A
    ·rename_i l hl
     split at A
     ·cases A
     ·rename_i M
      simp only [oI]at A;subst A
      exact HA hop H u (.inl ⟨_,j⟩) hl (by simpa using M) h
    ·cases A
   ·rename_i k e j
    split at A
    ·rename_i l hl
     split at A
     ·cases A
     ·rename_i M
      simp only [oI]at A;subst A
      exact HA hop H u (.inr ⟨_,_,j⟩) hl (by simpa using M) h
    ·cases A
   ·rename_i ms j
    split at A
    ·rename_i ae
     simp only [oI]at A;subst A
     exact MO hop H u j ae rfl h
    ·cases A
   ·cases A
  unfold WV at D
  split at D
  ·simp only [oI]at D;subst D;exact Pa hop H u h
  ·simp only [oI]at D;subst D;exact Pa hop H u h
  ·exact eqs false rfl D
  ·exact eqs true rfl D
  ·cases D
 case unOp op t x=>subst hc;exact Aaq hop H u h
 case convert s d x=>
  rcases CV hc with ⟨k0,k,hs,hd,e⟩|⟨hs,hd,e⟩|⟨_,_,_,_,_,e⟩|⟨_,_,_,_,_,e⟩|⟨_,_,_,_,e⟩
  ·simp only [DQ.p.injEq]at e;subst e
   exact U0 hop H u hs hd h
  ·simp only [DQ.p.injEq]at e;subst e
   exact Us hop u hs hd h
  ·cases e
  ·cases e
  ·cases e
 case typeAssert x xt t ok=>
  obtain ⟨d,i,z,j,hd,J,N,e⟩:=Cv hc
  simp only [DQ.p.injEq]at e;subst e
  exact QB hop u j hd J N h
 case makeInterface t x=>
  split at hc
  ·cases hc
  ·rename_i d ai hd
   simp only [oI,DQ.p.injEq]at hc;subst hc
   simp only [I6,oI]at h;subst h
   exact Sy hop u (SP hd fun ms e=>ai ms (by rw [e]))
  ·cases hc
 case makeFunc fn x c=>
  cases fn<;>simp only [reduceCtorEq,oI,DQ.p.injEq]at hc
  subst hc
  simp only [I6,oI]at h;subst h
  exact Uz hop u
 case slice t x lo J mx=>
  split at hc
  ·rename_i j
   simp only [oI,DQ.p.injEq]at hc;subst hc
   exact Ur hop u j h
  ·rename_i e j
   obtain ⟨n,C,rfl⟩:=M8 hc
   have h:FY Γ tm n (ev tm (AJ x)) (lo.map AJ) (J.map AJ) none=some v:=h
   unfold FY at h
   split at h
   ·exact ML H hop u j C h
   ·exact Od hop u j C h
  ·rename_i e m j
   split at hc
   ·rename_i ah
    obtain ⟨n,C,rfl⟩:=M8 hc
    obtain ⟨J,rfl⟩:=Option.isSome_iff_exists.1 ah
    have h:FZ n (ev tm (AJ x)) (Cu tm 0 (lo.map AJ)) (fun d=>Cu tm d (some (AJ J))) (some (CN (ev tm (AJ m))))=some v:=by
     have h:FY Γ tm n (ev tm (AJ x)) (lo.map AJ) (some (AJ J)) (some (AJ m))=some v:=h
     unfold FY at h
     split at h
     ·rename_i e;simp at e
     ·exact h
    exact MM hop u j C h
   ·cases hc
  ·cases hc
 case fieldAddr t x f=>
  split at hc
  ·rename_i fs j
   obtain ⟨g,U,hc⟩:=Option.bind_eq_some_iff.1 hc
   split at hc
   ·rename_i n C
    simp only [oI,DQ.p.injEq]at hc;subst hc
    exact Q8 hop u j U C h
   ·cases hc
  ·cases hc
 case field t x f=>
  split at hc
  ·rename_i fs j
   obtain ⟨g,U,hc⟩:=Option.bind_eq_some_iff.1 hc
   obtain ⟨n,C,rfl⟩:=M8 hc
   exact Sz hop u j U C h
  ·cases hc
 case indexAddr t x i=>
  split at hc
  ·rename_i e j
   obtain ⟨n,C,rfl⟩:=M8 hc
   exact Uy H hop u j C h
  ·rename_i len e j
   obtain ⟨n,C,rfl⟩:=M8 hc
   exact Q7 hop u j C h
  ·cases hc
 case index t x i=>
  split at hc
  ·rename_i len e j
   split at hc
   ·rename_i n ag C ha
    simp only [oI,DQ.p.injEq]at hc;subst hc
    exact XO hop u j C ha h
   ·cases hc
  ·rename_i j
   simp only [oI,DQ.p.injEq]at hc;subst hc
   exact Ux hop u j h
  ·cases hc
 case extract x i=>subst hc;exact XP hop u h
 case call c=>
  unfold Fm at hc
  split at hc
  ·split at hc
   ·split at hc
    ·simp at hc
    ·split at hc
     ·split at hc<;>simp at hc
     ·split at hc
      ·split at hc<;>simp at hc
      ·cases hc
   ·cases hc
  ·simp at hc
  ·cases hc
  ·rename_i b hb
   split at hc
   ·rename_i x t e1 e2
    have Q:c.args=#[x]:=by rw [←Array.toList_inj];simpa using e1
    have et:c.argTypes=#[t]:=by rw [←Array.toList_inj];simpa using e2
    split at hc
    ·rename_i j
     simp only [oI,DQ.p.injEq]at hc;subst hc
     exact Uv H hop hb Q et u j h
    ·rename_i e j
     simp only [oI,DQ.p.injEq]at hc;subst hc
     exact Uw hop hb Q et u j h
    ·rename_i n e j
     simp only [oI,DQ.p.injEq]at hc;subst hc
     have h:some (lit .i64 (.ofNat n))=some v:=h
     simp only [oI]at h
     subst h
     exact ⟨.int .i64 n,by simp [execOp,hop,resolve,hb,Q,et,invoke,builtin,Builtin.len_,run_underlying j,goInt],by simp only [lit,Ae,ST.den];rfl⟩
    ·simp at hc
    ·cases hc
   ·exfalso
    unfold EU at hc
    split at hc<;>first|cases hc|skip
    all_goals (split at hc<;>first|(cases hc;done) |(split at hc<;>simp at hc))
   ·exfalso
    split at hc<;>first|(cases hc;done) |(obtain ⟨_,_,e⟩:=mS hc;cases e)
   ·simp only [oI,DQ.p.injEq]at hc;subst hc
    exact Pb H (most:=true) hop hb rfl u h
   ·simp only [oI,DQ.p.injEq]at hc;subst hc
    exact Pb H (most:=false) hop hb rfl u h
   ·simp at hc
   ·rename_i x e1
    have Q:c.args=#[x]:=by rw [←Array.toList_inj];simpa using e1
    simp only [oI,DQ.p.injEq]at hc;subst hc
    exact Sv hop hb Q u h
   ·exfalso
    split at hc
    ·split at hc<;>simp at hc
    ·cases hc
   ·cases hc
 case defer c=>
  obtain ⟨af,args,am⟩:=c
  cases af<;>simp at hc
 all_goals
  exfalso
  first
   |(cases hc;done)
   |(split at hc<;>first|(cases hc;done) |(simp at hc;done) |(obtain ⟨_,_,e⟩:=mS hc;cases e;done) |(split at hc<;>first|(cases hc;done) |(simp at hc;done) |(split at hc<;>first|(cases hc;done) |(simp at hc;done) |(obtain ⟨_,_,e⟩:=mS hc;cases e;done))))
   |(obtain ⟨_,_,e⟩:=mS hc;cases e;done)
end
end Go.AM
end
section
namespace Go.AM
section
variable {P:Program} {Γ:Ao} {ρ:Env} {μ:Aq} {tm:Tr Aa} {a:Act} {w:World} {h:Al}
theorem EV {o:Option Block} {vs:List Aa} (h:cellsOf o=some vs):o=some (.cells vs)∨∃e,o=some (.typed e vs):=by
 unfold cellsOf at h
 split at h
 ·simp only [oI]at h;rw [h];exact .inl rfl
 ·simp only [oI]at h;rw [h];exact .inr ⟨_,rfl⟩
 ·cases h
theorem JY {o:Option Block} {m:Nat×Nat} (h:bytesOf o=some m):o=some (.bytes m.1 m.2):=by
 unfold bytesOf at h
 split at h
 ·simp only [oI]at h;rw [←h]
 ·cases h
theorem DF {o:Option Block} {m:List Entry×Nat} (h:mapOf o=some m):o=some (.map m.1 m.2):=by
 unfold mapOf at h
 split at h
 ·simp only [oI]at h;rw [←h]
 ·cases h
theorem AO.cells (H:AO ρ μ h w) {b:Nat} {vs:List Aa} (hb:cellsOf (h.get b)=some vs):∃r δ m c e,μ b=some (r,δ,m)∧w.heap[r]?=some (.cells c e (0,0))∧δ+m≤c.size∧
  ∀(i:Nat) (x:Aa),vs[i]?=some x→∃v,c[δ+i]?=some v∧x.single=true∧Ae ρ μ x v:=by
 rcases EV hb with hb|⟨t,hb⟩
 ·obtain ⟨r,⟨δ,m⟩,j,c,e,g,d,hc⟩:=H.blk b _ hb
  exact ⟨r,δ,m,c,e,j,g,d,hc⟩
 ·obtain ⟨r,⟨δ,m⟩,j,c,g,_,d,hc⟩:=H.blk b _ hb
  exact ⟨r,δ,m,c,_,j,g,d,hc⟩
theorem Lo {o:Option Block} {vs:List Aa} (h:cellsOf o=some vs):∃B,o=some B:=by
 rcases EV h with h|⟨_,h⟩<;>exact ⟨_,h⟩
theorem AO.map (H:AO ρ μ h w) {b:Nat} {c:List Entry} {k:Nat} (hb:h.get b=some (.map c k)):∃r ms,μ b=some (r,0,0)∧w.heap[r]?=some (.map ms k)∧Cb ρ μ c ms.toList:=by
 obtain ⟨r,δ,g,rfl,ms,d,hc⟩:=H.blk b _ hb
 exact ⟨r,ms,g,d,hc⟩
theorem Cz {r j:Nat} {c:Array Value} {e:TypeId} {fr:Nat×Nat} (d:w.heap[r]?=some (.cells c e fr)):w.cell? ⟨r,j,none⟩=c[j]?:=cell_of_row w r j c e fr d
theorem DM {vs r:List Aa} {c:Array Value} {δ i n:Nat} (hc:∀(i:Nat) (x:Aa),vs[i]?=some x→∃v,c[δ+i]?=some v∧x.single=true∧Ae ρ μ x v) (h:cut vs i n=some r):
  ∃l:List Value,l.length=n∧Ax ρ μ r l∧∀j v,l[j]?=some v→c[δ+i+j]?=some v:=by
 obtain ⟨o,k,y⟩:=JX h
 rcases k with rfl|k
 ·exact ⟨[],rfl,by rw [List.eq_nil_of_length_eq_zero o];simp only [Ax],fun j v d=>by simp at d⟩
 have q:∀j,j<n→∃v,c[δ+i+j]?=some v:=fun j z=>by
  obtain ⟨x,g⟩:∃x,vs[i+j]?=some x:=⟨_,List.getElem?_eq_getElem (by omega)⟩
  obtain ⟨v,d,_⟩:=hc _ _ g
  exact ⟨v,by rw [Nat.add_assoc];exact d⟩
 have A:δ+i+n≤c.size∨n=0:=by
  rcases Nat.eq_zero_or_pos n with h0|h0
  ·exact .inr h0
  ·left
   obtain ⟨v,d⟩:=q (n-1) (by omega)
   have:=(Array.getElem?_eq_some_iff.1 d).1
   omega
 refine ⟨(c.extract (δ+i) (δ+i+n)).toList,?_,?_,fun j v d=>?_⟩
 ·rw [Array.length_toList,Array.size_extract];omega
 ·refine Ax.Kt ?_ fun j x g=>?_
  ·rw [o,Array.length_toList,Array.size_extract];omega
  ·rw [y]at g
   split at g
   ·rename_i z
    obtain ⟨v,d,hs,u⟩:=hc _ _ g
    refine ⟨v,?_,hs,u⟩
    rw [Array.getElem?_toList,Array.getElem?_extract,if_pos (by omega),Nat.add_assoc]
    exact d
   ·cases g
 ·rw [Array.getElem?_toList,Array.getElem?_extract]at d
  split at d
  ·exact d
  ·cases d
theorem IV {t:TypeId} {n:Option Nat} (J:Ee P t=some n) {vs:List Aa} {r δ g:Nat} {c:Array Value} {e:TypeId} {fr:Nat×Nat} (o:w.heap[r]?=some (.cells c e fr))
  (hc:∀(i:Nat) (x:Aa),vs[i]?=some x→∃v,c[δ+i]?=some v∧x.single=true∧Ae ρ μ x v) {v:Aa} (hl:JB vs g n=some v):
  ∃C,(Instr.loadAt t (.pointer (some ⟨r,δ+g,none⟩))).run P w=.ok C w∧Ae ρ μ v C:=by
 obtain ⟨z,D⟩:=E2 P w t J
 unfold JB at hl
 cases n with
 |none=>
  simp only at hl
  rw [Kv]at hl
  obtain ⟨u,H,_,M⟩:=hc _ _ hl
  refine ⟨u,?_,M⟩
  simp [Instr.loadAt,Instr.sureAddr,loadVar,z,run_load,Cz o,H]
 |some n=>
  simp only at hl
  obtain ⟨O,A,hl⟩:=Ab hl
  simp only [oI]at hl
  subst hl
  obtain ⟨l,y,q,k⟩:=DM hc A
  have d:=run_loadCells_list (P:=P) (w:=w) ⟨r,δ+g,none⟩ l (fun j v N=>by rw [Addr.Bl,Cz o];exact k j v N)
  rw [y]at d
  refine ⟨.agg l.toArray,?_,?_⟩
  ·simp [Instr.loadAt,Instr.sureAddr,loadVar,z,D n rfl,d]
  ·simp only [Ae];exact ⟨_,rfl,by simpa using q⟩
theorem Di {o:Option Block} {l:Nat×Nat} (h:MD o=some l):o=some (.list l.1 l.2):=by
 unfold MD at h
 split at h
 ·simp only [oI]at h;rw [←h]
 ·cases h
theorem MB {Γ:Ao} (hΓ:Γ.AL ρ) (H:AO ρ μ h w) {t:TypeId} {n:Option Nat} (M:Ee P t=some n) {x v:Aa} {u:Value} (N:Ae ρ μ x u) (hl:MC Γ h n x=some v):
  ∃v',(Instr.loadAt t u).run P w=.ok v' w∧Ae ρ μ v v':=by
 unfold MC at hl
 split at hl
 ·rename_i b es j C
  obtain ⟨vs,d,ab⟩:=Ab hl
  unfold elemV at d
  obtain ⟨⟨li,A⟩,ae,Q⟩:=Ab d
  obtain ⟨y,U⟩:=Ap Q
  have y:A=es:=An.1 y
  subst y
  obtain ⟨r,m,O,rfl,z⟩:=N.vptr
  obtain ⟨r1,⟨δ1,m1⟩,k,c0,ty,J,h0,_,_,_,_,R⟩:=H.blk b _ (Di ae)
  rw [O]at k
  simp only [oI,Prod.mk.injEq]at k
  obtain ⟨rfl,rfl,rfl⟩:=k
  have R:BU μ.Bf A c0 0 (ρ.lst li):=R
  obtain ⟨q,k1,g,D⟩:=hΓ.elems _ (Ik U)
  have g:(ρ.lst li)[(j.den ρ).toNat]?=some q:=g
  have Z:=(R.get _ _ g).2
  rw [Nat.zero_add]at Z
  exact IV M J (AW.Tn D Z).2 ab
 ·rename_i i j C
  obtain ⟨vs,d,hl⟩:=Ab hl
  obtain ⟨r,δ,c,e,ps,rfl,z,h2,h3,h4⟩:=N.lptr
  obtain ⟨q,k1,g,D⟩:=hΓ.elems _ (Ik d)
  have g:(ρ.lst i)[(j.den ρ).toNat]?=some q:=g
  rw [h3]at g
  simp only [oI]at g
  subst g
  obtain ⟨_,z⟩:=z
  exact IV M (H.AY.Bf _ _ z).1 (AW.Tn D h4).2 hl
 ·rename_i b C
  obtain ⟨vs,d,hl⟩:=Ab hl
  obtain ⟨r,δ,m,c,e,O,ho,_,hc⟩:=H.cells d
  obtain ⟨r',δ',m',o,rfl⟩:=N.ptr
  rw [O]at o
  simp only [oI,Prod.mk.injEq]at o
  obtain ⟨rfl,rfl,rfl⟩:=o
  exact IV M ho hc hl
 ·cases hl
theorem OW {t:TypeId} {kk:LK} (h:XK P t=some kk):∃d,P.underlying t=some d∧kk.fits d:=by
 unfold XK at h
 split at h<;>first|cases h|skip
 ·rename_i c;exact ⟨_,c,rfl⟩
 ·rename_i c;exact ⟨_,c,_,rfl⟩
 ·rename_i c;exact ⟨_,c,rfl⟩
theorem NT {kk:LK} {d:TypeDesc} (c:kk.fits d) {x y:Aa} {u v:Value} (j:Ae ρ μ x u) (g:Ae ρ μ y v) {b:Bool} (h:OX kk x y=some b):Instr.sameNow d u v=some b:=by
 unfold OX at h
 split at h
 ·obtain ⟨i,rfl⟩:=c
  obtain ⟨e,k⟩:=Ap h
  simp only [oI]at k
  rw [j.int,g.int,Dt.1 e,←k,Q3]
  simp [Instr.sameNow,ST.den]
 ·have c:d=.string:=c
  subst c
  simp only [oI]at h
  obtain ⟨s,rfl,o⟩:=j.str
  obtain ⟨z,rfl,q⟩:=g.str
  rw [←h,←o,←q,CT,←beq_toListBytes]
  simp [Instr.sameNow]
 ·have c:d=.bool:=c
  subst c
  simp only [oI]at h
  rw [j.bool,g.bool,←h,beq_eq]
  simp [Instr.sameNow,SB.den]
 ·cases h
theorem Ml {Γ:Ao} (z:Γ.AL ρ) {kk:LK} {d:TypeDesc} (c:kk.fits d) {x y:Aa} {u v:Value} (j:Ae ρ μ x u) (g:Ae ρ μ y v) {b:Bool} (h:Je Γ kk x y=some b):Instr.sameNow d u v=some b:=by
 unfold Je at h
 split at h
 ·rename_i M m P Q
  obtain ⟨i,rfl⟩:=c
  obtain ⟨q,k⟩:=Ap h
  clear h
  have A:=Dt.1 q
  subst A
  have hc:=(CU z (OV k)).1
  rw [j.int,g.int]
  simp only [SB.den,ED]at hc
  simp [Instr.sameNow,hc]
 ·have c:d=.bool:=c
  subst c
  simp only [oI]at h
  rw [j.bool,g.bool,←h,beq_eq]
  simp [Instr.sameNow,SB.den]
 ·have c:d=.string:=c
  subst c
  simp only [oI]at h
  obtain ⟨s,rfl,C⟩:=j.str
  obtain ⟨N,rfl,D⟩:=g.str
  rw [←h,←C,←D,CT,←beq_toListBytes]
  simp [Instr.sameNow]
 all_goals first
  |(cases h;done)
  |(have c:d=.string:=c
    subst c
    obtain ⟨s,O,H,k,o⟩:=z.strs _ (Gc h)
    obtain ⟨J,rfl,rfl⟩:=BW H j
    obtain ⟨b2,rfl,rfl⟩:=BW k g
    have o:b=decide (strOf J=strOf b2):=o
    simp only [Instr.sameNow]
    rw [beq_toListBytes,o,←beq_toListBytes]
    congr 1
    rw [beq_toListBytes,Bool.eq_iff_iff,←CT,DD];simp)
theorem GG {kk:LK} {d:TypeDesc} {t:TypeId} (g:P.underlying t=some d) (c:kk.fits d) (j:Bool) (n:Nat) (u:Value):(Instr.checkKey j (n+1) t u).run P w=.ok () w:=by
 cases kk
 ·have c:d=.bool:=c
  subst c
  cases u<;>simp [Instr.checkKey,run_underlying g]
 ·obtain ⟨i,rfl⟩:=c
  cases u<;>simp [Instr.checkKey,run_underlying g]
 ·have c:d=.string:=c
  subst c
  cases u<;>simp [Instr.checkKey,run_underlying g]
theorem Li {Γ:Ao} (D:Γ.AL ρ) {kk:LK} {d:TypeDesc} (A:kk.fits d) {x:Aa} {u:Value} (z:Ae ρ μ x u):∀{k:List Entry} {ms:List MapEntry} {r:Option Aa} (n:Nat),Cb ρ μ k ms→Aaw Γ kk x k=some r→
  ∃c,Instr.findNow d u ms n=some c∧(match r with|none=>c=none|some v=>∃i C,c=some (i,C)∧Ae ρ μ v C)
 |[],ms,r,n,he,h=>by
  simp only [Cb]at he
  subst he
  have h:some none=some r:=h
  simp only [oI]at h
  subst h
  exact ⟨none,rfl,rfl⟩
 |e::k,ms,r,n,he,h=>by
  simp only [Cb]at he
  obtain ⟨m,rest,rfl,⟨hs,y,q,_⟩,j⟩:=he
  have h:(AG (Je Γ kk x e.key) fun b=>bif b then some (some e.val)else Aaw Γ kk x k)=some r:=h
  obtain ⟨b,hb,g⟩:=Ab h
  have o:=Ml D A z y hb
  cases b with
  |true=>
   simp only [cond_true,oI]at g
   subst g
   exact ⟨some (n,m.val),by simp [Instr.findNow,o],n,m.val,rfl,q⟩
  |false=>
   simp only [cond_false]at g
   obtain ⟨c,J,H⟩:=Li D A z (n+1) j g
   exact ⟨c,by simp [Instr.findNow,o,J],H⟩
theorem run_findKey {t:TypeId} {d:TypeDesc} (c:P.underlying t=some d) {u:Value} {ms:List MapEntry} {r:Option (Nat×Value)} (h:Instr.findNow d u ms 0=some r):(Instr.findKey t u ms).run P w=.ok r w:=by
 simp [Instr.findKey,run_underlying c,h]
theorem HB {ok b:Bool} {v:Aa} {u:Value} (c:Ae ρ μ v u):Ae ρ μ (U2 ok v b) (if ok then .tuple #[u,.bool b]else u):=by
 unfold U2
 cases ok
 ·exact c
 ·simp only [cond_true,if_true,Ae]
  exact ⟨_,rfl,by simp only [A9];exact ⟨_,_,rfl,c,_,_,rfl,by simp only [Ae,SB.den],rfl⟩⟩
theorem E6 {o:Option Block} {i:Nat} (h:IN o=some i):o=some (.smap i):=by
 unfold IN at h
 split at h
 ·simp only [oI]at h;rw [h]
 ·cases h
theorem KV {kk:LK} {x:Aa} (h:P5 kk x=true):kk=.str∧∃s,Eo ρ x=some s:=by
 unfold P5 at h
 split at h
 ·exact ⟨rfl,_,rfl⟩
 ·exact ⟨rfl,_,rfl⟩
 ·cases h
theorem Lh {Bf:Nat→Option Obj} {b:ByteArray}:∀{l:List (List Nat×List PV)} {ms:List MapEntry} (n:Nat),Jm Bf l ms→
  ∃d,Instr.findNow .string (.string b) ms n=some d∧(match BO l (strOf b)with|none=>d=none|some ps=>∃i a,d=some (i,.agg a)∧a.size=ps.length∧AW Bf a 0 ps)
 |[],ms,n,c=>by
  have c:ms=[]:=c
  subst c
  exact ⟨none,rfl,rfl⟩
 |e::es,ms,n,c=>by
  obtain ⟨m,rest,rfl,⟨u,q,o⟩,⟨a,ha,hs,x⟩,g⟩:=c
  have j:Instr.sameNow .string (.string b) m.key=some (decide (strOf b=e.1)):=by
   rw [q,←o]
   have:decide (strOf b=strOf u)=(b.toList==u.toList):=by rw [←CT,Bool.eq_iff_iff,DD];simp
   rw [this,←beq_toListBytes]
   simp [Instr.sameNow]
  by_cases hc:e.1=strOf b
  ·refine ⟨some (n,m.val),by simp [Instr.findNow,j,hc],?_⟩
   simp only [BO,hc,if_true]
   exact ⟨n,a,by rw [ha],hs,x⟩
  ·have k:¬strOf b=e.1:=fun h=>hc h.symm
   obtain ⟨d,y,v⟩:=Lh (b:=b) (n+1) g
   refine ⟨d,by simp [Instr.findNow,j,k,y],?_⟩
   simp only [BO,if_neg hc]
   exact v
theorem AO.smap (H:AO ρ μ h w) {b i:Nat} (hb:h.get b=some (.smap i)):∃r ms c,μ b=some (r,0,0)∧w.heap[r]?=some (.map ms c)∧Jm μ.Bf (ρ.map i) ms.toList:=by
 obtain ⟨r,δ,g,rfl,ms,c,d,hc⟩:=H.blk b _ hb
 exact ⟨r,ms,c,g,d,hc⟩
theorem Qv {Γ:Ao} (hΓ:Γ.AL ρ) (H:AO ρ μ h w) {t Q e:TypeId} {kk:LK} {i:TypeInfo} {z:Value} (C:P.underlying t=some (.map Q e)) (hk:XK P Q=some kk) (hi:P.info? e=some i) (hz:i.zero=some z) {m k v:Aa} {um D:Value} {ok:Bool}
  (hm:Ae ρ μ m um) (Z:Ae ρ μ k D) (hl:WE Γ h kk m k (GK z) ok=some v):∃v',(Instr.lookup t um D ok).run P w=.ok v' w∧Ae ρ μ v v':=by
 obtain ⟨d,hd,hf⟩:=OW hk
 have J:(zeroValue e).run P w=.ok z w:=by simp [zeroValue,typeInfo,hi,hz]
 have q:∀em,(Instr.checkKey em 10000 Q D).run P w=.ok () w:=fun em=>GG hd hf em 9999 D
 unfold WE at hl
 split at hl
 ·have y:um=.map none:=by simpa only [Ae]using hm
  simp only [oI]at hl
  subst hl
  refine ⟨_,?_,HB (Dm z)⟩
  have j:(Instr.findKey Q D []).run P w=.ok none w:=run_findKey hd rfl
  simp [Instr.lookup,run_underlying C,y,q,j,J]
 ·rename_i b
  unfold Uh at hl
  split at hl
  ·rename_i i' am
   obtain ⟨an,R⟩:=Ap hl
   clear hl
   obtain ⟨rfl,s,hs⟩:=KV (ρ:=ρ) an
   have hf:d=.string:=hf
   subst hf
   obtain ⟨kb,rfl,rfl⟩:=BW hs Z
   obtain ⟨g,ms,O,hg,ho,he⟩:=H.smap (E6 am)
   obtain ⟨g',c,y⟩:=hm.NW
   rw [hg]at c
   simp only [oI,Prod.mk.injEq]at c
   obtain ⟨rfl,_⟩:=c
   obtain ⟨r',h1,o⟩:=Lh (b:=kb) 0 he
   have j:=run_findKey (P:=P) (w:=w) hd h1
   have x:(getObj g).run P w=.ok (.map ms O) w:=by simp [getObj,Sem.run,ho]
   unfold Adw at R
   obtain ⟨r,hr,A⟩:=Ab R
   obtain ⟨s',M,N⟩:=hΓ.looks _ (OR hr)
   have M:Eo ρ k=some s':=M
   rw [hs]at M
   simp only [oI]at M
   subst M
   cases r with
   |none=>
    simp only at N
    rw [N]at o
    simp only at o
    subst o
    simp only [oI]at A
    subst A
    refine ⟨_,?_,HB (Dm z)⟩
    simp [Instr.lookup,run_underlying C,y,x,q,j,J]
   |some cs=>
    obtain ⟨ps,N,q3⟩:=N
    rw [N]at o
    obtain ⟨aD,U,rfl,k1,k2⟩:=o
    simp only [oI]at A
    subst A
    refine ⟨_,?_,HB (u:=.agg U) (by simp only [Ae];exact ⟨U,rfl,AW.cs q3 k2 k1⟩)⟩
    simp [Instr.lookup,run_underlying C,y,x,q,j]
  rename_i aE
  obtain ⟨mm,aj,hl⟩:=Ab hl
  obtain ⟨r,hr,hl⟩:=Ab hl
  simp only [oI]at hl
  subst hl
  obtain ⟨g,ms,hg,ho,he⟩:=H.map (DF aj)
  obtain ⟨g',c,y⟩:=hm.NW
  rw [hg]at c
  simp only [oI,Prod.mk.injEq]at c
  obtain ⟨rfl,_⟩:=c
  obtain ⟨r',h1,o⟩:=Li hΓ hf Z 0 he hr
  have j:=run_findKey (P:=P) (w:=w) hd h1
  have x:(getObj g).run P w=.ok (.map ms mm.2) w:=by simp [getObj,Sem.run,ho]
  cases r with
  |none=>
   simp only at o
   subst o
   refine ⟨_,?_,HB (Dm z)⟩
   simp [Instr.lookup,run_underlying C,y,x,q,j,J]
  |some v=>
   obtain ⟨i',v',rfl,al⟩:=o
   refine ⟨_,?_,HB al⟩
   simp [Instr.lookup,run_underlying C,y,x,q,j]
 ·cases hl
theorem OZ {e n:Nat}:∀{l:List (Nat×Nat)},Sr e n l=true→(e,n)∈l
 |[],h=>by cases h
 |x::r,h=>by
  have h:((Nat.beq x.1 e&&Nat.beq x.2 n) ||Sr e n r)=true:=h
  rw [Bool.or_eq_true,aT]at h
  rcases h with ⟨h1,h2⟩|h
  ·have c:=An.1 h1
   have d:=An.1 h2
   subst c d
   exact List.mem_cons_self
  ·exact List.mem_cons_of_mem _ (OZ h)
theorem KP {p:TypeId→Nat→Bool} {e n:Nat} (h:Sr e n (Hq P p)=true):1≤n∧p e n=true:=by
 have h:=OZ h
 unfold Hq at h
 rw [List.mem_filterMap]at h
 obtain ⟨c,_,h⟩:=h
 split at h
 ·split at h
  ·rename_i i d
   split at h
   ·rename_i hc
    simp only [oI,Prod.mk.injEq]at h
    obtain ⟨rfl,rfl⟩:=h
    rw [aT]at hc
    exact ⟨AX.1 hc.1,hc.2⟩
   ·cases h
  ·cases h
 ·cases h
theorem LQ (H:AO ρ μ h w) {ok:List (Nat×Nat)} {x v:Aa} {u:Value} (q:Ae ρ μ x u) (d:Oy h ok x=some v):
  ∃r c e,u=.pointer (some ⟨r,0,none⟩)∧Ae ρ μ v u∧w.heap[r]?=some (.cells c e (0,0))∧Sr e c.size ok=true:=by
 unfold Oy at d
 split at d
 ·rename_i b
  unfold Y2 at d
  split at d
  ·rename_i e vs hb
   obtain ⟨j,d⟩:=Ap d
   simp only [oI]at d
   subst d
   have k:=q
   obtain ⟨r,⟨δ,m⟩,C,c,y,⟨A,o⟩,_⟩:=H.blk b _ hb
   obtain ⟨J,D,M,g,z⟩:=q.ptr
   rw [C]at g
   simp only [oI,Prod.mk.injEq]at g
   obtain ⟨rfl,rfl,rfl⟩:=g
   subst A
   rw [JG,←o]at j
   exact ⟨r,c,e,z,k,y,j⟩
  ·cases d
 ·cases d
theorem run_shape {r:Nat} {c:Array Value} {e:TypeId} {fr:Nat×Nat} (d:w.heap[r]?=some (.cells c e fr)):(shape r).run P w=.ok (some (e,c.size)) w:=by
 simp [shape,Sem.run,World.shape?,d]
theorem TN {r:Nat} {c:Array Value} {e:TypeId} {fr:Nat×Nat} (d:w.heap[r]?=some (.cells c e fr)):(viewAt r).run P w=.ok none w:=by
 simp [viewAt,run_shape d]
theorem Mm {r k:Nat} {c:Array Value} {e:TypeId} {fr:Nat×Nat} (d:w.heap[r]?=some (.cells c e fr)):(Conv.seenAt ⟨r,k,none⟩).run P w=.ok ⟨r,k,none⟩ w:=by
 simp [Conv.seenAt,TN d]
theorem MK (H:AO ρ μ h w) {o:Oper} {s d t:TypeId} {x:Operand} (y:o.op=.convert s d x) (z:Be ρ μ tm a) (hs:P.underlying s=some (.pointer t)) (hd:P.underlying d=some .unsafePointer) {n:Nat} (D:Bj P t=some (n+1))
  {v:Aa} (M:Oy h (Hq P fun _ _=>true) (ev tm (AJ x))=some v):Bx P ρ μ a o w v:=by
 obtain ⟨r,c,e,j,C,g,A⟩:=LQ H (Au z x) M
 obtain ⟨J,_⟩:=KP A
 refine ⟨a.eval x,?_,C⟩
 have u:=B5 (w:=w) D
 have q:(cellsIn r).run P w=.ok (some c.size) w:=by simp [cellsIn,run_shape g]
 have k:c≠#[]:=by rintro rfl;simp at J
 have hc:¬c.size=0:=by omega
 rw [j]
 simp [execOp,y,j,Go.convert,run_underlying hs,run_underlying hd,Conv.unsafePointer,Mm g,u,q,k,hc]
theorem K5 (H:AO ρ μ h w) {o:Oper} {s d u:TypeId} {x:Operand} (z:o.op=.convert s d x) (C:Be ρ μ tm a) (hs:P.underlying s=some .unsafePointer) (hd:P.underlying d=some (.pointer u)) {n:Nat} (M:Bj P u=some n)
  {v:Aa} (N:Oy h (Hq P fun e n=>liesAt P P.depth e (n/P.cellsOf e) 0 u 1) (ev tm (AJ x))=some v):Bx P ρ μ a o w v:=by
 obtain ⟨r,c,e,k,J,g,D⟩:=LQ H (Au C x) N
 obtain ⟨_,A⟩:=KP D
 refine ⟨a.eval x,?_,J⟩
 have y:=B5 (w:=w) M
 have q:w.shape? r=some (e,c.size):=by simp [World.shape?,g]
 have j:(variablesAt ⟨r,0,none⟩ u 1).run P w=.ok true w:=by simp [variablesAt,q,A]
 rw [k]
 simp [execOp,z,k,Go.convert,run_underlying hs,run_underlying hd,Conv.unsafePointer,Mm g,y,j]
theorem Y5 {v:Aa} {n:Nat} (h:u8A v=some n):n≤255∧v=.int .u8 (.lit (.ofNat n)):=by
 unfold u8A at h
 split at h
 ·obtain ⟨d,c⟩:=Ap h
  simp only [oI]at c
  subst c
  exact ⟨AX.1 d,rfl⟩
 ·cases h
theorem Rw:∀{cs:List Aa} {s:List Nat} {l:List Value},AdU cs=some s→Ax ρ μ cs l→l=s.map (fun n:Nat=>.int .u8 (n:Int))∧∀n∈s,n≤255
 |[],s,l,h,hr=>by
  have h:some []=some s:=h
  simp only [oI]at h
  subst h
  simp only [Ax]at hr
  subst hr
  exact ⟨rfl,fun n d=>by cases d⟩
 |v::cs,s,l,h,hr=>by
  have h:(AG (u8A v) fun n=>AG (AdU cs) fun l=>some (n::l))=some s:=h
  obtain ⟨n,d,y⟩:=Ab h
  obtain ⟨t,x,j⟩:=Ab y
  simp only [oI]at j
  subst j
  obtain ⟨k,rfl⟩:=Y5 d
  simp only [Ax]at hr
  obtain ⟨u,rest,rfl,⟨_,q⟩,c⟩:=hr
  obtain ⟨o,z⟩:=Rw x c
  have:=q.int
  refine ⟨by rw [this,o];rfl,fun m g=>?_⟩
  rcases List.mem_cons.1 g with rfl|g
  ·exact k
  ·exact z m g
theorem TO (s:List Nat) (d:ByteArray):
  (forIn (m:=Sem) (s.map fun n:Nat=>Value.int .u8 (n:Int)) d fun c r=>match c with
   |.int .u8 n=>do pure PUnit.unit;pure (ForInStep.yield (r.push (UInt8.ofNat n.toNat)))
   |_=>do stuck "bytesToString: byte expected";pure (ForInStep.yield r)).run P w=.ok (s.foldl (fun r n=>r.push (UInt8.ofNat n)) d) w:=by
 induction s generalizing d with
 |nil=>simp
 |cons n s ih=>simp [ih]
theorem P4 (s:List Nat) (hs:∀n∈s,n≤255):∀c:ByteArray,strOf (s.foldl (fun r n=>r.push (UInt8.ofNat n)) c)=strOf c++s:=by
 induction s with
 |nil=>intro c;simp
 |cons n s ih=>
  intro c
  rw [List.foldl_cons,ih fun m d=>hs m (List.mem_cons_of_mem _ d)]
  have g:=hs n List.mem_cons_self
  have:strOf (c.push (UInt8.ofNat n))=strOf c++[n]:=by
   unfold strOf
   simp [ByteArray.push]
   omega
  rw [this];simp
theorem U1 (H:AO ρ μ h w) {o:Oper} {s d e:TypeId} {x:Operand} (O:o.op=.convert s d x) (hT:Be ρ μ tm a) (hs:P.underlying s=some (.slice e)) (M:P.underlying e=some (.int .u8)) (hd:P.underlying d=some .string)
  {v:Aa} (k:Xc h (ev tm (AJ x))=some v):Bx P ρ μ a o w v:=by
 have y:=Au hT x
 have key:∀(b g len r δ m c:Nat),N1 h b g len=some v→μ b=some (r,δ,m)→a.eval x=.slice (some ⟨r,δ+g,none⟩) len c→Bx P ρ μ a o w v:=fun b g len r δ m c u D q=>by
  unfold N1 at u
  rw [AP]at u
  by_cases h0:len=0
  ·rw [if_pos h0]at u
   simp only [oI]at u
   subst u
   subst h0
   refine ⟨.string .empty,?_,by simp only [Ae];exact ⟨_,rfl,rfl⟩⟩
   simp [execOp,O,q,Go.convert,run_underlying hs,run_underlying hd,run_underlying M,Conv.bytesToString,loadCells,loadCellsFrom]
  ·rw [if_neg h0]at u
   obtain ⟨vs,U,Z⟩:=Ab u
   obtain ⟨cs,ac,R⟩:=Ab Z
   obtain ⟨t,ht,J⟩:=Ab R
   simp only [oI]at J
   subst J
   obtain ⟨r2,δ2,m2,c2,z,A,N,_,hc⟩:=H.cells U
   rw [D]at A
   simp only [oI,Prod.mk.injEq]at A
   obtain ⟨rfl,rfl,rfl⟩:=A
   obtain ⟨l,ab,Q,aa⟩:=DM hc ac
   have C:=run_loadCells_list (P:=P) (w:=w) ⟨r,δ+g,none⟩ l (fun j v k=>by rw [Addr.Bl,Cz N];exact aa j v k)
   rw [ab]at C
   obtain ⟨k1,k2⟩:=Rw ht Q
   subst k1
   refine ⟨.string (t.foldl (fun r n=>r.push (UInt8.ofNat n)) .empty),?_,by simp only [Ae];exact ⟨_,rfl,by rw [P4 t k2];rfl⟩⟩
   have hp:=TO (P:=P) (w:=w) t .empty
   simp [execOp,O,q,Go.convert,run_underlying hs,run_underlying hd,run_underlying M,Conv.bytesToString,C,hp]
 unfold Xc at k
 split at k
 ·rename_i q
  rw [q]at y
  have z:a.eval x=.slice none 0 0:=by simpa only [Ae]using y
  simp only [oI]at k
  subst k
  refine ⟨.string .empty,?_,by simp only [Ae];exact ⟨_,rfl,rfl⟩⟩
  simp [execOp,O,z,Go.convert,run_underlying hs,run_underlying hd,run_underlying M,Conv.bytesToString]
 ·rename_i b g len c q
  rw [q]at y
  obtain ⟨r,δ,m,D,z,_⟩:=y.slice
  exact key _ _ _ _ _ _ _ k D z
 ·rename_i b g len es q
  rw [q]at y
  obtain ⟨r,δ,m,cap,D,z,_⟩:=y.gslice
  exact key _ _ _ _ _ _ _ k D z
 ·cases k
theorem Cb.length:∀{c:List Entry} {ms:List MapEntry},Cb ρ μ c ms→c.length=ms.length
 |[],_,e=>by simp only [Cb]at e;rw [e];rfl
 |_::_,_,e=>by
  simp only [Cb]at e
  obtain ⟨v,rest,rfl,_,h⟩:=e
  simp [Cb.length h]
theorem Mu {Γ:Ao} (hΓ:Γ.AL ρ) (H:AO ρ μ h w) (A:Be ρ μ tm a) {pl:List C3} {o:Oper} {q:NM} (hc:D9 P pl o=some (.r q)) {v:Aa} (j:D0 Γ tm h q=some v):Bx P ρ μ a o w v:=by
 cases hop:o.op<;>simp only [D9,hop,reduceCtorEq,oI]at hc
 case load t x=>
  obtain ⟨n,J,e⟩:=mS hc
  simp only [DQ.r.injEq]at e
  subst e
  obtain ⟨v',U,N⟩:=MB hΓ H J (Au A x) j
  exact ⟨v',by simp [execOp,hop,U],N⟩
 case lookup t x k ok=>
  split at hc
  ·rename_i kt e D
   split at hc
   ·rename_i i kk O hk
    obtain ⟨z,hz,e⟩:=mS hc
    simp only [DQ.r.injEq]at e
    subst e
    obtain ⟨v',U,N⟩:=Qv hΓ H D hk O hz (Au A x) (Au A k) j
    exact ⟨v',by simp [execOp,hop,U],N⟩
   ·cases hc
  ·cases hc
 case call c=>
  unfold Fm at hc
  split at hc
  ·split at hc
   ·split at hc
    ·simp at hc
    ·split at hc
     ·split at hc<;>simp at hc
     ·split at hc
      ·split at hc<;>simp at hc
      ·cases hc
   ·cases hc
  ·simp at hc
  ·cases hc
  ·rename_i b hb
   split at hc
   ·rename_i x t e1 e2
    have ea:c.args=#[x]:=by rw [←Array.toList_inj];simpa using e1
    have et:c.argTypes=#[t]:=by rw [←Array.toList_inj];simpa using e2
    split at hc
    ·simp at hc
    ·simp at hc
    ·simp at hc
    ·rename_i kt e D
     simp only [oI,DQ.r.injEq]at hc;subst hc
     have M:=Au A x
     have j:WG h (ev tm (AJ x))=some v:=j
     unfold WG at j
     split at j
     ·rename_i Z
      rw [Z]at M
      have R:a.eval x=.map none:=by simpa only [Ae]using M
      simp only [oI]at j
      subst j
      exact ⟨.int .i64 0,by simp [execOp,hop,resolve,hb,ea,et,invoke,builtin,Builtin.len_,run_underlying D,goInt,R],by simp only [lit,Ae,ST.den];rfl⟩
     ·rename_i bb Z
      rw [Z]at M
      obtain ⟨g,hg,R⟩:=M.NW
      obtain ⟨mm,ad,j⟩:=Ab j
      simp only [oI]at j
      subst j
      obtain ⟨g',ms,C,ho,Q⟩:=H.map (DF ad)
      rw [hg]at C
      simp only [oI,Prod.mk.injEq]at C
      obtain ⟨rfl,_⟩:=C
      have ag:(getObj g).run P w=.ok (.map ms mm.2) w:=by simp [getObj,Sem.run,ho]
      have hl:AcR mm.1=ms.size:=by rw [WQ];simpa using Q.length
      exact ⟨.int .i64 ms.size,by simp [execOp,hop,resolve,hb,ea,et,invoke,builtin,Builtin.len_,run_underlying D,goInt,R,ag],by simp only [lit,Ae,ST.den];rw [hl];rfl⟩
     ·cases j
    ·cases hc
   ·exfalso
    unfold EU at hc
    split at hc<;>first|cases hc|skip
    all_goals (split at hc<;>first|(cases hc;done) |(split at hc<;>simp at hc))
   ·exfalso
    split at hc<;>first|(cases hc;done) |(obtain ⟨_,_,e⟩:=mS hc;cases e)
   ·simp at hc
   ·simp at hc
   ·simp at hc
   ·simp at hc
   ·exfalso
    split at hc
    ·split at hc<;>simp at hc
    ·cases hc
   ·cases hc
 case convert s d x=>
  rcases CV hc with ⟨k0,k,hs,hd,e⟩|⟨hs,hd,e⟩|⟨t,n,hs,hd,J,e⟩|⟨u,n,hs,hd,J,e⟩|⟨el,hs,Q,hd,e⟩
  ·cases e
  ·cases e
  ·simp only [DQ.r.injEq]at e;subst e
   exact MK H hop A hs hd J j
  ·simp only [DQ.r.injEq]at e;subst e
   exact K5 H hop A hs hd J j
  ·simp only [DQ.r.injEq]at e;subst e
   exact U1 H hop A hs Q hd j
 case typeAssert x xt t ok=>
  obtain ⟨d,i,z,D,hd,O,hz,e⟩:=Cv hc
  cases e
 case defer c=>
  obtain ⟨ac,args,ap⟩:=c
  cases ac<;>simp at hc
 case makeFunc fn x c=>cases fn<;>simp at hc
 case binOp op t x y yt=>obtain ⟨_,_,e⟩:=mS hc;cases e
 case slice t x lo O mx=>
  exfalso
  split at hc
  ·simp at hc
  ·obtain ⟨_,_,e⟩:=mS hc;cases e
  ·split at hc
   ·obtain ⟨_,_,e⟩:=mS hc;cases e
   ·cases hc
  ·cases hc
 case build t parts=>
  exfalso
  split at hc
  ·split at hc
   ·obtain ⟨_,_,e⟩:=mS hc;cases e
   ·cases hc
  ·obtain ⟨_,_,hc⟩:=Option.bind_eq_some_iff.1 hc
   obtain ⟨_,_,e⟩:=mS hc;cases e
  ·cases hc
 case fieldAddr t x f=>
  exfalso
  split at hc
  ·obtain ⟨_,_,hc⟩:=Option.bind_eq_some_iff.1 hc
   split at hc<;>simp at hc
  ·cases hc
 case field t x f=>
  exfalso
  split at hc
  ·obtain ⟨_,_,hc⟩:=Option.bind_eq_some_iff.1 hc
   obtain ⟨_,_,e⟩:=mS hc;cases e
  ·cases hc
 all_goals
  exfalso
  first
   |(cases hc;done)
   |(split at hc<;>first|(cases hc;done) |(simp at hc;done) |(obtain ⟨_,_,e⟩:=mS hc;cases e;done) |(split at hc<;>first|(cases hc;done) |(simp at hc;done) |(obtain ⟨_,_,e⟩:=mS hc;cases e;done) |(split at hc<;>first|(cases hc;done) |(simp at hc;done) |(obtain ⟨_,_,e⟩:=mS hc;cases e;done))))
   |(obtain ⟨_,_,e⟩:=mS hc;cases e;done)
end
end Go.AM
end
section
namespace Go.AM
section
variable {P:Program} {Γ:Ao} {ρ:Env} {μ:Aq} {tm:Tr Aa} {a:Act} {w:World} {h:Al}
def NI (P:Program) (ρ:Env) (μ:Aq) (a:Act) (o:Oper) (w:World) (id:Nat) (B:Block) (v:Aa):Prop:=
 ∃g d,(execOp a.eval o).run P w=.ok (.value d) (w.alloc g)∧∃m,(∀c:Aq,μ.le c→CL ρ c B (some g) (0,m))∧∀c:Aq,μ.le c→c id=some (w.heap.size,0,m)→Ae ρ c v d
theorem Fp {cs:List Aa} {c:Array Value} {e:TypeId} (hc:Ax ρ μ cs c.toList) (d:Aq) (g:μ.le d):CL ρ d (.cells cs) (some (.cells c e)) (0,c.size):=
 ⟨c,e,rfl,by omega,fun i x o=>by
  obtain ⟨v,k,hs,j⟩:=hc.get o
  exact ⟨v,by rw [Nat.zero_add];simpa using k,hs,j.mono g⟩⟩
theorem Lu {cs:List Aa} {c:Array Value} {e:TypeId} {t:Option Nat} (o:t=some e∨t=none) (hc:Ax ρ μ cs c.toList) (d:Aq) (j:μ.le d):CL ρ d (KJ t cs) (some (.cells c e)) (0,c.size):=by
 have h:=Fp (e:=e) hc d j
 rcases o with rfl|rfl
 ·obtain ⟨u,q,g,hs,k⟩:=h
  simp only [oI,Obj.cells.injEq]at g
  obtain ⟨rfl,rfl,_⟩:=g
  exact ⟨c,rfl,⟨rfl,by have:=hc.length;simp at this;omega⟩,hs,k⟩
 ·exact h
theorem LU (t:TypeId):Rx P t=some t∨Rx P t=none:=by
 unfold Rx
 split
 ·exact .inl rfl
 ·exact .inr rfl
theorem Er (e:TypeId) (c:Array Value):(newRow e c).run P w=.ok ⟨w.heap.size,0,none⟩ (w.alloc (.cells c e)):=by
 simp [newRow]
theorem Wy {id:Nat} {r m:Nat} (c:Aq) (d:c id=some (r,0,m)):Ae ρ c (.ptr id 0) (.pointer (some ⟨r,0,none⟩)):=by
 simp only [Ae];exact ⟨r,0,m,d,rfl⟩
theorem Ue {o:Oper} {t:TypeId} (g:o.op=.alloc t) {cs:List Aa} (u:Hj P t=some cs) {id:Nat}:NI P ρ μ a o w id (KJ (Rx P t) cs) (.ptr id 0):=by
 obtain ⟨k,q,j⟩:=E4 (w:=w) (ρ:=ρ) (μ:=μ) u
 refine ⟨.cells k.cells t,.pointer (some ⟨w.heap.size,0,none⟩),?_,_,fun c d=>Lu (LU t) j c d,fun c _ v=>Wy c v⟩
 simp [execOp,g,Instr.alloc,q,newVar,Er]
theorem XH {o:Oper} {t:TypeId} {x:Operand} (g:o.op=.box t x) (k:Be ρ μ tm a) {cs:List Aa} (hc:(ev tm (AJ x)).cells=some cs) {id:Nat}:NI P ρ μ a o w id (KJ (Rx P t) cs) (.ptr id 0):=by
 have j:=(Au k x).cells hc
 refine ⟨.cells (a.eval x).cells t,.pointer (some ⟨w.heap.size,0,none⟩),?_,_,fun c d=>Lu (LU t) j c d,fun c _ q=>Wy c q⟩
 simp [execOp,g,Instr.box,newVar,Er]
theorem Ke {z:List Aa} {d:Array Value} {n:Nat} (A:Ax ρ μ z d.toList) (c:z.length=n) (k:Nat) {y:Array Value} (D:k*n≠0→y=d):
  Ax ρ μ (rep z k) ((Array.range (k*n)).map fun i=>y[i%y.size]!).toList:=by
 have q:d.size=n:=by have:=A.length;simp at this;omega
 refine Ax.Kt (by rw [IP,c];simp) fun i x g=>?_
 have o:i<k*n:=by
  have:=(List.getElem?_eq_some_iff.1 g).1
  rw [IP,c]at this
  exact this
 rw [Wt z k i (by rw [c];exact o),c]at g
 obtain ⟨v,u,hs,C⟩:=A.get g
 refine ⟨v,?_,hs,C⟩
 have j:=D (by omega)
 subst j
 rw [Array.getElem?_toList]at u
 simp only [Array.getElem?_toList,Array.getElem?_map]
 rw [Array.getElem?_range,if_pos o]
 simp only [Option.map_some]
 rw [q,getElem!_def,u]
theorem Qs {o:Oper} {t e:TypeId} {len n:Nat} {parts:Array (Nat×Operand)} (u:o.op=.buildSlice t len parts) (M:Be ρ μ tm a) (q:P.underlying t=some (.slice e)) (N:Bj P e=some n) {z:List Aa} (Q:Hj P e=some z)
  (Z:len*n≤65536) (A:z.length=n) {D:List (Nat×Nat×C9)} (R:partsOf (fun i=>some (i*n,n)) parts.toList=some D) {cs:List Aa} (hf:HJ tm D (List.replicate len z).flatten=some cs) {id:Nat}:
  NI P ρ μ a o w id (.cells cs) (.slice id 0 len len):=by
 obtain ⟨v,U,H⟩:=E4 (w:=w) (ρ:=ρ) (μ:=μ) Q
 have hs:=B5 (w:=w) N
 have key:∀y:Array Value,(len*n≠0→y=v.cells)→∃x:Array Value,Instr.fill (fun i=>some (i*n,n)) ((Array.range (len*n)).map fun i=>y[i%y.size]!) ((parts.map fun x=>(x.1,a.eval x.2)).toList)=some x∧Ax ρ μ cs x.toList:=fun y O=>by
  have C:=Ke H A len O
  rw [ZB]at C
  obtain ⟨x,g,hc⟩:=Gy (place':=fun i=>some (i*n,n)) M R (fun i y e=>e) C hf
  refine ⟨x,?_,hc⟩
  have J:(parts.map fun x=>(x.1,a.eval x.2)).toList=parts.toList.map fun p=>(p.1,a.eval p.2):=by simp
  rw [J];exact g
 have d:¬len*n>2^24:=by omega
 have k:∀(m:Nat) (c:Aq),c id=some (w.heap.size,0,m)→Ae ρ c (.slice id 0 len len) (.slice (some ⟨w.heap.size,0,none⟩) len len):=fun m c j=>by
  simp only [Ae];exact ⟨_,_,_,j,rfl,Nat.le_refl _⟩
 by_cases h0:len*n=0
 ·obtain ⟨x,g,hc⟩:=key #[] (fun h=>absurd h0 h)
  refine ⟨.cells x e,_,?_,_,fun c d=>Fp hc c d,fun c _ j=>k _ c j⟩
  simp only [execOp,u,Instr.buildSlice,Sem.run_bind,run_underlying q,Result.andThen_ok,hs]
  rw [if_neg d]
  simp only [Sem.run_bind,Sem.run_pure,Result.andThen_ok,h0,if_true]
  rw [h0]at g
  simp only [g]
  simp [Er]
 ·obtain ⟨x,g,hc⟩:=key v.cells (fun _=>rfl)
  refine ⟨.cells x e,_,?_,_,fun c d=>Fp hc c d,fun c _ j=>k _ c j⟩
  simp only [execOp,u,Instr.buildSlice,Sem.run_bind,run_underlying q,Result.andThen_ok,hs]
  rw [if_neg d]
  simp only [Sem.run_bind,Sem.run_pure,Result.andThen_ok,h0,if_false,U]
  simp only [g]
  simp [Er]
theorem wrap_small {n:Nat} (h:n≤1048576):IntKind.i64.wrap (n:Int)=(n:Int):=by
 unfold IntKind.wrap
 have e:(n:Int)%2^IntKind.i64.bits=n:=Int.emod_eq_of_lt (by omega) (by show (n:Int)<18446744073709551616;omega)
 simp only [e]
 rw [if_neg]
 intro hc
 simp only [aT,decide_eq_true_eq]at hc
 have:(9223372036854775808:Int)≤n:=hc.2
 omega
theorem NX {o:Oper} {t e:TypeId} {l c:Operand} (N:o.op=.makeSlice t l c) (R:Be ρ μ tm a) (Q:P.underlying t=some (.slice e)) {i:TypeInfo} (hi:P.info? e=some i) {z:List Aa} (hz:Hj P e=some z)
  (hb:i.bytes≤1048576) (C:z.length=i.size) {id:Nat} {B:Block} {v:Aa} (h:M7 id z (CN (ev tm (AJ l))) (CN (ev tm (AJ c)))=some (B,v)):NI P ρ μ a o w id B v:=by
 obtain ⟨zv,h1,J⟩:=E4 (w:=w) (ρ:=ρ) (μ:=μ) hz
 unfold M7 at h
 obtain ⟨q,hl,h⟩:=Ab h
 obtain ⟨d,hc,h⟩:=Ab h
 obtain ⟨j,h⟩:=Ap h
 rw [aT,AX,AX]at j
 simp only [oI,Prod.mk.injEq]at h
 obtain ⟨rfl,rfl⟩:=h
 obtain ⟨k1,U⟩:=Cw hl (Au R l)
 obtain ⟨k2,Z⟩:=Cw hc (Au R c)
 have u:(typeInfo e).run P w=.ok i w:=by simp [typeInfo,hi]
 have hs:(sizeOf e).run P w=.ok i.size w:=by simp [sizeOf,u]
 have A:∀(m:Nat) (g:Aq),g id=some (w.heap.size,0,m)→Ae ρ g (.slice id 0 q d) (.slice (some ⟨w.heap.size,0,none⟩) q d):=fun m g x=>by
  simp only [Ae];exact ⟨_,_,_,x,rfl,j.1⟩
 have M:=wrap_small (n:=q) (by omega)
 have O:=wrap_small (n:=d) (by omega)
 have ab:i.bytes*d≤1048576*1048576:=Nat.mul_le_mul hb j.2
 have D:(((d:Int)<0) ||decide ((i.bytes:Int)*(d:Int)>2^48))=false:=by
  have:(i.bytes:Int)*(d:Int)=((i.bytes*d:Nat):Int):=by simp
  rw [this]
  simp
  omega
 have k:(((((d:Int)<0) ||decide ((i.bytes:Int)*(d:Int)>2^48)) ||decide ((q:Int)<0)) ||decide ((q:Int)>(d:Int)))=false:=by
  rw [D];simp;omega
 by_cases h0:d*i.size=0
 ·have H:=Ke J C d (y:=#[]) (fun h=>absurd h0 h)
  refine ⟨.cells _ e,_,?_,_,fun g j=>Fp H g j,fun g _ x=>A _ g x⟩
  simp only [execOp,N,Instr.makeSlice,Sem.run_bind,run_underlying Q,Result.andThen_ok,U,Z,asInt,asIntOf,Sem.run_pure,u,M,O]
  rw [k]
  simp [hs,h0,Er]
 ·have H:=Ke J C d (y:=zv.cells) (fun _=>rfl)
  refine ⟨.cells _ e,_,?_,_,fun g j=>Fp H g j,fun g _ x=>A _ g x⟩
  simp only [execOp,N,Instr.makeSlice,Sem.run_bind,run_underlying Q,Result.andThen_ok,U,Z,asInt,asIntOf,Sem.run_pure,u,M,O]
  rw [k]
  simp [hs,h0,h1,Er]
theorem XG {o:Oper} {t k e:TypeId} {r:Option Operand} (c:o.op=.makeMap t r) (q:P.underlying t=some (.map k e)) (d:r=none∨∃j n,r=some (.const (.int j n))) {id:Nat}:NI P ρ μ a o w id (.map [] 0) (.map id):=by
 refine ⟨.map #[] 0,.map (some w.heap.size),?_,0,fun g _=>⟨rfl,#[],rfl,by simp only [Cb]⟩,fun g _ u=>by simp only [Ae];exact ⟨_,u,rfl⟩⟩
 rcases d with rfl|⟨j,n,rfl⟩
 ·simp [execOp,c,Instr.makeMap]
 ·simp [execOp,c,Instr.makeMap,run_underlying q,Act.eval,asInt,asIntOf]
theorem OM (M:Be ρ μ tm a) {pl:List C3} {o:Oper} {q:AOp} (hc:D9 P pl o=some (.a q)) {id:Nat} {B:Block} {v:Aa} (h:XF tm id q=some (B,v)):NI P ρ μ a o w id B v:=by
 cases hop:o.op<;>simp only [D9,hop,reduceCtorEq,oI,DQ.a.injEq]at hc
 case alloc t=>
  obtain ⟨z,C,e⟩:=mS hc
  simp only [DQ.a.injEq]at e
  subst e
  have h:some (KJ (Rx P t) z,Aa.ptr id 0)=some (B,v):=h
  simp only [oI,Prod.mk.injEq]at h
  obtain ⟨rfl,rfl⟩:=h
  exact Ue hop C
 case box t x=>
  subst hc
  obtain ⟨cs,D,h⟩:=Ab h
  simp only [oI,Prod.mk.injEq]at h
  obtain ⟨rfl,rfl⟩:=h
  exact XH hop M D
 case buildSlice t len parts=>
  split at hc
  ·rename_i e A
   split at hc
   ·rename_i n z N C
    split at hc
    ·rename_i g
     obtain ⟨ps,Q,e⟩:=mS hc
     simp only [DQ.a.injEq]at e
     subst e
     obtain ⟨cs,D,h⟩:=Ab h
     simp only [oI,Prod.mk.injEq]at h
     obtain ⟨rfl,rfl⟩:=h
     simp only [aT,decide_eq_true_eq,beq_iff_eq]at g
     exact Qs hop M A N C g.1 g.2 Q D
    ·cases hc
   ·cases hc
  ·cases hc
 case makeSlice t l c=>
  split at hc
  ·rename_i e A
   split at hc
   ·rename_i i z J C
    split at hc
    ·rename_i g
     simp only [oI,DQ.a.injEq]at hc
     subst hc
     simp only [aT,decide_eq_true_eq,beq_iff_eq]at g
     exact NX hop M A J C g.1 g.2 h
    ·cases hc
   ·cases hc
  ·cases hc
 case makeMap t r=>
  have H:q=.mkMap→(∃k e,P.underlying t=some (.map k e))→(r=none∨∃j n,r=some (.const (.int j n)))→NI P ρ μ a o w id B v:=fun U A R=>by
   subst U
   have h:some (Block.map [] 0,Aa.map id)=some (B,v):=h
   simp only [oI,Prod.mk.injEq]at h
   obtain ⟨rfl,rfl⟩:=h
   obtain ⟨k,e,A⟩:=A
   exact XG hop A R
  split at hc
  ·rename_i k e A
   simp only [oI,DQ.a.injEq]at hc
   exact H hc.symm ⟨_,_,A⟩ (.inl rfl)
  ·rename_i k e j n A
   simp only [oI,DQ.a.injEq]at hc
   exact H hc.symm ⟨_,_,A⟩ (.inr ⟨_,_,rfl⟩)
  ·cases hc
 case call c=>
  exfalso
  unfold Fm at hc
  split at hc
  ·split at hc
   ·split at hc
    ·simp at hc
    ·split at hc
     ·split at hc<;>simp at hc
     ·split at hc
      ·split at hc<;>simp at hc
      ·cases hc
   ·cases hc
  ·simp at hc
  ·cases hc
  ·split at hc
   ·split at hc<;>simp at hc
   ·exfalso
    unfold EU at hc
    split at hc<;>first|cases hc|skip
    all_goals (split at hc<;>first|(cases hc;done) |(split at hc<;>simp at hc))
   ·exfalso
    split at hc<;>first|(cases hc;done) |(obtain ⟨_,_,e⟩:=mS hc;cases e)
   ·simp at hc
   ·simp at hc
   ·simp at hc
   ·simp at hc
   ·exfalso
    split at hc
    ·split at hc<;>simp at hc
    ·cases hc
   ·cases hc
 case convert s d x=>
  rcases CV hc with ⟨k0,k,hs,hd,e⟩|⟨hs,hd,e⟩|⟨t,n,hs,hd,N,e⟩|⟨u,n,hs,hd,N,e⟩|⟨el,hs,he,hd,e⟩<;>cases e
 case typeAssert x xt t ok=>
  obtain ⟨d,i,z,A,hd,J,C,e⟩:=Cv hc
  cases e
 case defer c=>
  obtain ⟨O,args,Z⟩:=c
  cases O<;>simp at hc
 case makeFunc fn x c=>cases fn<;>simp at hc
 case binOp op t x y yt=>obtain ⟨_,_,e⟩:=mS hc;cases e
 case slice t x lo J mx=>
  exfalso
  split at hc
  ·simp at hc
  ·obtain ⟨_,_,e⟩:=mS hc;cases e
  ·split at hc
   ·obtain ⟨_,_,e⟩:=mS hc;cases e
   ·cases hc
  ·cases hc
 case build t parts=>
  exfalso
  split at hc
  ·split at hc
   ·obtain ⟨_,_,e⟩:=mS hc;cases e
   ·cases hc
  ·obtain ⟨_,_,hc⟩:=Option.bind_eq_some_iff.1 hc
   obtain ⟨_,_,e⟩:=mS hc;cases e
  ·cases hc
 case fieldAddr t x f=>
  exfalso
  split at hc
  ·obtain ⟨_,_,hc⟩:=Option.bind_eq_some_iff.1 hc
   split at hc<;>simp at hc
  ·cases hc
 case field t x f=>
  exfalso
  split at hc
  ·obtain ⟨_,_,hc⟩:=Option.bind_eq_some_iff.1 hc
   obtain ⟨_,_,e⟩:=mS hc;cases e
  ·cases hc
 all_goals
  exfalso
  first
   |(cases hc;done)
   |(split at hc<;>first|(cases hc;done) |(simp at hc;done) |(obtain ⟨_,_,e⟩:=mS hc;cases e;done) |(split at hc<;>first|(cases hc;done) |(simp at hc;done) |(obtain ⟨_,_,e⟩:=mS hc;cases e;done) |(split at hc<;>first|(cases hc;done) |(simp at hc;done) |(obtain ⟨_,_,e⟩:=mS hc;cases e;done))))
   |(obtain ⟨_,_,e⟩:=mS hc;cases e;done)
end
end Go.AM
end
section
namespace Go.AM
section
variable {P:Program} {Γ:Ao} {ρ:Env} {μ:Aq} {tm:Tr Aa} {a:Act} {w:World} {h:Al}
theorem setRow_other (w:World) (g i:Nat) (c:Array Value) (d:i≠g):(w.setRow g c).heap[i]?=w.heap[i]?:=by
 unfold World.setRow
 simp only [Array.getElem?_modify]
 rw [if_neg (Ne.symm d)]
theorem E7 (w:World) (g:Nat) (c cur:Array Value) (t:TypeId) (fr:Nat×Nat) (d:w.heap[g]?=some (.cells cur t fr)):(w.setRow g c).heap[g]?=some (.cells c t fr):=by
 unfold World.setRow
 simp only [Array.getElem?_modify]
 rw [if_pos trivial,d]
 rfl
theorem DV {r p:Nat} {c:Array Value} {e:TypeId} (L:List Value) (g:w.heap[r]?=some (.cells c e (0,0))) (o:p+L.length≤c.size) (j:∀v∈L,v.oneCell'=true):
  ∃d:Array Value,(storeCells ⟨r,p,none⟩ L).run P w=.ok () (w.setRow r d)∧d.size=c.size∧∀k,d[k]?=if p≤k∧k<p+L.length then L[k-p]? else c[k]?:=by
 refine ⟨_,run_storeCells_at P r p e L 0 c w g (by omega) j,?_,fun k=>?_⟩
 ·simp;omega
 ·simp only [Nat.add_zero,List.getElem?_toArray]
  rw [List.append_assoc]
  have hl:(c.toList.take p).length=p:=by simp;omega
  by_cases hk:k<p
  ·rw [List.getElem?_append_left (by omega),List.getElem?_take,if_pos hk,if_neg (by omega)]
   simp
  ·rw [List.getElem?_append_right (by omega),hl]
   by_cases hk2:k<p+L.length
   ·rw [List.getElem?_append_left (by omega),if_pos (by omega)]
   ·rw [List.getElem?_append_right (by omega),List.getElem?_drop,if_neg (by omega)]
    rw [Array.getElem?_toList]
    congr 1
    omega
theorem Ax.one:∀{as:List Aa} {vs:List Value},Ax ρ μ as vs→∀v∈vs,v.oneCell'=true
 |[],_,e,v,hv=>by simp only [Ax]at e;subst e;cases hv
 |_::_,_,e,v,hv=>by
  simp only [Ax]at e
  obtain ⟨u,rest,rfl,⟨hs,c⟩,h⟩:=e
  cases hv with
  |head=>exact c.Qk hs
  |tail _ hv=>exact Ax.one h v hv
theorem AO.Afj (H:AO ρ μ h w) {b:Nat} {vs:List Aa} {r δ m:Nat} {c:Array Value} {e:TypeId} (g:δ+m≤c.size) (hc:∀(i:Nat) (x:Aa),vs[i]?=some x→∃v,c[δ+i]?=some v∧x.single=true∧Ae ρ μ x v):δ+vs.length≤c.size:=by
 cases hl:vs.length with
 |zero=>omega
 |succ n=>
  obtain ⟨v,d,_⟩:=hc n _ (List.getElem?_eq_getElem (by omega))
  have:=(Array.getElem?_eq_some_iff.1 d).1
  omega
theorem Hl (H:AO ρ μ h w) {b y:Nat} {vs d new:List Aa} {L:List Value} (hb:cellsOf (h.get b)=some vs) (J:Ax ρ μ new L) (hs:splice new y vs=some d):
  ∃r δ m,μ b=some (r,δ,m)∧∃w',(storeCells ⟨r,δ+y,none⟩ L).run P w=.ok () w'∧∀k,(k=.cells d∨k=Adx (h.get b) d)→Aw ρ μ h w μ (h.set b (some k)) w':=by
 obtain ⟨r,δ,m,c,e,N,O,R,hc⟩:=H.cells hb
 obtain ⟨B0,U⟩:=Lo hb
 obtain ⟨h1,h2,h3⟩:=Hu hs
 have hl:=J.length
 have ad:=H.Afj (b:=b) (r:=r) (e:=e) R hc
 obtain ⟨A,M,ae,aa⟩:=DV (P:=P) L O (p:=δ+y) (by omega) J.one
 refine ⟨r,δ,m,N,_,M,fun k Z=>?_⟩
 have g:∀(i:Nat) (x:Aa),d[i]?=some x→∃v,A[δ+i]?=some v∧x.single=true∧Ae ρ μ x v:=fun i x z=>by
  rw [h3]at z
  rw [aa]
  split at z
  ·rename_i D
   obtain ⟨v,Q,u,o⟩:=J.get z
   refine ⟨v,?_,u,o⟩
   rw [if_pos (by omega),←Q]
   congr 1
   omega
  ·rename_i D
   obtain ⟨v,Q,u,o⟩:=hc i x z
   refine ⟨v,?_,u,o⟩
   rw [if_neg (by omega)]
   exact Q
 refine Aw.change H U N k (fun i D=>setRow_other _ _ _ _ D) (by simp) rfl rfl ?_
 rw [E7 _ _ _ _ _ _ O]
 have C:CL ρ μ (.cells d) (some (.cells A e (0,0))) (δ,m):=⟨A,e,rfl,by omega,g⟩
 rcases Z with rfl|rfl
 ·exact C
 ·rcases EV hb with hb'|⟨t,hb'⟩
  ·rw [hb'];exact C
  ·rw [hb']
   obtain ⟨r2,⟨δ2,m2⟩,j,c2,q,⟨hδ,af⟩,_⟩:=H.blk b _ hb'
   rw [N]at j
   simp only [oI,Prod.mk.injEq]at j
   obtain ⟨rfl,rfl,rfl⟩:=j
   rw [O]at q
   simp only [oI,Obj.cells.injEq]at q
   obtain ⟨rfl,rfl,_⟩:=q
   exact ⟨A,rfl,⟨hδ,by omega⟩,by omega,g⟩
def Kc (P:Program) (g:FuncId):Prop:=∃fn,P.funcs[g]?=some fn∧fn.body.isSome=true∧(fn.name== "runtime.NumGoroutine")=false
def KM (ρ:Env) (μ:Aq) (d:FuncId×List Aa) (c:Deferred):Prop:=
 ∃cap:Array Value,c.target=.fn (.func d.1) cap∧A9 ρ μ d.2 (c.args++cap).toList
def EG (P:Program) (ρ:Env) (μ:Aq) (h:Al) (a:Act) (o:Oper) (w:World):GZ→Prop
 |.val v h'=>∃j u w' k,(execOp a.eval o).run P w=.ok j w'∧(j=.value u∨(j=.skip∧u=undef))∧Aw ρ μ h w k h' w'∧Ae ρ k v u
 |.call g args=>Kc P g→∃c:Array Value,(execOp a.eval o).run P w=.ok (.enter g c) w∧A9 ρ μ args c.toList
 |.panic v=>∃u,(execOp a.eval o).run P w=.halt (.panic u) w∧Ae ρ μ v u
 |.defer g args=>∃d,(execOp a.eval o).run P w=.ok (.defer d) w∧KM ρ μ (g,args) d
theorem UG {o:Oper} {t:TypeId} {p x:Operand} (O:o.op=.store t p x) (H:AO ρ μ h w) (u:Be ρ μ tm a) {n:Nat} (J:Bj P t=some n) {y:Al} (hs:Tu h n (ev tm (AJ p)) (ev tm (AJ x))=some y):
  EG P ρ μ h a o w (.val .any y):=by
 have C:=Au u p
 have M:=Au u x
 unfold Tu at hs
 split at hs
 ·rename_i b Z Q
  obtain ⟨vs,z,hs⟩:=Ab hs
  obtain ⟨U,hf,hs⟩:=Ab hs
  simp only [oI]at hs
  subst hs
  rw [Q]at C
  obtain ⟨r',δ',m',c,R⟩:=C.ptr
  unfold FD at hf
  obtain ⟨new,g,hf⟩:=Ab hf
  obtain ⟨j,hf⟩:=Ap hf
  have d:=M.cells g
  obtain ⟨r,δ,m,N,w',q,k⟩:=Hl (P:=P) H z d hf
  have k:=k _ (.inr rfl)
  rw [N]at c
  simp only [oI,Prod.mk.injEq]at c
  obtain ⟨rfl,rfl,rfl⟩:=c
  have A:(a.eval x).cells.size=n:=by
   have D:=An.1 j
   rw [JG]at D
   rw [←D]
   simpa using d.length.symm
  have v:=B5 (w:=w) J
  refine ⟨.skip,undef,w',μ,?_,.inr ⟨rfl,rfl⟩,k,trivial⟩
  simp [execOp,O,Instr.storeAt,R,Instr.sureAddr,storeVar,v,A,q]
 ·cases hs
theorem UP {f:Aa} {args:List Aa} {r:FuncId×List Aa} (h:Nz f args=some r):∃first cap,f=.func r.1 first cap∧r.2=first++(args++cap):=by
 unfold Nz at h
 split at h
 ·rename_i g first cap
  simp only [oI]at h
  subst h
  exact ⟨first,cap,rfl,rfl⟩
 ·cases h
theorem GP {g:FuncId} (hf:Kc P g) (args:Array Value):(callFunc g args).run P w=.ok (.enter g args) w:=by
 obtain ⟨fn,d,k,c⟩:=hf
 have j:fn.body.isNone=false:=by cases hb:fn.body<;>simp [hb]at k⊢
 simp only [callFunc,Sem.run_bind,run_program,Result.andThen_ok,d,c,j]
 simp
theorem J6 {c:Call} {x:Operand} (g:c.callee=.value x) (j:Be ρ μ tm a) {t:TypeId} {r:FuncId×List Aa} (h:Nz (ev tm (AJ x)) (Rr tm (Ch c.args.toList))=some r):
  ∃d cap:Array Value,(resolve a.eval c t).run P w=.ok {target:=.fn (.func r.1) cap,args:=d} w∧A9 ρ μ r.2 (d++cap).toList:=by
 obtain ⟨first,cap,u,v⟩:=UP h
 have o:=Au j x
 rw [u]at o
 obtain ⟨q,z,y,hf,k⟩:=o.func
 refine ⟨q++c.args.map a.eval,z,?_,?_⟩
 ·simp [resolve,g,y,Deferred.ofValue]
 ·rw [v]
  simp only [Array.toList_append,Array.toList_map,List.append_assoc]
  exact hf.append ((Ge j _).append k)
theorem Po {o:Oper} {c:Call} {x:Operand} (j:o.op=.call c) (g:c.callee=.value x) (q:Be ρ μ tm a) {r:FuncId×List Aa} (v:Nz (ev tm (AJ x)) (Rr tm (Ch c.args.toList))=some r):
  EG P ρ μ h a o w (.call r.1 r.2):=fun hf=>by
 obtain ⟨d,cap,u,k⟩:=J6 (P:=P) (w:=w) (t:=o.type) g q v
 refine ⟨d++cap,?_,k⟩
 simp only [execOp,j,Sem.run_bind,u,Result.andThen_ok,invoke]
 exact GP hf _
theorem UJ {o:Oper} {c:Call} {x:Operand} (k:o.op=.defer c) (g:c.callee=.value x) (v:Be ρ μ tm a) {r:FuncId×List Aa} (u:Nz (ev tm (AJ x)) (Rr tm (Ch c.args.toList))=some r):
  EG P ρ μ h a o w (.defer r.1 r.2):=by
 obtain ⟨d,cap,j,q⟩:=J6 (P:=P) (w:=w) (t:=o.type) g v u
 refine ⟨{target:=.fn (.func r.1) cap,args:=d},?_,cap,rfl,q⟩
 simp only [execOp,k,Sem.run_bind,j,Result.andThen_ok]
 rfl
theorem UH {o:Oper} {x:Operand} (j:o.op=.panic x) (k:Be ρ μ tm a) {r:GZ} (c:TT (ev tm (AJ x))=some r):EG P ρ μ h a o w r:=by
 have d:=Au k x
 unfold TT at c
 split at c
 ·rename_i t v q
  simp only [oI]at c
  subst c
  rw [q]at d
  have g:=d
  obtain ⟨u,y,_⟩:=d.iface
  exact ⟨a.eval x,by simp [execOp,j,Instr.panic,y],g⟩
 ·cases c
theorem UM (fn:Func) (c:fn.name= "maps.clone") (g:fn.origin= ""):Extern.findNext fn=none∧Extern.find fn=some Extern.MapsClone.clone:=by
 have j:Extern.allNextRows.lookup "maps.clone" =none:=by kernel_rfl
 have a2:Extern.allNextRows.lookup "" =none:=by kernel_rfl
 have o:Extern.allGenericRows.lookup "maps.clone" =none:=by kernel_rfl
 have d:Extern.allTypedRows.lookup "maps.clone" =none:=by kernel_rfl
 have k:Extern.allRows.lookup "maps.clone" =some Extern.MapsClone.clone:=by kernel_rfl
 refine ⟨?_,?_⟩
 ·unfold Extern.findNext
  rw [c,g]
  simp [j,a2]
 ·unfold Extern.find
  rw [c]
  simp [o,d,k]
theorem TY (fn:Func) (c:fn.name= "internal/abi.NoEscape") (g:fn.origin= ""):Extern.findNext fn=none∧Extern.find fn=some Extern.AbiNoEscape.same:=by
 have j:Extern.allNextRows.lookup "internal/abi.NoEscape" =none:=by kernel_rfl
 have a2:Extern.allNextRows.lookup "" =none:=by kernel_rfl
 have o:Extern.allGenericRows.lookup "internal/abi.NoEscape" =none:=by kernel_rfl
 have d:Extern.allTypedRows.lookup "internal/abi.NoEscape" =none:=by kernel_rfl
 have k:Extern.allRows.lookup "internal/abi.NoEscape" =some Extern.AbiNoEscape.same:=by kernel_rfl
 refine ⟨?_,?_⟩
 ·unfold Extern.findNext
  rw [c,g]
  simp [j,a2]
 ·unfold Extern.find
  rw [c]
  simp [o,d,k]
theorem UI {o:Oper} {c:Call} {f:FuncId} {x:Operand} {fn:Func} (D:o.op=.call c) (j:c.callee=.value (.func f)) (g:c.args=#[x]) (hf:P.funcs[f]?=some fn) (hb:fn.body.isSome=false) (d:fn.name= "internal/abi.NoEscape") (q:fn.origin= "")
  (H:AO ρ μ h w) (A:Be ρ μ tm a) {r:GZ} (k:TZ h (ev tm (AJ x))=some r):EG P ρ μ h a o w r:=by
 have C:=Au A x
 unfold TZ at k
 simp only [oI]at k
 subst k
 refine ⟨.value (a.eval x),a.eval x,w,μ,?_,.inl rfl,Aw.refl H,C⟩
 obtain ⟨n1,n2⟩:=TY fn d q
 have u:(fn.name== "runtime.NumGoroutine")=false:=by rw [d];rfl
 have v:fn.body.isNone=true:=by cases hbb:fn.body<;>simp [hbb]at hb⊢
 have z:(Extern.AbiNoEscape.same #[a.eval x]).run P w=.ok (a.eval x) w:=by
  have e:Extern.AbiNoEscape.same #[a.eval x]=pure (a.eval x):=rfl
  rw [e];rfl
 have y:a.eval (.func f)=.func (.func f) #[] #[]:=rfl
 simp only [execOp,D,resolve,j,g,List.map_toArray,List.map_cons,List.map_nil,y,Deferred.ofValue,Sem.run_bind,Sem.run_pure,Result.andThen_ok,invoke,callFunc,run_program,hf,u,v,n1,n2,run_mark]
 simp [z]
theorem UK {o:Oper} {c:Call} {f:FuncId} {x:Operand} {fn:Func} (ho:o.op=.call c) (D:c.callee=.value (.func f)) (z:c.args=#[x]) (hf:P.funcs[f]?=some fn) (hb:fn.body.isSome=false) (v:fn.name= "maps.clone") (J:fn.origin= "")
  (H:AO ρ μ h w) (hT:Be ρ μ tm a) {r:GZ} (q:UN h (ev tm (AJ x))=some r):EG P ρ μ h a o w r:=by
 have R:=Au hT x
 unfold UN at q
 split at q
 ·rename_i t b e1
  rw [e1]at R
  obtain ⟨u,e2,hu⟩:=R.iface
  obtain ⟨g,N,rfl⟩:=hu.NW
  have key:∀(B:Block) (ms:Array MapEntry) (d:Nat),w.heap[g]?=some (.map ms d)→(∀A,μ.le A→CL ρ A B (some (.map ms d)) (0,0))→r=.val (.iface t (.map h.next)) (h.add B)→EG P ρ μ h a o w r:=fun B ms d k hB hr=>by
   subst hr
   have Q:=Aw.add H B (.map ms d) (0,0) hB
   refine ⟨.value (.iface t (.map (some w.heap.size))),_,_,_,?_,.inl rfl,Q,?_⟩
   ·obtain ⟨n1,n2⟩:=UM fn v J
    have M:(fn.name== "runtime.NumGoroutine")=false:=by rw [v];rfl
    have O:fn.body.isNone=true:=by cases hbb:fn.body<;>simp [hbb]at hb⊢
    have Z:(Extern.MapsClone.clone #[.iface t (.map (some g))]).run P w=.ok (.iface t (.map (some w.heap.size))) (w.alloc (.map ms d)):=by
     have e:Extern.MapsClone.clone #[.iface t (.map (some g))]=(getObj g>>=fun o=>match o with
      |.map entries clock=>(newObj (.map entries clock)>>=fun n=>pure (.iface t (.map (some n))))
      |_=>stuck "maps.clone: a map expected"):=rfl
     have aa:(getObj g).run P w=.ok (.map ms d) w:=by simp [getObj,Sem.run,k]
     rw [e]
     simp [aa]
    have U:a.eval (.func f)=.func (.func f) #[] #[]:=rfl
    simp only [execOp,ho,resolve,D,z,List.map_toArray,List.map_cons,List.map_nil,e2,U,Deferred.ofValue,Sem.run_bind,Sem.run_pure,Result.andThen_ok,invoke,callFunc,run_program,hf,M,O,n1,n2,run_mark]
    simp [Z]
   ·simp only [Ae]
    exact ⟨_,rfl,_,Aq.BQ _ _ _,rfl⟩
  unfold AaI at q
  split at q
  ·rename_i i hi
   simp only [oI]at q
   obtain ⟨g',ms,d,j,k,C⟩:=H.smap (E6 hi)
   rw [N]at j
   simp only [oI,Prod.mk.injEq]at j
   obtain ⟨rfl,_⟩:=j
   exact key (.smap i) ms d k (fun A y=>⟨rfl,ms,d,rfl,Jm.mono y.Bf C⟩) q.symm
  ·obtain ⟨m,hm,q⟩:=Ab q
   simp only [oI]at q
   obtain ⟨g',ms,j,k,C⟩:=H.map (DF hm)
   rw [N]at j
   simp only [oI,Prod.mk.injEq]at j
   obtain ⟨rfl,_⟩:=j
   exact key (.map m.1 m.2) ms m.2 k (fun A y=>⟨rfl,ms,rfl,C.mono y⟩) q.symm
 ·cases q
theorem J3 {kk:LK} {x y:Aa} {u v:Value} (d:Ae ρ μ x u) (c:Ae ρ μ y v) (h:OX kk x y=some true):Instr.sameBits 10000 v u=true:=by
 unfold OX at h
 split at h
 ·obtain ⟨j,g⟩:=Ap h
  simp only [oI]at g
  rw [d.int,c.int,Dt.1 j,Q2.1 g]
  simp [Instr.sameBits]
 ·simp only [oI]at h
  obtain ⟨s,rfl,o⟩:=d.str
  obtain ⟨k,rfl,q⟩:=c.str
  have:s=k:=Kj (by rw [o,q];exact DD.1 h)
  subst this
  simp only [Instr.sameBits]
  rw [beq_toListBytes];simp
 ·simp only [oI,beq_eq,beq_iff_eq]at h
  subst h
  rw [d.bool,c.bool]
  simp [Instr.sameBits]
 ·cases h
theorem LS {kk:LK} {d:TypeDesc} (O:kk.fits d) {k v:Aa} {x J:Value} {c:Nat} (q:Ae ρ μ k x) (y:k.single=true) (C:Ae ρ μ v J):∀{A g:List Entry} {new:Bool} {ms:List MapEntry} (n:Nat),Cb ρ μ A ms→AdT kk k v c A=some (g,new)→
  (new=true∧Instr.findNow d x ms n=some none∧Cb ρ μ g (ms++[{key:=x,val:=J,born:=c}]))∨
  (new=false∧∃i M m,Instr.findNow d x ms n=some (some (n+i,M))∧ms[i]?=some m∧Instr.sameBits 10000 m.key x=true∧Cb ρ μ g (ms.modify i fun e=>{e with key:=x,val:=J}))
 |[],g,new,ms,n,he,h=>by
  simp only [Cb]at he
  subst he
  have h:some ([⟨k,v,c⟩],true)=some (g,new):=h
  simp only [oI,Prod.mk.injEq]at h
  obtain ⟨rfl,rfl⟩:=h
  left
  refine ⟨rfl,rfl,?_⟩
  simp only [Cb,List.nil_append]
  exact ⟨_,_,rfl,⟨y,q,C,rfl⟩,rfl⟩
 |e::A,g,new,ms,n,he,h=>by
  simp only [Cb]at he
  obtain ⟨m,rest,rfl,⟨hs,o,D,j⟩,u⟩:=he
  have h:(AG (OX kk k e.key) fun b=>bif b then some (⟨k,v,e.born⟩::A,false)else AG (AdT kk k v c A) fun r=>some (e::r.1,r.2))=some (g,new):=h
  obtain ⟨b,hb,H⟩:=Ab h
  have z:=NT O q o hb
  cases b with
  |true=>
   simp only [cond_true,oI,Prod.mk.injEq]at H
   obtain ⟨rfl,rfl⟩:=H
   right
   refine ⟨rfl,0,m.val,m,by simp [Instr.findNow,z],rfl,?_,?_⟩
   ·exact J3 q o hb
   ·simp only [List.modify_zero_cons,Cb]
    exact ⟨_,_,rfl,⟨y,q,C,j⟩,u⟩
  |false=>
   simp only [cond_false]at H
   obtain ⟨r,P,N⟩:=Ab H
   simp only [oI,Prod.mk.injEq]at N
   obtain ⟨rfl,rfl⟩:=N
   rcases LS O q y C (n+1) u P with ⟨e1,e2,e3⟩|⟨e1,i,M,m',e2,e3,e4,e5⟩
   ·left
    refine ⟨e1,by simp [Instr.findNow,z,e2],?_⟩
    simp only [List.cons_append,Cb]
    exact ⟨_,_,rfl,⟨hs,o,D,j⟩,e3⟩
   ·right
    refine ⟨e1,i+1,M,m',by simp [Instr.findNow,z,e2];omega,by simpa using e3,e4,?_⟩
    simp only [List.modify_succ_cons,Cb]
    exact ⟨_,_,rfl,⟨hs,o,D,j⟩,e5⟩
end
end Go.AM
end
section
namespace Go.AM
section
variable {ρ:Env} {μ:Aq} {Bf:Nat→Option Obj} {a b:Array Value}
theorem AW.congr:∀{d:List PV} {δ c:Nat},(∀i,i<d.length→b[c+i]?=a[δ+i]?)→AW Bf a δ d→AW Bf b c d
 |[],_,_,_,_=>by simp only [AW]
 |p::d,δ,c,h,e=>by
  simp only [AW]at e⊢
  obtain ⟨⟨u,j,k⟩,g⟩:=e
  refine ⟨⟨u,?_,k⟩,AW.congr (δ:=δ+1) (fun i o=>?_) g⟩
  ·have:=h 0 (by simp)
   simpa [j]using this
  ·have:=h (i+1) (by simp;omega)
   rw [show c+1+i=c+(i+1) by omega,this,show δ+1+i=δ+(i+1) by omega]
theorem AW.values:∀{c:List PV} {δ:Nat},AW Bf a δ c→∃l:List Value,l.length=c.length∧(∀j v,l[j]?=some v→a[δ+j]?=some v)∧∀j,j<c.length→a[δ+j]?=l[j]?
 |[],δ,_=>⟨[],rfl,fun j v h=>by simp at h,fun j h=>by simp at h⟩
 |p::c,δ,e=>by
  simp only [AW]at e
  obtain ⟨⟨u,d,x⟩,k⟩:=e
  obtain ⟨l,g,o,q⟩:=AW.values k
  refine ⟨u::l,by simp [g],fun j v h=>?_,fun j h=>?_⟩
  ·cases j with
   |zero=>simp only [List.getElem?_cons_zero,oI]at h;subst h;exact d
   |succ j=>rw [show δ+(j+1)=δ+1+j by omega];exact o j v (by simpa using h)
  ·cases j with
   |zero=>simpa using d
   |succ j=>
    rw [show δ+(j+1)=δ+1+j by omega,q j (by simp at h;omega)]
    simp
theorem Ae.freeze {x:Aa} {p:PV} {v:Value} (hd:Vh ρ (loose x) p) (h:Ae ρ μ x v):Ix μ.Bf p v:=by
 cases x<;>simp only [loose,Vh,LF]at hd
 case nilSlice=>
  obtain ⟨c,rfl⟩:=hd
  have e:v=.slice none 0 0:=by simpa only [Ae]using h
  simp only [Ix]
  exact ⟨0,Nat.le_refl _,.inl ⟨trivial,none,e⟩⟩
 case bool|int|nilPtr=>subst hd;simp only [Ix];simpa only [Ae]using h
 case str=>subst hd;simp only [Ix];exact h.str
 case svar=>subst hd;simp only [Ix];exact h.svar
 case lst f i c n=>
  obtain ⟨_,rfl,_⟩:=hd
  exact h.lst.1
theorem Ax.freeze:∀{d:List Aa} {vs:List Value} {c:List PV} {δ:Nat},CR ρ (CW d) c→Ax ρ μ d vs→(∀i v,vs[i]?=some v→a[δ+i]?=some v)→AW μ.Bf a δ c
 |[],vs,c,δ,hd,h,ha=>by
  have hd:c=[]:=hd
  subst hd
  simp only [AW]
 |x::d,vs,c,δ,hd,h,ha=>by
  have hd:∃p rest,c=p::rest∧Vh ρ (loose x) p∧CR ρ (CW d) rest:=hd
  obtain ⟨p,rest,rfl,o,g⟩:=hd
  simp only [Ax]at h
  obtain ⟨v,y,rfl,⟨_,q⟩,j⟩:=h
  simp only [AW]
  refine ⟨⟨v,by simpa using ha 0 v rfl,q.freeze o⟩,Ax.freeze g j fun i u k=>?_⟩
  rw [show δ+1+i=δ+(i+1) by omega]
  exact ha (i+1) u (by simpa using k)
theorem CR.length:∀{d:List Aa} {c:List PV},CR ρ d c→d.length=c.length
 |[],c,h=>by have h:c=[]:=h;subst h;rfl
 |x::d,c,h=>by
  have h:∃p rest,c=p::rest∧Vh ρ x p∧CR ρ d rest:=h
  obtain ⟨p,rest,rfl,_,g⟩:=h
  simp [CR.length g]
theorem CR.append:∀{j g:List Aa} {c d:List PV},CR ρ j c→CR ρ g d→CR ρ (j++g) (c++d)
 |[],g,c,d,h,h'=>by have h:c=[]:=h;subst h;exact h'
 |x::j,g,c,d,h,h'=>by
  have h:∃p rest,c=p::rest∧Vh ρ x p∧CR ρ j rest:=h
  obtain ⟨p,rest,rfl,k,o⟩:=h
  exact ⟨p,rest++d,rfl,k,CR.append o h'⟩
theorem Eh.flat:∀{d:List (List Aa)} {c:List (List PV)},Eh ρ d c→CR ρ d.flatten c.flatten∧d.length=c.length∧∀n,(∀x∈d,x.length=n)→∀p∈c,p.length=n
 |[],c,h=>by have h:c=[]:=h;subst h;exact ⟨rfl,rfl,fun _ _ _ v=>by cases v⟩
 |x::d,c,h=>by
  have h:∃p rest,c=p::rest∧CR ρ x p∧Eh ρ d rest:=h
  obtain ⟨p,rest,rfl,k,u⟩:=h
  obtain ⟨o,A,z⟩:=Eh.flat u
  refine ⟨?_,by simp [A],fun n j q g=>?_⟩
  ·rw [List.flatten_cons,List.flatten_cons];exact k.append o
  ·rcases List.mem_cons.1 g with rfl|g
   ·rw [←k.length];exact j x List.mem_cons_self
   ·exact z n (fun y C=>j y (List.mem_cons_of_mem _ C)) q g
theorem FM:∀{l:List Aa},(CW l).length=l.length
 |[]=>rfl
 |v::r=>by show (CW r).length+1=_;rw [FM];rfl
theorem SV (size:Nat) (cs:List Aa):HT size 0 cs=match cs with|[]=>some []|_::_=>none:=by cases cs<;>rfl
theorem SW (size n:Nat) (cs:List Aa):HT size (n+1) cs=AG (taken size cs) fun c=>AG (HT size n (dropped size cs)) fun r=>some (c::r):=rfl
theorem DN {size:Nat}:∀{n:Nat} {cs:List Aa} {d:List (List Aa)},HT size n cs=some d→d.flatten=cs∧d.length=n∧∀x∈d,x.length=size
 |0,cs,d,h=>by
  rw [SV]at h
  split at h
  ·simp only [oI]at h;subst h;exact ⟨rfl,rfl,fun _ h=>by cases h⟩
  ·cases h
 |n+1,cs,d,h=>by
  rw [SW]at h
  obtain ⟨c,hc,h⟩:=Ab h
  obtain ⟨r,k,h⟩:=Ab h
  simp only [oI]at h
  subst h
  obtain ⟨o,q,u⟩:=DN k
  obtain ⟨j,v⟩:=Gk hc
  refine ⟨?_,by simp [q],fun x g=>?_⟩
  ·rw [List.flatten_cons,o,j,Jf];exact List.take_append_drop _ _
  ·rcases List.mem_cons.1 g with rfl|g
   ·rw [j,lT'];omega
   ·exact u x g
theorem JO (Γ:Ao) (i c k:Nat):JP Γ i c 0 k=some []:=rfl
theorem QD (Γ:Ao) (i c n k:Nat):JP Γ i c (n+1) k=AG (OS i (.lit (.ofNat k)) Γ.elems) fun cs=>bif Nat.beq (Ad cs) c then AG (JP Γ i c n (k+1)) fun r=>some (cs++r)else none:=rfl
theorem JN {Γ:Ao} (A:Γ.AL ρ) {i o:Nat} {l:List (List PV)} (hl:ρ.lst i=l) {δ:Nat} (u:BU μ.Bf o a δ l):∀{n k:Nat} {cs:List Aa},JP Γ i o n k=some cs→k+n≤l.length→
  cs.length=n*o∧∀j x,cs[j]?=some x→∃v,a[δ+k*o+j]?=some v∧x.single=true∧Ae ρ μ x v
 |0,k,cs,h,hk=>by
  rw [JO]at h
  simp only [oI]at h
  subst h
  exact ⟨by simp,fun j x h=>by simp at h⟩
 |n+1,k,cs,h,hk=>by
  rw [QD]at h
  obtain ⟨c,hc,h⟩:=Ab h
  obtain ⟨d,h⟩:=Ap h
  obtain ⟨r,y,h⟩:=Ab h
  simp only [oI]at h
  subst h
  have d:=An.1 d
  rw [JG]at d
  obtain ⟨C,H⟩:=JN A hl u y (by omega)
  obtain ⟨z,_,g,J⟩:=A.elems _ (Ik hc)
  have g:(ρ.lst i)[k]?=some z:=g
  rw [hl]at g
  obtain ⟨O,M⟩:=u.get k z g
  obtain ⟨P,D⟩:=AW.Tn J M
  refine ⟨by rw [lA,C,d,Nat.add_mul];omega,fun j x q=>?_⟩
  by_cases hj:j<c.length
  ·rw [List.getElem?_append_left hj]at q
   exact D j x q
  ·rw [List.getElem?_append_right (by omega)]at q
   obtain ⟨v,N,hs⟩:=H _ x q
   refine ⟨v,?_,hs⟩
   rw [←N,d]
   congr 1
   rw [Nat.add_mul];rw [d]at hj;omega
theorem O0:∀(l:List Aa),taken l.length l=some l
 |[]=>rfl
 |x::l=>by show (AG (taken l.length l) fun r=>some (x::r))=_;rw [O0 l];rfl
theorem WT (l:List Aa):cut l 0 l.length=some l:=O0 l
end
section
variable {P:Program} {ρ:Env} {μ:Aq} {w:World} {h:Al}
theorem OO (H:AO ρ μ h w) {f:Bool} {i k size n:Nat} {t:ST} {u:Value} {cs:List Aa} (A:Ae ρ μ (.lst f i k t) u) (hs:AdZ h.fx size i k t=some (n,cs)):
  cs.length=n*size∧((n=0∧cs=[]∧∃p c,u=.slice p 0 c)∨∃r δ c a e fr,u=.slice (some ⟨r,δ,none⟩) n c∧w.heap[r]?=some (.cells a e fr)∧∀j x,cs[j]?=some x→∃v,a[δ+j]?=some v∧x.single=true∧Ae ρ μ x v):=by
 unfold AdZ at hs
 split at hs
 ·rename_i m
  obtain ⟨hc,hs⟩:=Ap hs
  obtain ⟨N,d,hs⟩:=Ab hs
  simp only [oI,Prod.mk.injEq]at hs
  obtain ⟨rfl,rfl⟩:=hs
  have hc:=An.1 hc
  subst hc
  obtain ⟨p,c,q,_,y,z⟩:=A.Et
  have y:(m:Int)=((ρ.lst i).length:Int):=y
  have o:(ρ.lst i).length=m:=by omega
  by_cases h0:m=0
  ·subst h0
   rw [JO]at d
   simp only [oI]at d
   subst d
   exact ⟨by simp,.inl ⟨rfl,rfl,p,c,by rw [q,o]⟩⟩
  ·obtain ⟨r,δ,a,e,rfl,g,D⟩:=z (by omega)
   obtain ⟨C,J⟩:=JN H.AY.facts rfl D d (by omega)
   obtain ⟨fr,g⟩:=g
   refine ⟨C,.inr ⟨r,δ,c,a,e,fr,by rw [q,o],(H.AY.Bf _ _ g).1,fun j x M=>?_⟩⟩
   have:=J j x M
   simpa using this
 ·cases hs
theorem JZ {Γ:Al} {size n:Nat} {part:AQ} {new:List Aa} {r:ST×Block} (g:Γ.fx.AL ρ) (c:Ir Γ size part n new=some r):
  ∃(j:Nat) (A B:List (List PV)),r.2=.list j size∧r.1.den ρ=((ρ.lst j).length:Int)∧(ρ.lst j).length≤1048576∧ρ.lst j=A++B∧FG ρ part A∧B.length=n∧(∀p∈B,p.length=size)∧CR ρ (CW new) B.flatten:=by
 unfold Ir at c
 obtain ⟨_,c⟩:=Ap c
 obtain ⟨O,q,c⟩:=Ab c
 obtain ⟨j,J,c⟩:=Ab c
 obtain ⟨t,z,c⟩:=Ab c
 obtain ⟨hb,c⟩:=Ap c
 simp only [oI]at c
 subst c
 obtain ⟨v,P,u⟩:=DN q
 obtain ⟨A,D,x,y,B,C,o,M,d⟩:=g.defs _ (EZ J)
 have d:C=[]:=d
 subst d
 rw [List.append_nil]at o
 subst o
 obtain ⟨k,N,H⟩:=Eh.flat M
 have hl:=g.Ad _ (CG z)
 have hl:t.den ρ=((ρ.lst j).length:Int):=hl
 have hb:=Gw g hb
 have hb:t.den ρ≤1048576:=hb
 exact ⟨j,A,D,rfl,hl,by omega,x,y,by omega,H size u,by rw [v]at k;exact k⟩
theorem Sc {a b:Option (Aa×Al)} {r:Aa×Al} (h:orR a b=some r):a=some r∨b=some r:=by
 cases a with
 |none=>exact .inr h
 |some x=>exact .inl h
theorem B9.two {p:List AQ} {q:AQ}:∀{l:List (List PV)},B9 ρ (p++[q]) l→∃x y,l=x++y∧B9 ρ p x∧FG ρ q y:=by
 induction p with
 |nil=>
  intro l h
  obtain ⟨x,y,rfl,d,c⟩:=h
  have c:y=[]:=c
  subst c
  exact ⟨[],x,by simp,rfl,d⟩
 |cons z p ih=>
  intro l h
  obtain ⟨x,y,rfl,d,c⟩:=h
  obtain ⟨g,j,rfl,o,k⟩:=ih c
  exact ⟨x++g,j,(List.append_assoc _ _ _).symm,⟨x,g,rfl,d,o⟩,k⟩
theorem Ka {h:Al} {size n:Nat} {x:Aa} {new:List Aa} {r:Aa×Al} (d:h.fx.AL ρ) (c:LM h size x n new=some r):
  ∃(p:List AQ) (j:Nat) (t:ST) (A B:List (List PV)),Pw h size x=some p∧r=(.vec h.next size t,h.add (.list j size))∧t.den ρ=((ρ.lst j).length:Int)∧(ρ.lst j).length≤1048576∧ρ.lst j=A++B∧B9 ρ p A∧B.length=n∧(∀p∈B,p.length=size)∧CR ρ (CW new) B.flatten:=by
 unfold LM at c
 obtain ⟨_,c⟩:=Ap c
 obtain ⟨p,v,c⟩:=Ab c
 obtain ⟨M,k,c⟩:=Ab c
 obtain ⟨j,D,c⟩:=Ab c
 obtain ⟨t,z,c⟩:=Ab c
 obtain ⟨hb,c⟩:=Ap c
 simp only [oI]at c
 subst c
 obtain ⟨q,N,o⟩:=DN k
 obtain ⟨A,B,u,y,H⟩:=B9.two (d.defs _ (OF D))
 obtain ⟨g,J,C⟩:=Eh.flat H
 have hl:t.den ρ=((ρ.lst j).length:Int):=d.Ad _ (CG z)
 have hb:t.den ρ≤1048576:=Gw d hb
 exact ⟨p,j,t,A,B,v,rfl,hl,by omega,u,y,by omega,C size o,by rw [q]at g;exact g⟩
end
end Go.AM
end
section
namespace Go.AM
section
variable {P:Program} {Γ:Ao} {ρ:Env} {μ:Aq} {tm:Tr Aa} {a:Act} {w:World} {h:Al}
theorem Gn {r:Nat} {ms:Array MapEntry} {k:Nat} (c:w.heap[r]?=some (.map ms k)) (o:Obj):(setObj r o).run P w=.ok () {w with heap:=w.heap.setIfInBounds r o}:=by
 simp [setObj,Sem.run,c]
theorem LR {Bf:Nat→Option Obj} {b:ByteArray} {x:Array Value} {q:List PV} (hs:x.size=q.length) (C:AW Bf x 0 q):∀{l:List (List Nat×List PV)} {ms:List MapEntry} (n:Nat),Jm Bf l ms→
  (Instr.findNow .string (.string b) ms n=some none∧∀born,Jm Bf (Bn l (strOf b) q) (ms++[{key:=.string b,val:=.agg x,born:=born}]))∨
  (∃i A m,Instr.findNow .string (.string b) ms n=some (some (n+i,A))∧ms[i]?=some m∧Instr.sameBits 10000 m.key (.string b)=true∧Jm Bf (Bn l (strOf b) q) (ms.modify i fun e=>{e with key:=.string b,val:=.agg x}))
 |[],ms,n,j=>by
  have j:ms=[]:=j
  subst j
  exact .inl ⟨rfl,fun born=>⟨_,_,rfl,⟨b,rfl,rfl⟩,⟨x,rfl,hs,C⟩,rfl⟩⟩
 |e::es,ms,n,j=>by
  obtain ⟨m,rest,rfl,⟨o,g,d⟩,⟨y,D,z,v⟩,c⟩:=j
  have k:Instr.sameNow .string (.string b) m.key=some (decide (strOf b=e.1)):=by
   rw [g,←d]
   have:decide (strOf b=strOf o)=(b.toList==o.toList):=by rw [←CT,Bool.eq_iff_iff,DD];simp
   rw [this,←beq_toListBytes]
   simp [Instr.sameNow]
  by_cases hc:e.1=strOf b
  ·right
   refine ⟨0,m.val,m,by simp [Instr.findNow,k,hc],rfl,?_,?_⟩
   ·rw [g]
    have:o=b:=Kj (by rw [d,hc])
    subst this
    simp only [Instr.sameBits]
    rw [beq_toListBytes];simp
   ·simp only [List.modify_zero_cons,Bn,hc,if_true]
    exact ⟨_,_,rfl,⟨b,rfl,rfl⟩,⟨x,rfl,hs,C⟩,c⟩
  ·have u:¬strOf b=e.1:=fun h=>hc h.symm
   rcases LR (b:=b) hs C (n+1) c with ⟨h3,h4⟩|⟨i,A,m',h3,h4,h5,h6⟩
   ·left
    refine ⟨by simp [Instr.findNow,k,u,h3],fun born=>?_⟩
    simp only [Bn,if_neg hc,List.cons_append]
    exact ⟨_,_,rfl,⟨o,g,d⟩,⟨y,D,z,v⟩,h4 born⟩
   ·right
    refine ⟨i+1,A,m',by simp [Instr.findNow,k,u,h3];omega,by simpa using h4,h5,?_⟩
    simp only [List.modify_succ_cons,Bn,if_neg hc]
    exact ⟨_,_,rfl,⟨o,g,d⟩,⟨y,D,z,v⟩,h6⟩
theorem Nq {o:Oper} {t kt e:TypeId} {m k x:Operand} {kk:LK} (C:o.op=.mapUpdate t m k x∨o.op=.insert t m k x) (H:AO ρ μ h w) (hT:Be ρ μ tm a) (hu:P.underlying t=some (.map kt e)) (hk:XK P kt=some kk) {h':Al}
  (hs:Uc h kk (ev tm (AJ m)) (ev tm (AJ k)) (ev tm (AJ x))=some h'):EG P ρ μ h a o w (.val .any h'):=by
 have hm:=Au hT m
 have au:=Au hT k
 have hx:=Au hT x
 obtain ⟨d,hd,hf⟩:=OW hk
 unfold Uc at hs
 split at hs
 ·rename_i b e1
  unfold ZZ at hs
  split at hs
  ·rename_i i R
   obtain ⟨aF,Q⟩:=Ap hs
   clear hs
   obtain ⟨rfl,s,aq⟩:=KV (ρ:=ρ) aF
   have hf:d=.string:=hf
   subst hf
   obtain ⟨kb,Z,rfl⟩:=BW aq au
   unfold ZY at Q
   split at Q
   ·rename_i cs aB
    obtain ⟨_,O⟩:=Ap Q
    obtain ⟨j,hj,O⟩:=Ab O
    simp only [oI]at O
    subst O
    obtain ⟨s',ps,q1,q2,q3⟩:=H.AY.facts.Lx _ (OP hj)
    have q1:Eo ρ (ev tm (AJ k))=some s':=q1
    rw [aq]at q1
    simp only [oI]at q1
    subst q1
    have q2:CR ρ (CW cs) ps:=q2
    have q3:ρ.map j=Bn (ρ.map i) (strOf kb) ps:=q3
    rw [aB]at hx
    obtain ⟨xa,ex,ap⟩:=hx.agg
    have ay:xa.size=ps.length:=by
     have h1:=ap.length
     have h2:=q2.length
     rw [FM]at h2
     simp at h1
     omega
    have aC:AW μ.Bf xa 0 ps:=Ax.freeze q2 ap fun i v hv=>by simpa using hv
    rw [e1]at hm
    obtain ⟨g,hg,e2⟩:=hm.NW
    obtain ⟨g',ms,D,z,q,he⟩:=H.smap (E6 R)
    rw [hg]at z
    simp only [oI,Prod.mk.injEq]at z
    obtain ⟨rfl,_⟩:=z
    have M:(getObj g).run P w=.ok (.map ms D) w:=by simp [getObj,Sem.run,q]
    have J:(Instr.checkKey false 10000 kt (a.eval k)).run P w=.ok () w:=GG hd (kk:=.str) rfl false 9999 _
    have U:g<w.heap.size:=(Array.getElem?_eq_some_iff.1 q).1
    have A:∀(u:Array MapEntry) (cl:Nat),Jm μ.Bf (ρ.map j) u.toList→Aw ρ μ h w μ (h.set b (some (.smap j))) {w with heap:=w.heap.setIfInBounds g (.map u cl)}:=fun u cl af=>by
     refine Aw.change H (E6 R) hg (.smap j) (fun i R=>?_) (by simp) rfl rfl ?_
     ·show (w.heap.setIfInBounds g _)[i]?=_
      rw [Array.getElem?_setIfInBounds_ne (Ne.symm R)]
     ·refine ⟨rfl,u,cl,?_,af⟩
      show (w.heap.setIfInBounds g _)[g]?=_
      rw [Array.getElem?_setIfInBounds_self_of_lt U]
    have run:∀(N:World),(Instr.mapUpdate t (a.eval m) (a.eval k) (a.eval x)).run P w=.ok () N→(execOp a.eval o).run P w=.ok .skip N:=fun N c=>by
     rcases C with C|C<;>simp [execOp,C,c]
    rcases LR (b:=kb) ay aC 0 he with ⟨e4,e5⟩|⟨i',v0,m',e4,e5,e6,e7⟩
    ·rw [←Z]at e4
     have y:=run_findKey (P:=P) (w:=w) hd e4
     have c:(Instr.mapUpdate t (a.eval m) (a.eval k) (a.eval x)).run P w=.ok () {w with heap:=w.heap.setIfInBounds g (.map (ms.push {key:=a.eval k,val:=a.eval x,born:=D}) (D+1))}:=by
      simp only [Instr.mapUpdate,Sem.run_bind,run_underlying hu,Result.andThen_ok,e2,M,J,y]
      exact Gn q _
     refine ⟨.skip,undef,_,μ,run _ c,.inr ⟨rfl,rfl⟩,?_,trivial⟩
     exact A _ _ (by rw [q3,Z,ex];simpa using e5 D)
    ·rw [←Z]at e4
     have y:=run_findKey (P:=P) (w:=w) hd e4
     rw [Nat.zero_add]at y
     have ab:ms[i']?=some m':=by simpa using e5
     have ad:(Instr.keyThatStays (((ms[i']?).map (·.key)).getD (a.eval k)) (a.eval k)).run P w=.ok (a.eval k) w:=by
      rw [ab]
      simp only [Option.map_some,Option.getD_some,Instr.keyThatStays]
      rw [if_pos (by rw [Z];exact e6)]
      rfl
     have c:(Instr.mapUpdate t (a.eval m) (a.eval k) (a.eval x)).run P w=.ok () {w with heap:=w.heap.setIfInBounds g (.map (ms.modify i' fun e=>{e with key:=a.eval k,val:=a.eval x}) D)}:=by
      simp only [Instr.mapUpdate,Sem.run_bind,run_underlying hu,Result.andThen_ok,e2,M,J,y,ad]
      exact Gn q _
     refine ⟨.skip,undef,_,μ,run _ c,.inr ⟨rfl,rfl⟩,?_,trivial⟩
     exact A _ _ (by rw [q3,Z,ex];simpa using e7)
   ·cases Q
  rename_i aO
  obtain ⟨mm,ao,hs⟩:=Ab hs
  obtain ⟨ai,hs⟩:=Ap hs
  obtain ⟨r,hr,hs⟩:=Ab hs
  simp only [oI]at hs
  subst hs
  rw [e1]at hm
  obtain ⟨g,hg,e2⟩:=hm.NW
  obtain ⟨g',ms,z,q,he⟩:=H.map (DF ao)
  rw [hg]at z
  simp only [oI,Prod.mk.injEq]at z
  obtain ⟨rfl,_⟩:=z
  have M:(getObj g).run P w=.ok (.map ms mm.2) w:=by simp [getObj,Sem.run,q]
  have J:(Instr.checkKey false 10000 kt (a.eval k)).run P w=.ok () w:=GG hd hf false 9999 _
  have U:g<w.heap.size:=(Array.getElem?_eq_some_iff.1 q).1
  have A:∀(u:Array MapEntry) (cl:Nat),Cb ρ μ r.1 u.toList→Aw ρ μ h w μ (h.set b (some (.map r.1 cl))) {w with heap:=w.heap.setIfInBounds g (.map u cl)}:=fun u cl af=>by
   refine Aw.change H (DF ao) hg (.map r.1 cl) (fun i R=>?_) (by simp) rfl rfl ?_
   ·show (w.heap.setIfInBounds g _)[i]?=_
    rw [Array.getElem?_setIfInBounds_ne (Ne.symm R)]
   ·refine ⟨rfl,u,?_,af⟩
    show (w.heap.setIfInBounds g _)[g]?=_
    rw [Array.getElem?_setIfInBounds_self_of_lt U]
  have run:∀(N:World),(Instr.mapUpdate t (a.eval m) (a.eval k) (a.eval x)).run P w=.ok () N→(execOp a.eval o).run P w=.ok .skip N:=fun N c=>by
   rcases C with C|C<;>simp [execOp,C,c]
  rcases LS hf au ai hx 0 he hr with ⟨e3,e4,e5⟩|⟨e3,i,v0,m',e4,e5,e6,e7⟩
  ·have y:=run_findKey (P:=P) (w:=w) hd e4
   have c:(Instr.mapUpdate t (a.eval m) (a.eval k) (a.eval x)).run P w=.ok () {w with heap:=w.heap.setIfInBounds g (.map (ms.push {key:=a.eval k,val:=a.eval x,born:=mm.2}) (mm.2+1))}:=by
    simp only [Instr.mapUpdate,Sem.run_bind,run_underlying hu,Result.andThen_ok,e2,M,J,y]
    exact Gn q _
   refine ⟨.skip,undef,_,μ,run _ c,.inr ⟨rfl,rfl⟩,?_,trivial⟩
   rw [e3]
   exact A _ _ (by simpa using e5)
  ·have y:=run_findKey (P:=P) (w:=w) hd e4
   rw [Nat.zero_add]at y
   have ab:ms[i]?=some m':=by simpa using e5
   have ad:(Instr.keyThatStays (((ms[i]?).map (·.key)).getD (a.eval k)) (a.eval k)).run P w=.ok (a.eval k) w:=by
    rw [ab]
    simp only [Option.map_some,Option.getD_some,Instr.keyThatStays]
    rw [if_pos e6]
    rfl
   have c:(Instr.mapUpdate t (a.eval m) (a.eval k) (a.eval x)).run P w=.ok () {w with heap:=w.heap.setIfInBounds g (.map (ms.modify i fun e=>{e with key:=a.eval k,val:=a.eval x}) mm.2)}:=by
    simp only [Instr.mapUpdate,Sem.run_bind,run_underlying hu,Result.andThen_ok,e2,M,J,y,ad]
    exact Gn q _
   refine ⟨.skip,undef,_,μ,run _ c,.inr ⟨rfl,rfl⟩,?_,trivial⟩
   rw [e3]
   exact A _ _ (by simpa using e7)
 ·cases hs
theorem FR (l:List UInt8):Ax ρ μ (byteCells (l.map (·.toNat))) (l.map fun b=>.int .u8 (b.toNat:Int)):=by
 induction l with
 |nil=>show Ax ρ μ [] [];simp only [Ax]
 |cons b l ih=>
  show Ax ρ μ (.int .u8 (.lit (.ofNat b.toNat))::byteCells (l.map (·.toNat))) _
  simp only [Ax,List.map_cons]
  exact ⟨_,_,rfl,⟨rfl,by simp only [Ae,ST.den];rfl⟩,ih⟩
theorem Dp (H:AO ρ μ h w) {size n:Nat} {bytes:Bool} {x:Aa} {u:Value} {cs:List Aa} (q:Ae ρ μ x u) (hs:Jz h size bytes x=some (n,cs)):
  (Builtin.lenOf u).run P w=.ok n w∧cs.length=n*size∧∃L:Array Value,(Builtin.firstCells size n u).run P w=.ok L w∧Ax ρ μ cs L.toList:=by
 have key:∀(b g len r δ m c:Nat),Ma h size b g len=some (n,cs)→μ b=some (r,δ,m)→u=.slice (some ⟨r,δ+g,none⟩) len c→
   (Builtin.lenOf u).run P w=.ok n w∧cs.length=n*size∧∃L:Array Value,(Builtin.firstCells size n u).run P w=.ok L w∧Ax ρ μ cs L.toList:=fun b g len r δ m c hs y e=>by
  subst e
  unfold Ma at hs
  rw [AP]at hs
  by_cases h0:len=0
  ·rw [if_pos h0]at hs
   simp only [oI,Prod.mk.injEq]at hs
   obtain ⟨rfl,rfl⟩:=hs
   subst h0
   exact ⟨by simp [Builtin.lenOf],by simp,#[],by simp [Builtin.firstCells,loadCells,loadCellsFrom],by simp only [Ax]⟩
  ·rw [if_neg h0]at hs
   obtain ⟨vs,Q,hs⟩:=Ab hs
   obtain ⟨R,D,hs⟩:=Ab hs
   simp only [oI,Prod.mk.injEq]at hs
   obtain ⟨rfl,rfl⟩:=hs
   obtain ⟨r2,δ2,Z,U,e2,k,M,_,hc⟩:=H.cells Q
   rw [y]at k
   simp only [oI,Prod.mk.injEq]at k
   obtain ⟨rfl,rfl,rfl⟩:=k
   obtain ⟨l,C,A,z⟩:=DM hc D
   have d:=run_loadCells_list (P:=P) (w:=w) ⟨r,δ+g,none⟩ l (fun j v N=>by rw [Addr.Bl,Cz M];exact z j v N)
   rw [C]at d
   exact ⟨by simp [Builtin.lenOf],(JX D).1,l.toArray,by simp [Builtin.firstCells,d],by simpa using A⟩
 unfold Jz at hs
 split at hs
 ·obtain ⟨O,⟨rfl,rfl,p,c,rfl⟩|⟨r,δ,c,ar,e,_,rfl,M,hc⟩⟩:=OO H q hs
  ·cases p
   ·exact ⟨by simp [Builtin.lenOf],by simp,#[],by simp [Builtin.firstCells],by simp only [Ax]⟩
   ·exact ⟨by simp [Builtin.lenOf],by simp,#[],by simp [Builtin.firstCells,loadCells,loadCellsFrom],by simp only [Ax]⟩
  ·obtain ⟨l,C,A,z⟩:=DM hc (WT cs)
   have d:=run_loadCells_list (P:=P) (w:=w) ⟨r,δ,none⟩ l (fun j v N=>by rw [Addr.Bl,Cz M];simpa using z j v N)
   rw [C,O]at d
   exact ⟨by simp [Builtin.lenOf],O,l.toArray,by simp [Builtin.firstCells,d],by simpa using A⟩
 ·simp only [oI,Prod.mk.injEq]at hs
  obtain ⟨rfl,rfl⟩:=hs
  have e:u=.slice none 0 0:=by simpa only [Ae]using q
  subst e
  exact ⟨by simp [Builtin.lenOf],by simp,#[],by simp [Builtin.firstCells],by simp only [Ax]⟩
 ·obtain ⟨r,δ,m,y,e,_⟩:=q.slice
  exact key _ _ _ _ _ _ _ hs y e
 ·obtain ⟨r,δ,m,c,y,e,_⟩:=q.gslice
  exact key _ _ _ _ _ _ _ hs y e
 ·rename_i s
  obtain ⟨o,J⟩:=Ap hs
  clear hs
  have o:=An.1 o
  subst o
  simp only [oI,Prod.mk.injEq]at J
  obtain ⟨rfl,rfl⟩:=J
  obtain ⟨b,rfl,rfl⟩:=q.str
  refine ⟨by simp [Builtin.lenOf,Dq,BK],?_,(b.data.map fun c=>.int .u8 c.toNat),?_,?_⟩
  ·have:=(FR (ρ:=ρ) (μ:=μ) b.data.toList).length
   unfold strOf
   rw [this,Dq];simp
  ·have:b.extract 0 (Iw (strOf b))=b:=by
    rw [Dq,BK]
    obtain ⟨⟨l⟩⟩:=b
    have:=ByteArray.extract_mk l 0 l.length
    rw [show (⟨⟨l⟩⟩:ByteArray)=ByteArray.mk l.toArray from rfl]
    rw [show (ByteArray.mk l.toArray).size=l.length from by simp [ByteArray.size],this]
    simp
   simp [Builtin.firstCells,this]
  ·simpa [strOf]using FR (ρ:=ρ) (μ:=μ) b.data.toList
 ·cases hs
def EH (d:TypeDesc):Prop:=(∃e,d=.slice e)∨d=.string
theorem C2 {t u ty e:TypeId} {d:TypeDesc} (y:P.underlying t=some (.slice e)) (q:P.underlying u=some d) (hd:EH d) {size n c j:Nat} {x:Value} {L:Array Value} {w':World} {g:Option Addr}
  (hs:(sizeOf e).run P w=.ok size w) (z:(Builtin.lenOf x).run P w=.ok n w) (o:c+n≤j) (v:(Builtin.firstCells size n x).run P w=.ok L w)
  (k:match g with|some p=>(storeCells (p.add (c*size)) L.toList).run P w=.ok () w'|none=>w'=w):
  (Builtin.append_ #[t,u] ty #[.slice g c j,x]).run P w=.ok (.slice g (c+n) j) w':=by
 have A:(do pure (match (←underlying u)with|.int _=>true|_=>false):Sem Bool).run P w=.ok false w:=by
  rcases hd with ⟨e',rfl⟩|rfl<;>simp [run_underlying q]
 cases g with
 |none=>
  simp only at k
  subst k
  rcases hd with ⟨e',rfl⟩|rfl<;>simp [Builtin.append_,run_underlying y,run_underlying q,hs,z,o,v]
 |some p=>
  simp only at k
  rcases hd with ⟨e',rfl⟩|rfl<;>simp [Builtin.append_,run_underlying y,run_underlying q,hs,z,o,v,k]
theorem DW {t u ty e:TypeId} {d:TypeDesc} (M:P.underlying t=some (.slice e)) (J:P.underlying u=some d) (hd:EH d) {i:TypeInfo} {z:Value} (H:P.info? e=some i) (Q:i.zero=some z) {n c g:Nat} {x:Value} {O L:Array Value} {j:Option Addr}
  (N:(Builtin.lenOf x).run P w=.ok n w) (A:g<c+n) (C:(Builtin.firstCells i.size c (.slice j c g)).run P w.drew=.ok O w.drew) (D:(Builtin.firstCells i.size n x).run P w.drew=.ok L w.drew)
  (hb:i.bytes≤1048576) (U:c+n≤1048576):
  ∃k rest,c+n≤k∧rest.size=(k-(c+n))*z.cells.size∧rest=Builtin.zeroCells z.cells (k-(c+n))∧(Builtin.append_ #[t,u] ty #[.slice j c g,x]).run P w=.ok (.slice (some ⟨w.heap.size,0,none⟩) (c+n) k) (w.drew.alloc (.cells (O++L++rest) e)):=by
 have q:¬(c+n≤g):=by omega
 have v:¬(9223372036854775807<((c:Int)+(n:Int))):=by omega
 have o:=nextslicecap_le A
 have R:Builtin.nextslicecap (c+n) g*i.bytes≤281474976710656:=by
  have:=Nat.mul_le_mul o hb
  have h2:2*(c+n)*1048576≤2*1048576*1048576:=by omega
  omega
 have y:¬(281474976710656<Builtin.nextslicecap (c+n) g*i.bytes):=by omega
 refine ⟨grownCap w (c+n) g e,Builtin.zeroCells z.cells (grownCap w (c+n) g e-(c+n)),?_,by simp [Builtin.zeroCells],rfl,?_⟩
 ·exact Nat.le_add_right _ _
 ·have Z:=C
  rcases hd with ⟨e',rfl⟩|rfl<;>
   simp [Builtin.append_,run_underlying M,run_underlying J,sizeOf,typeInfo,zeroValue,H,Q,N,q,v,y,Question.forced,C,D,newRow,grownCap]
theorem Aw.drop (H:AO ρ μ h w) (b:Nat):Aw ρ μ h w μ (h.set b none) w:=
 have hs:∀c B,(h.set b none).get c=some B→h.get c=some B:=fun c B hc=>by
  rw [Al.Bq]at hc
  split at hc
  ·cases hc
  ·exact hc
 ⟨μ.le_refl,H.drop _ rfl rfl hs,Nat.le_refl _,fun r _ d=>⟨rfl,fun ⟨c,B,δ,hc,hm⟩=>d ⟨c,B,δ,hs c B hc,hm⟩⟩,rfl,rfl,Nat.le_refl _,fun _ _=>rfl,fun _ _ h=>.inl h,rfl⟩
theorem Aw.WC {w':World} (H:AO ρ μ h w) {b:Nat} {A:Block} {r:Nat} {C:Nat×Nat} (hb:h.get b=some A) (J:μ b=some (r,C)) (B:Block) (δ:Nat×Nat)
  (N:∀i,i≠r→w'.heap[i]?=w.heap[i]?) (aa:w'.heap.size=w.heap.size) (D:w'.os=w.os) (z:w'.output=w.output) (hB:∀M:Aq,μ.le M→CL ρ M B w'.heap[r]? δ):
  Aw ρ μ h w (μ.put h.next (r,δ)) ((h.set b none).add B) w':=by
 have v:μ.le (μ.put h.next (r,δ)):=Aq.Qx (H.fresh _ (Nat.le_refl _))
 have q:∀c j s k,((h.set b none).add B).get c=some j→μ.put h.next (r,δ) c=some (s,k)→(c=h.next∧s=r∧j=B∧k=δ)∨(h.get c=some j∧μ c=some (s,k)∧c≠b):=fun c j s k hc d=>by
  rw [Al.JM,Al.Bq]at hc
  by_cases e:c=h.next
  ·subst e
   rw [Aq.BQ]at d
   simp only [oI,Prod.mk.injEq]at d
   rw [if_pos (Al.JC ..).symm]at hc
   simp only [oI]at hc
   exact .inl ⟨rfl,d.1.symm,hc.symm,d.2.symm⟩
  ·rw [if_neg (by rw [Al.JC];exact e)]at hc
   rw [Aq.Cm _ _ e]at d
   split at hc
   ·cases hc
   ·rename_i o
    exact .inr ⟨hc,d,o⟩
 have o:∀c j s k,h.get c=some j→μ c=some (s,k)→c≠b→s≠r:=fun c j s k hc d x e=>x (H.inj _ _ _ _ _ _ _ hc hb d (e▸J))
 have u:∀s,s<w.heap.size→¬AU μ h s→w'.heap[s]?=w.heap[s]?∧¬AU (μ.put h.next (r,δ)) ((h.set b none).add B) s:=fun s hs O=>by
  have y:s≠r:=fun e=>O ⟨b,A,C,hb,e▸J⟩
  refine ⟨N s y,?_⟩
  rintro ⟨c,j,k,hc,d⟩
  rcases q _ _ _ _ hc d with ⟨_,e,_,_⟩|⟨g,n,_⟩
  ·exact y e
  ·exact O ⟨c,j,k,g,n⟩
 refine ⟨v,⟨fun c hc=>?_,fun c j hc=>?_,fun c c' B1 B2 s δ1 δ2 Z P R Q=>?_,H.Gl u⟩,by omega,u,D,z,Nat.le_succ _,fun b hb=>Aq.Cm _ _ (by omega),fun _ _ h=>.inl h,rfl⟩
 ·rw [Al.JD,Al.JC]at hc
  rw [Aq.Cm _ _ (by omega)]
  exact H.fresh c (by omega)
 ·by_cases e:c=h.next
  ·subst e
   refine ⟨r,δ,Aq.BQ _ _ _,?_⟩
   rcases q _ _ _ _ hc (Aq.BQ _ _ _)with ⟨_,_,rfl,_⟩|⟨hg,d,_⟩
   ·exact hB _ v
   ·rw [H.fresh _ (Nat.le_refl _)]at d;cases d
  ·have ab:=hc
   rw [Al.JM,Al.Bq,if_neg (by rw [Al.JC];exact e)]at hc
   split at hc
   ·cases hc
   ·rename_i x
    obtain ⟨s,k,d,U⟩:=H.blk c j hc
    refine ⟨s,k,by rw [Aq.Cm _ _ e];exact d,?_⟩
    rw [N s (o _ _ _ _ hc d x)]
    exact U.mono v
 ·rcases q _ _ _ _ Z R with ⟨e1,e2,_,_⟩|⟨g1,n1,c1⟩<;>rcases q _ _ _ _ P Q with ⟨e3,e4,_,_⟩|⟨g2,n2,c2⟩
  ·rw [e1,e3]
  ·exact absurd e2 (o _ _ _ _ g2 n2 c2)
  ·exact absurd e4 (o _ _ _ _ g1 n1 c1)
  ·exact H.inj _ _ _ _ _ _ _ g1 g2 n1 n2
theorem Ov {old new:List Aa} {O L rest:Array Value} {e:TypeId} {m:Nat} (o:Ax ρ μ old O.toList) (q:Ax ρ μ new L.toList) (z:m≤(O++L++rest).size) (d:Aq) (g:μ.le d):
  CL ρ d (.cells (old++new)) (some (.cells (O++L++rest) e)) (0,m):=by
 refine ⟨_,e,rfl,by omega,fun i x y=>?_⟩
 have j:=Ax.append o q
 obtain ⟨v,c,hs,u⟩:=j.get y
 refine ⟨v,?_,hs,u.mono g⟩
 rw [Nat.zero_add]
 have k:=(List.getElem?_eq_some_iff.1 c).1
 rw [Array.getElem?_append_left (by simpa using k)]
 rw [←Array.toList_append]at c
 rw [Array.getElem?_toList]at c
 exact c
theorem Gf {o:Oper} {c:Call} {t u e:TypeId} {d:TypeDesc} {x y:Operand} (ho:o.op=.call c) (b2:c.callee=.builtin .append) (bK:c.args=#[x,y]) (bX:c.argTypes=#[t,u])
  (H:AO ρ μ h w) (hT:Be ρ μ tm a) (ht:P.underlying t=some (.slice e)) (hu:P.underlying u=some d) (hd:EH d) {i:TypeInfo} (hi:P.info? e=some i) (hb:i.bytes≤1048576) (hz:(i.zero.map fun v=>Nat.beq v.cells.size i.size).getD false=true)
  {n:Nat} {new:List Aa} (hs:∀w',w'=w∨w'=w.drew→(Builtin.lenOf (a.eval y)).run P w'=.ok n w'∧new.length=n*i.size∧∃L:Array Value,(Builtin.firstCells i.size n (a.eval y)).run P w'=.ok L w'∧Ax ρ μ new L.toList) {r:Aa×Al} (g:Is h i.size (ev tm (AJ x)) n new=some r):EG P ρ μ h a o w (.val r.1 r.2):=by
 have R:=Au hT x
 obtain ⟨z,hz,hzs⟩:∃z,i.zero=some z∧z.cells.size=i.size:=by
  cases e:i.zero with
  |none=>rw [e]at hz;simp at hz
  |some z=>rw [e]at hz;exact ⟨z,rfl,An.1 (by simpa using hz)⟩
 obtain ⟨aM,a2,L,hL,af⟩:=hs w (.inl rfl)
 obtain ⟨_,_,L',bR,az⟩:=hs w.drew (.inr rfl)
 have bd:(sizeOf e).run P w=.ok i.size w:=by simp [sizeOf,typeInfo,hi]
 have run:∀{v:Value} {wf:World},(Builtin.append_ #[t,u] o.type #[a.eval x,a.eval y]).run P w=.ok v wf→(execOp a.eval o).run P w=.ok (.value v) wf:=fun {v wf} aF=>by
  simp [execOp,ho,resolve,b2,bK,bX,invoke,builtin,aF]
 unfold Is at g
 rw [AP]at g
 by_cases h0:n=0
 ·
  rw [if_pos h0]at g
  subst h0
  have aQ:new=[]:=by
   have:new.length=0:=by simpa using a2
   exact List.eq_nil_of_length_eq_zero this
  subst aQ
  have ci:L.toList=[]:=by simpa only [Ax]using af
  have same:∀(J:Option Addr) (len cap:Nat),a.eval x=.slice J len cap→len≤cap→r=(ev tm (AJ x),h)→EG P ρ μ h a o w (.val r.1 r.2):=fun J len cap M ad er=>by
   subst er
   refine ⟨.value (a.eval x),a.eval x,w,μ,run ?_,.inl rfl,Aw.refl H,R⟩
   rw [M]
   refine C2 ht hu hd bd aM (by omega) hL ?_
   cases J with
   |none=>rfl
   |some p=>simp [ci,storeCells]
  unfold Xe at g
  split at g
  ·rename_i M
   have er:r=(ev tm (AJ x),h):=by rw [M];simpa using g.symm
   rw [M]at R
   obtain ⟨p,c',N,ad,_⟩:=R.Et
   exact same _ _ _ N ad er
  ·rename_i M
   have er:r=(ev tm (AJ x),h):=by rw [M];simpa using g.symm
   rw [M]at R
   obtain ⟨r0,m0,k0,_,N,_,k1,k2⟩:=R.vec
   exact same _ _ _ N (by omega) er
  ·rename_i M
   rw [M]at R
   have N:a.eval x=.slice none 0 0:=by simpa only [Ae]using R
   simp only [oI]at g
   exact same _ _ _ N (Nat.le_refl _) g.symm
  ·rename_i M
   rw [M]at R
   obtain ⟨_,_,_,_,N,ad⟩:=R.slice
   simp only [oI]at g
   exact same _ _ _ N ad g.symm
  ·rename_i M
   rw [M]at R
   obtain ⟨_,_,_,_,_,N,ad,_⟩:=R.gslice
   simp only [oI]at g
   exact same _ _ _ N ad g.symm
  ·cases g
 ·rw [if_neg h0]at g
  have fresh:∀(J:Option Addr) (len cap:Nat) (h1:Al) (old:List Aa) (O:Array Value),a.eval x=.slice J len cap→cap<len+n→len+n≤1048576→Aw ρ μ h w μ h1 w→old.length=len*i.size→
    (Builtin.firstCells i.size len (.slice J len cap)).run P w.drew=.ok O w.drew→Ax ρ μ old O.toList→r=(.gslice h1.next 0 (len+n) i.size,h1.add (.cells (old++new)))→EG P ρ μ h a o w (.val r.1 r.2):=fun J len cap h1 old O M ah D an ao U ai er=>by
   subst er
   obtain ⟨nc,rest,bE,aR,_,aF⟩:=DW (P:=P) (ty:=o.type) (O:=O) (L:=L') ht hu hd hi hz aM ah U bR hb D
   have aV:O.size=len*i.size:=by have:=ai.length;simp at this;omega
   have aZ:L'.size=n*i.size:=by have:=az.length;simp at this;omega
   have bC:(O++L'++rest).size=nc*i.size:=by
    simp only [Array.size_append,aV,aZ,aR,hzs]
    rw [←Nat.add_mul,←Nat.add_mul]
    congr 1;omega
   have a3:=Aw.add an.rel.drew (.cells (old++new)) (.cells (O++L'++rest) e) (0,nc*i.size) (fun μ' ad=>Ov ai az (by omega) μ' ad)
   refine ⟨.value _,_,_,_,run (by rw [M];exact aF),.inl rfl,(an.trans (Aw.drew an.rel)).trans a3,?_⟩
   simp only [Ae]
   exact ⟨_,_,_,nc,Aq.BQ _ _ _,by simp,by omega,by omega⟩
  have al:∀(J:Option Addr) (len cap:Nat) (h1:Al) (Z:ST×Block) (X:List (List PV)) (O:Array Value),a.eval x=.slice J len cap→cap<len+n→Aw ρ μ h w μ h1 w→(∃(j:Nat) (A B:List (List PV)),Z.2=.list j i.size∧Z.1.den ρ=((ρ.lst j).length:Int)∧(ρ.lst j).length≤1048576∧ρ.lst j=A++B∧A=X∧B.length=n∧(∀p∈B,p.length=i.size)∧CR ρ (CW new) B.flatten)→X.length=len→(∀p∈X,p.length=i.size)→
    (Builtin.firstCells i.size len (.slice J len cap)).run P w.drew=.ok O w.drew→O.size=len*i.size→AW μ.Bf O 0 X.flatten→r=(.vec h1.next i.size Z.1,h1.add Z.2)→EG P ρ μ h a o w (.val r.1 r.2):=fun J len cap h1 Z X O M ah an aq aN av U aV hX er=>by
   subst er
   obtain ⟨j,A,B,eb,et,D,eA,hA,hB,ac,ak⟩:=aq
   subst hA
   have aO:(ρ.lst j).length=len+n:=by rw [eA,lA];omega
   obtain ⟨nc,rest,bE,aR,_,aF⟩:=DW (P:=P) (ty:=o.type) (O:=O) (L:=L') ht hu hd hi hz aM ah U bR hb (by omega)
   have aZ:L'.size=n*i.size:=by have:=az.length;simp at this;omega
   have bC:(O++L'++rest).size=nc*i.size:=by
    simp only [Array.size_append,aV,aZ,aR,hzs]
    rw [←Nat.add_mul,←Nat.add_mul]
    congr 1;omega
   have cu:A.flatten.length=len*i.size:=by rw [BN av,aN]
   have cc:B.flatten.length=n*i.size:=by rw [BN ac,hB]
   have bp:AW μ.Bf L' 0 B.flatten:=Ax.freeze ak az fun i v hv=>by simpa using hv
   have bb:BU μ.Bf i.size (O++L'++rest) 0 (ρ.lst j):=by
    rw [BB]
    refine ⟨fun p Q=>?_,?_⟩
    ·rw [eA,List.mem_append]at Q
     exact Q.elim (av p) (ac p)
    ·rw [eA,List.flatten_append,AW.append_iff]
     refine ⟨AW.congr (fun k hk=>?_) hX,AW.congr (fun k hk=>?_) bp⟩
     ·rw [Array.append_assoc,Array.getElem?_append_left (by omega)]
     ·rw [Array.append_assoc,Array.getElem?_append_right (by omega),Array.getElem?_append_left (by omega)]
      congr 1;omega
   have a3:=Aw.add an.rel.drew Z.2 (.cells (O++L'++rest) e) (0,Ob (len+n) nc) (fun μ' ad=>by
    rw [eb]
    refine ⟨_,e,rfl,rfl,?_,?_,?_,?_,BU.mono ad.Bf bb⟩
    ·rw [B7 (by omega)];omega
    ·rw [B7 (by omega)];omega
    ·rw [B7 (by omega),BS (by omega)];exact bE
    ·rw [BS (by omega),bC];exact Nat.le_refl _)
   refine ⟨.value _,_,_,_,run (by rw [M];exact aF),.inl rfl,(an.trans (Aw.drew an.rel)).trans a3,?_⟩
   simp only [Ae]
   refine ⟨_,_,len+n,Aq.BQ _ _ _,?_,?_,?_,?_⟩
   ·rw [BS (by omega)]
   ·rw [et,aO]
   ·rw [B7 (by omega)];exact Nat.le_refl _
   ·rw [B7 (by omega),BS (by omega)];exact bE
  have aC:∀(J:Option Addr) (len cap:Nat) (h1:Al) (part:AQ) (Z:ST×Block) (X:List (List PV)) (O:Array Value),a.eval x=.slice J len cap→cap<len+n→Aw ρ μ h w μ h1 w→Ir h i.size part n new=some Z→(∀Y,FG ρ part Y→Y=X)→X.length=len→(∀p∈X,p.length=i.size)→
    (Builtin.firstCells i.size len (.slice J len cap)).run P w.drew=.ok O w.drew→O.size=len*i.size→AW μ.Bf O 0 X.flatten→r=(.vec h1.next i.size Z.1,h1.add Z.2)→EG P ρ μ h a o w (.val r.1 r.2):=fun J len cap h1 part Z X O M ah an am aA aN av U aV hX er=>by
   obtain ⟨j,A,B,eb,et,D,eA,hA,hB,ac,ak⟩:=JZ H.AY.facts am
   exact al J len cap h1 Z X O M ah an ⟨j,A,B,eb,et,D,eA,aA A hA,hB,ac,ak⟩ aN av U aV hX er
  unfold Xh at g
  split at g
  ·
   rename_i b es m M
   rw [M]at R
   unfold Xf at g
   obtain ⟨⟨li,b3⟩,bW,g⟩:=Ab g
   obtain ⟨bS,bP⟩:=Ap g
   clear g
   obtain ⟨Z,am,bO⟩:=Ab bP
   clear bP
   have aL:(Aa.vec h.next i.size Z.1,(h.set b none).add Z.2)=r:=by simpa using bO
   clear bO
   rw [aT,An,An]at bS
   obtain ⟨aw,ba⟩:=bS
   have ba:b3=es:=ba
   subst ba
   subst aw
   have am:Ir h i.size (.take li m) n new=some Z:=am
   obtain ⟨r0,m0,k,hm,N,hk,cw,bf⟩:=R.vec
   obtain ⟨r1,⟨δ1,m1⟩,ag,c0,ty,ab,h0,h1,h2,h3,h4,h5⟩:=H.blk b _ (Di bW)
   rw [hm]at ag
   simp only [oI,Prod.mk.injEq]at ag
   obtain ⟨rfl,rfl,rfl⟩:=ag
   have h1:(ρ.lst li).length≤BR m0:=h1
   have h4:Ca m0*i.size≤c0.size:=h4
   have h5:BU μ.Bf i.size c0 0 (ρ.lst li):=h5
   have b0:=am
   obtain ⟨j,A,B,eb,et,D,eA,hA,hB,ac,ak⟩:=JZ H.AY.facts b0
   have cy:k≤(ρ.lst li).length:=by
    obtain ⟨_,q,_⟩:=hA
    rw [hk]at q;omega
   have aA:∀Y,FG ρ (.take li m) Y→Y=(ρ.lst li).take k:=fun Y hY=>by
    obtain ⟨_,_,q⟩:=hY
    rw [q,hk];rfl
   have av:∀p∈(ρ.lst li).take k,p.length=i.size:=fun p Q=>(BB.1 h5).1 p (List.mem_of_mem_take Q)
   have aN:((ρ.lst li).take k).length=k:=by rw [lT'];omega
   have hX:AW μ.Bf c0 0 ((ρ.lst li).take k).flatten:=by
    have:=(BB.1 h5).2
    rw [←List.take_append_drop k (ρ.lst li),List.flatten_append,AW.append_iff]at this
    exact this.1
   have bQ:((ρ.lst li).take k).flatten.length=k*i.size:=by rw [BN av,aN]
   by_cases hfit:k+n≤Ca m0
   ·
    have:=aA A hA
    subst this
    have aO:(ρ.lst j).length=k+n:=by rw [eA,lA];omega
    have a8:(k+n)*i.size≤Ca m0*i.size:=Nat.mul_le_mul_right _ hfit
    rw [Nat.add_mul]at a8
    have aZ:L.toList.length=n*i.size:=by rw [←af.length];exact a2
    obtain ⟨c',a0,bv,bc⟩:=DV (P:=P) L.toList ab (p:=k*i.size) (by omega) af.one
    have cc:B.flatten.length=n*i.size:=by rw [BN ac,hB]
    have bp:AW μ.Bf L 0 B.flatten:=Ax.freeze ak af fun i v hv=>by simpa using hv
    have bb:BU μ.Bf i.size c' 0 (ρ.lst j):=by
     rw [BB]
     refine ⟨fun p Q=>?_,?_⟩
     ·rw [eA,List.mem_append]at Q
      exact Q.elim (av p) (ac p)
     ·rw [eA,List.flatten_append,AW.append_iff]
      refine ⟨AW.congr (fun q hq=>?_) hX,AW.congr (fun q hq=>?_) bp⟩
      ·rw [bc,if_neg (by omega)]
      ·rw [bc,if_pos (by omega),←Array.getElem?_toList]
       congr 1;omega
    have bl:=Aw.WC (w':=w.setRow r0 c') H (Di bW) hm Z.2 (0,Ob (k+n) (Ca m0)) (fun i hi=>setRow_other _ _ _ _ hi) (by simp) rfl rfl (fun μ' aP=>by
     rw [E7 _ _ _ _ _ _ ab,eb]
     refine ⟨c',ty,rfl,rfl,?_,?_,?_,?_,BU.mono aP.Bf bb⟩
     ·rw [B7 (by omega)];omega
     ·rw [B7 (by omega)];omega
     ·rw [B7 (by omega),BS (by omega)];exact hfit
     ·rw [BS (by omega)];omega)
    subst aL
    refine ⟨.value _,_,_,_,run (v:=.slice (some ⟨r0,0,none⟩) (k+n) (Ca m0)) ?_,.inl rfl,bl,?_⟩
    ·rw [N]
     refine C2 ht hu hd bd aM hfit hL ?_
     simp only [Addr.Bl,Nat.zero_add]
     exact a0
    ·simp only [Ae]
     refine ⟨_,_,k+n,Aq.BQ _ _ _,?_,?_,?_,?_⟩
     ·rw [BS (by omega)]
     ·rw [et,aO]
     ·rw [B7 (by omega)];exact Nat.le_refl _
     ·rw [B7 (by omega),BS (by omega)];exact hfit
   ·
    obtain ⟨l,au,a6,a5⟩:=hX.values
    have U:=run_loadCells_list (P:=P) (w:=w.drew) ⟨r0,0,none⟩ l (fun j v hv=>by
     rw [Addr.Bl]
     show w.cell? _=_
     rw [Cz ab];exact a6 j v hv)
    rw [au,bQ]at U
    refine aC _ _ _ (h.set b none) _ Z _ l.toArray N (by omega) (Aw.drop H b) am aA aN av (by simp [Builtin.firstCells,U]) (by simp [au,bQ]) (AW.congr (fun q hq=>?_) hX) ?_
    ·have:=a5 q hq
     simpa using this.symm
    ·rw [←aL];rfl
  ·
   rename_i li es m M
   rw [M]at R
   unfold Xk at g
   obtain ⟨aw,g⟩:=Ap g
   obtain ⟨Z,am,aL⟩:=Ab g
   simp only [oI]at aL
   have aw:=An.1 aw
   subst aw
   obtain ⟨ct,_,bJ⟩:=R.lst
   obtain ⟨p,N⟩:=bJ rfl
   obtain ⟨p',c',bx,_,_,b5⟩:=R.Et
   rw [N]at bx
   simp only [Value.slice.injEq,true_and]at bx
   obtain ⟨rfl,rfl⟩:=bx
   have ah:(ρ.lst li).length<(ρ.lst li).length+n:=by omega
   by_cases hz0:(ρ.lst li).length=0
   ·have aQ:ρ.lst li=[]:=List.eq_nil_of_length_eq_zero hz0
    refine aC _ _ _ h _ Z (ρ.lst li) #[] N ah (Aw.refl H) am (fun Y hY=>hY) rfl (fun q hq=>by rw [aQ]at hq;cases hq) ?_ (by simp [hz0]) (by rw [aQ];simp only [List.flatten_nil,AW]) aL.symm
    rw [hz0]
    cases p<;>simp [Builtin.firstCells,loadCells,loadCellsFrom]
   ·obtain ⟨r0,δ,c0,ty,rfl,k1,k2⟩:=b5 hz0
    obtain ⟨_,k1⟩:=k1
    have ab:=(H.AY.Bf _ _ k1).1
    have aK:=BB.1 k2
    obtain ⟨l,au,a6,a5⟩:=aK.2.values
    have bU:=BN aK.1
    have U:=run_loadCells_list (P:=P) (w:=w.drew) ⟨r0,δ,none⟩ l (fun j v hv=>by
     rw [Addr.Bl]
     show w.cell? _=_
     rw [Cz ab];exact a6 j v hv)
    rw [au,bU]at U
    refine aC _ _ _ h _ Z (ρ.lst li) l.toArray N ah (Aw.refl H) am (fun Y hY=>hY) rfl aK.1 (by simp [Builtin.firstCells,U]) (by simp [au,bU]) (AW.congr (fun q hq=>?_) aK.2) aL.symm
    have:=a5 q hq
    simpa using this.symm
  ·
   rename_i M
   rw [M]at R
   have N:a.eval x=.slice none 0 0:=by simpa only [Ae]using R
   obtain hE|g:=Sc g
   ·obtain ⟨p,j,t,A,B,Q,er,et,D,eA,hA,hB,ac,ak⟩:=Ka H.AY.facts hE
    have Q:([]:List AQ)=p:=by simpa [Pw]using Q
    subst Q
    have hA:A=[]:=hA
    exact al none 0 0 h (t,.list j i.size) [] #[] N (by omega) (Aw.refl H) ⟨j,A,B,rfl,et,D,eA,hA,hB,ac,ak⟩ rfl (fun _ hq=>by cases hq) (by simp [Builtin.firstCells]) (by simp) (by simp only [List.flatten_nil,AW]) er
   unfold Iq at g
   obtain ⟨D,g⟩:=Ap g
   simp only [oI]at g
   exact fresh none 0 0 h [] #[] N (by omega) (AX.1 D) (Aw.refl H) (by simp) (by simp [Builtin.firstCells]) (by simp only [Ax]) g.symm
  ·
   rename_i b aE len cap M
   have bz:=R
   rw [M]at R
   obtain ⟨r0,δ,m,hm,N,ad⟩:=R.slice
   cases hcap:Nat.ble (len+n) cap with
   |true=>
    rw [hcap]at g
    simp only [cond_true]at g
    unfold Ta at g
    obtain ⟨vs,be,g⟩:=Ab g
    obtain ⟨cv,aK,g⟩:=Ab g
    simp only [oI]at g
    subst g
    obtain ⟨r1,δ1,m1,ag,w',a0,hg⟩:=Hl (P:=P) H be af aK
    have hg:=hg _ (.inl rfl)
    rw [hm]at ag
    simp only [oI,Prod.mk.injEq]at ag
    obtain ⟨rfl,rfl,rfl⟩:=ag
    refine ⟨.value _,_,w',μ,run (v:=.slice (some ⟨r0,δ+aE,none⟩) (len+n) cap) ?_,.inl rfl,hg,?_⟩
    ·rw [N]
     refine C2 ht hu hd bd aM (AX.1 hcap) hL ?_
     simp only [Addr.Bl,Nat.add_assoc]
     exact a0
    ·simp only [Ae]
     exact ⟨_,_,_,hm,rfl,AX.1 hcap⟩
   |false=>
    rw [hcap]at g
    simp only [cond_false]at g
    have ah:cap<len+n:=by
     rcases Nat.lt_or_ge cap (len+n)with h'|h'
     ·exact h'
     ·rw [AX.2 h']at hcap;cases hcap
    obtain hE|g:=Sc g
    ·obtain ⟨p,j,t,X0,B,Q,er,et,D,eA,bg,hB,ac,ak⟩:=Ka H.AY.facts hE
     unfold Pw at Q
     obtain ⟨bm,bT⟩:=Ap Q
     clear Q
     have bf:=An.1 bm
     clear bm
     subst bf
     have Q:=bT
     clear bT
     rw [AP]at Q
     split at Q
     ·rename_i bw
      subst bw
      simp only [oI]at Q
      subst Q
      have bg:X0=[]:=bg
      exact al _ 0 0 h (t,.list j i.size) [] #[] N (by omega) (Aw.refl H) ⟨j,X0,B,rfl,et,D,eA,bg,hB,ac,ak⟩ rfl (fun _ hq=>by cases hq) (by simp [Builtin.firstCells,loadCells,loadCellsFrom]) (by simp) (by simp only [List.flatten_nil,AW]) er
     ·rename_i bw
      obtain ⟨s,bn,Q⟩:=Ab Q
      obtain ⟨ck,Q⟩:=Ap Q
      obtain ⟨cs,bv,Q⟩:=Ab Q
      simp only [oI]at Q
      subst Q
      have b7:Eh ρ cs X0:=by
       obtain ⟨x,y,rfl,h1,h2⟩:=bg
       have h2:y=[]:=h2
       subst h2
       rw [List.append_nil];exact h1
      obtain ⟨c1,c2,c3⟩:=DN bv
      obtain ⟨f1,f2,f3⟩:=Eh.flat b7
      have bq:Jz h i.size false (ev tm (AJ x))=some s:=by rw [M];exact bn
      obtain ⟨_,ao,O,U,aB⟩:=Dp (P:=P) (w:=w.drew) H.drew bz (n:=s.1) (cs:=s.2) bq
      have bA:s.1=len:=by
       have C:=bn
       unfold Ma at C
       rw [AP,if_neg bw]at C
       obtain ⟨_,_,C⟩:=Ab C
       obtain ⟨_,_,C⟩:=Ab C
       simp only [oI]at C;rw [←C]
      rw [bA]at ao U
      rw [N]at U
      rw [c1]at f1
      refine al _ _ _ h (t,.list j i.size) X0 O N ah (Aw.refl H) ⟨j,X0,B,rfl,et,D,eA,rfl,hB,ac,ak⟩ (by omega) (f3 _ c3) U ?_ ?_ er
      ·have:=aB.length;simp at this;omega
      ·exact Ax.freeze f1 aB fun q v hv=>by simpa using hv
    obtain ⟨old,ai,g⟩:=Ab g
    unfold Iq at g
    obtain ⟨D,g⟩:=Ap g
    simp only [oI]at g
    have bq:Jz h i.size false (ev tm (AJ x))=some old:=by rw [M];exact ai
    obtain ⟨_,ao,O,U,aB⟩:=Dp (P:=P) (w:=w.drew) H.drew bz bq
    have bA:old.1=len:=by
     have C:=ai
     unfold Ma at C
     rw [AP]at C
     split at C
     ·simp only [oI]at C;rw [←C];omega
     ·obtain ⟨_,_,C⟩:=Ab C
      obtain ⟨_,_,C⟩:=Ab C
      simp only [oI]at C;rw [←C]
    rw [bA]at ao U
    rw [N]at U
    exact fresh _ _ _ h old.2 O N ah (AX.1 D) (Aw.refl H) ao U aB g.symm
  ·
   rename_i b aE len es M
   have bz:=R
   rw [M]at R
   obtain ⟨r0,δ,m,cap,hm,N,ad,cj⟩:=R.gslice
   unfold Xg at g
   obtain ⟨vs,be,g⟩:=Ab g
   obtain ⟨bh,g⟩:=Ap g
   obtain ⟨old,ai,g⟩:=Ab g
   simp only [oI]at g
   rw [aT,An,AX]at bh
   obtain ⟨aw,D⟩:=bh
   obtain ⟨B0,ce⟩:=Lo be
   obtain ⟨r1,δ1,m1,c1,e3,ag,ab,cx,aU⟩:=H.cells be
   rw [hm]at ag
   simp only [oI,Prod.mk.injEq]at ag
   obtain ⟨rfl,rfl,rfl⟩:=ag
   by_cases hfit:len+n≤cap
   ·
    have a8:(len+n)*i.size≤cap*es:=by rw [←aw];exact Nat.mul_le_mul_right _ hfit
    rw [Nat.add_mul]at a8
    have aZ:L.toList.length=n*i.size:=by rw [←af.length];exact a2
    obtain ⟨c',a0,bv,bc⟩:=DV (P:=P) L.toList ab (p:=δ+aE+len*i.size) (by omega) af.one
    have aq:=JX ai
    have bl:=Aw.WC (w':=w.setRow r0 c') H ce hm (.cells (old++new)) (δ+aE,m-aE) (fun i hi=>setRow_other _ _ _ _ hi) (by simp) rfl rfl (fun μ' aP=>by
     rw [E7 _ _ _ _ _ _ ab]
     refine ⟨c',e3,rfl,by omega,fun k v hk=>?_⟩
     rw [bc]
     by_cases hko:k<old.length
     ·rw [List.getElem?_append_left hko,aq.2.2 k]at hk
      rw [aq.1]at hko
      rw [if_pos hko]at hk
      obtain ⟨u',aY,bD,bB⟩:=aU _ _ hk
      refine ⟨u',?_,bD,bB.mono aP⟩
      rw [if_neg (by omega),Nat.add_assoc]
      exact aY
     ·rw [List.getElem?_append_right (by omega)]at hk
      obtain ⟨u',aY,bD,bB⟩:=af.get hk
      refine ⟨u',?_,bD,bB.mono aP⟩
      have b4:=(List.getElem?_eq_some_iff.1 aY).1
      rw [aq.1]at aY b4 hko
      rw [if_pos (by omega),←aY]
      congr 1
      omega)
    subst g
    refine ⟨.value _,_,_,_,run (v:=.slice (some ⟨r0,δ+aE,none⟩) (len+n) cap) ?_,.inl rfl,bl,?_⟩
    ·rw [N]
     refine C2 ht hu hd bd aM hfit hL ?_
     simp only [Addr.Bl]
     exact a0
    ·simp only [Ae]
     refine ⟨_,_,_,cap,Aq.BQ _ _ _,rfl,hfit,?_⟩
     rw [aw];omega
   ·
    obtain ⟨l,au,bV,bf⟩:=DM aU ai
    have U:=run_loadCells_list (P:=P) (w:=w.drew) ⟨r0,δ+aE,none⟩ l (fun j v hv=>by
     rw [Addr.Bl]
     show w.cell? _=_
     rw [Cz ab];exact bf j v hv)
    rw [au]at U
    refine fresh _ _ _ (h.set b none) old l.toArray N (by omega) D (Aw.drop H b) ?_ ?_ (by simpa using bV) ?_
    ·rw [bV.length,au]
    ·simp [Builtin.firstCells,U]
    ·rw [←g];rfl
  ·cases g
theorem Lm {o:Oper} {c:Call} {t u e:TypeId} {d:TypeDesc} {x y:Operand} (C:o.op=.call c) (k:c.callee=.builtin .append) (g:c.args=#[x,y]) (j:c.argTypes=#[t,u])
  (H:AO ρ μ h w) (q:Be ρ μ tm a) (M:P.underlying t=some (.slice e)) (J:P.underlying u=some d) (hd:EH d) {i:TypeInfo} (D:P.info? e=some i) (hb:i.bytes≤1048576) (O:(i.zero.map fun v=>Nat.beq v.cells.size i.size).getD false=true)
  {bytes:Bool} {s:Nat×List Aa} (hs:Jz h i.size bytes (ev tm (AJ y))=some s) {r:Aa×Al} (N:Is h i.size (ev tm (AJ x)) s.1 s.2=some r):EG P ρ μ h a o w (.val r.1 r.2):=by
 have z:=Au q y
 refine Gf C k g j H q M J hd D hb O (fun w' A=>?_) N
 obtain ⟨n,new⟩:=s
 rcases A with rfl|rfl
 ·exact Dp (P:=P) H z hs
 ·exact Dp (P:=P) H.drew z hs
theorem Ax.take:∀{as:List Aa} {vs:List Value} (k:Nat),Ax ρ μ as vs→Ax ρ μ (as.take k) (vs.take k)
 |[],vs,k,e=>by simp only [Ax]at e;subst e;simp only [List.take_nil,Ax]
 |a::as,vs,k,e=>by
  simp only [Ax]at e
  obtain ⟨v,rest,rfl,d,c⟩:=e
  cases k with
  |zero=>simp only [List.take_zero,Ax]
  |succ k=>simp only [List.take_succ_cons,Ax];exact ⟨_,_,rfl,d,Ax.take k c⟩
theorem RB (H:AO ρ μ h w) {size n m:Nat} {bytes:Bool} {x:Aa} {u:Value} {cs:List Aa} (z:Ae ρ μ x u) (hs:Jz h size bytes x=some (n,cs)) (N:m≤n):
  ∃L:Array Value,(Builtin.firstCells size m u).run P w=.ok L w∧Ax ρ μ (cs.take (m*size)) L.toList:=by
 have key:∀(b o len r δ Z c:Nat),Ma h size b o len=some (n,cs)→μ b=some (r,δ,Z)→u=.slice (some ⟨r,δ+o,none⟩) len c→
   ∃L:Array Value,(Builtin.firstCells size m u).run P w=.ok L w∧Ax ρ μ (cs.take (m*size)) L.toList:=fun b o len r δ Z c hs A e=>by
  subst e
  unfold Ma at hs
  rw [AP]at hs
  by_cases M:len=0
  ·rw [if_pos M]at hs
   simp only [oI,Prod.mk.injEq]at hs
   obtain ⟨rfl,rfl⟩:=hs
   have:m=0:=by omega
   subst this
   exact ⟨#[],by simp [Builtin.firstCells,loadCells,loadCellsFrom],by simp only [List.take_nil,Ax]⟩
  ·rw [if_neg M]at hs
   obtain ⟨vs,U,hs⟩:=Ab hs
   obtain ⟨r',R,hs⟩:=Ab hs
   simp only [oI,Prod.mk.injEq]at hs
   obtain ⟨rfl,rfl⟩:=hs
   obtain ⟨r2,δ2,m2,c2,e2,q,Q,_,hc⟩:=H.cells U
   rw [A]at q
   simp only [oI,Prod.mk.injEq]at q
   obtain ⟨rfl,rfl,rfl⟩:=q
   obtain ⟨l,J,D,C⟩:=DM hc R
   have k:m*size≤l.length:=by rw [J];exact Nat.mul_le_mul_right _ N
   have d:=run_loadCells_list (P:=P) (w:=w) ⟨r,δ+o,none⟩ (l.take (m*size)) (fun j v g=>by
    rw [List.getElem?_take]at g
    split at g
    ·rw [Addr.Bl,Cz Q];exact C j v g
    ·cases g)
   rw [lT',Nat.min_eq_left k]at d
   exact ⟨(l.take (m*size)).toArray,by simp [Builtin.firstCells,d],by simpa using D.take (m*size)⟩
 unfold Jz at hs
 split at hs
 ·obtain ⟨k1,⟨rfl,rfl,p,c,rfl⟩|⟨r,δ,c,ar,e,_,rfl,Q,hc⟩⟩:=OO H z hs
  ·have M:m=0:=by omega
   subst M
   cases p
   ·exact ⟨#[],by simp [Builtin.firstCells],by simp only [List.take_nil,Ax]⟩
   ·exact ⟨#[],by simp [Builtin.firstCells,loadCells,loadCellsFrom],by simp only [List.take_nil,Ax]⟩
  ·obtain ⟨l,J,D,C⟩:=DM hc (WT cs)
   have k:m*size≤l.length:=by rw [J,k1];exact Nat.mul_le_mul_right _ N
   have d:=run_loadCells_list (P:=P) (w:=w) ⟨r,δ,none⟩ (l.take (m*size)) (fun j v g=>by
    rw [List.getElem?_take]at g
    split at g
    ·rw [Addr.Bl,Cz Q];simpa using C j v g
    ·cases g)
   rw [lT',Nat.min_eq_left k]at d
   exact ⟨(l.take (m*size)).toArray,by simp [Builtin.firstCells,d],by simpa using D.take (m*size)⟩
 ·simp only [oI,Prod.mk.injEq]at hs
  obtain ⟨rfl,rfl⟩:=hs
  have e:u=.slice none 0 0:=by simpa only [Ae]using z
  subst e
  exact ⟨#[],by simp [Builtin.firstCells],by simp only [List.take_nil,Ax]⟩
 ·obtain ⟨r,δ,m,A,e,_⟩:=z.slice
  exact key _ _ _ _ _ _ _ hs A e
 ·obtain ⟨r,δ,m,c,A,e,_⟩:=z.gslice
  exact key _ _ _ _ _ _ _ hs A e
 ·rename_i s
  obtain ⟨y,O⟩:=Ap hs
  clear hs
  have y:=An.1 y
  subst y
  simp only [oI,Prod.mk.injEq]at O
  obtain ⟨rfl,rfl⟩:=O
  obtain ⟨b,rfl,rfl⟩:=z.str
  refine ⟨((b.extract 0 m).data.map fun c=>.int .u8 c.toNat),by simp [Builtin.firstCells],?_⟩
  have hb:=(FR (ρ:=ρ) (μ:=μ) b.data.toList).take (m*1)
  have he:(b.extract 0 m).data.toList=b.data.toList.take m:=by
   obtain ⟨⟨l⟩⟩:=b
   have:=ByteArray.extract_mk l 0 m
   rw [show (⟨⟨l⟩⟩:ByteArray)=ByteArray.mk l.toArray from rfl,this]
   simp
  rw [Array.toList_map,he]
  unfold strOf
  simpa [List.map_take]using hb
 ·cases hs
theorem Pn {o:Oper} {c:Call} {t u e:TypeId} {x y:Operand} (ho:o.op=.call c) (ab:c.callee=.builtin .copy) (Q:c.args=#[x,y]) (Z:c.argTypes=#[t,u])
  (H:AO ρ μ h w) (hT:Be ρ μ tm a) (ht:P.underlying t=some (.slice e)) {size:Nat} (hn:Bj P e=some size)
  {bytes:Bool} {s:Nat×List Aa} (hs:Jz h size bytes (ev tm (AJ y))=some s) {r:Aa×Al} (d:AaE h size (ev tm (AJ x)) s.1 s.2=some r):EG P ρ μ h a o w (.val r.1 r.2):=by
 have q:=Au hT x
 have hy:=Au hT y
 have A:=B5 (w:=w) hn
 obtain ⟨n,src⟩:=s
 obtain ⟨N,am,_⟩:=Dp (P:=P) H hy hs
 have run:∀{v:Value} {wf:World},(Builtin.copy_ #[t,u] o.type #[a.eval x,a.eval y]).run P w=.ok v wf→(execOp a.eval o).run P w=.ok (.value v) wf:=fun {v wf} hrun=>by
  simp [execOp,ho,resolve,ab,Q,Z,invoke,builtin,hrun]
 have key:∀(b O len:Nat) (M δ R cap:Nat),μ b=some (M,δ,R)→a.eval x=.slice (some ⟨M,δ+O,none⟩) len cap→
   WU h size b O (bif Nat.ble n len then n else len) src=some r→EG P ρ μ h a o w (.val r.1 r.2):=fun b O len M δ R cap C j d=>by
  have U:(bif Nat.ble n len then n else len)=min n len:=by
   cases hb:Nat.ble n len with
   |true=>simp only [cond_true];have:=AX.1 hb;omega
   |false=>
    simp only [cond_false]
    have:¬n≤len:=fun h'=>by rw [AX.2 h']at hb;cases hb
    omega
  rw [U]at d
  obtain ⟨L,z,g⟩:=RB (P:=P) H hy hs (Nat.min_le_left n len)
  unfold WU at d
  rw [AP]at d
  by_cases k:min n len=0
  ·rw [if_pos k]at d
   simp only [oI]at d
   subst d
   rw [k]at g z
   simp only [Nat.zero_mul,List.take_zero,Ax]at g
   refine ⟨.value (goInt 0),goInt 0,w,μ,run ?_,.inl rfl,Aw.refl H,by simp only [lit,Ae,ST.den];rfl⟩
   have ak:Nat.min n len=0:=k
   simp [Builtin.copy_,run_underlying ht,j,N,A,ak,z,g,storeCells,goInt]
  ·rw [if_neg k]at d
   obtain ⟨vs,aj,d⟩:=Ab d
   obtain ⟨new,aa,d⟩:=Ab d
   obtain ⟨aq,ag,d⟩:=Ab d
   simp only [oI]at d
   subst d
   obtain ⟨rfl,_⟩:=Gk aa
   obtain ⟨r1,δ1,m1,D,w',ai,hg⟩:=Hl (P:=P) H aj g ag
   have hg:=hg _ (.inl rfl)
   rw [C]at D
   simp only [oI,Prod.mk.injEq]at D
   obtain ⟨rfl,rfl,rfl⟩:=D
   refine ⟨.value (goInt (min n len:Nat)),_,w',μ,run ?_,.inl rfl,hg,by simp only [lit,Ae,ST.den];rfl⟩
   have al:(Builtin.firstCells size (Nat.min n len) (a.eval y)).run P w=.ok L w:=z
   simp [Builtin.copy_,run_underlying ht,j,N,A,al,ai,goInt]
 unfold AaE at d
 split at d
 ·rename_i J
  rw [J]at q
  have j:a.eval x=.slice none 0 0:=by simpa only [Ae]using q
  simp only [oI]at d
  subst d
  obtain ⟨L,z,g⟩:=RB (P:=P) H hy hs (Nat.zero_le n)
  refine ⟨.value (goInt 0),goInt 0,w,μ,run ?_,.inl rfl,Aw.refl H,by simp only [lit,Ae,ST.den];rfl⟩
  have k:Nat.min n 0=0:=Nat.min_zero n
  simp [Builtin.copy_,run_underlying ht,j,N,A,k,z,goInt]
 ·rename_i J
  rw [J]at q
  obtain ⟨M,δ,R,C,j,_⟩:=q.slice
  exact key _ _ _ _ _ _ _ C j d
 ·rename_i J
  rw [J]at q
  obtain ⟨M,δ,R,cap,C,j,_⟩:=q.gslice
  exact key _ _ _ _ _ _ _ C j d
 ·cases d
end
end Go.AM
end
section
namespace Go.AM
section
variable {P:Program} {Γ:Ao} {ρ:Env} {μ:Aq} {tm:Tr Aa} {a:Act} {w:World} {h:Al}
def FH (L:List Value):Prop:=∀v∈L,∃x:UInt8,v=.int .u8 x.toNat
theorem XM {v:Aa} (h:AcL v=true):∃n,v=.int .u8 (.lit (.ofNat n))∧n≤255:=by
 unfold AcL at h
 split at h
 ·exact ⟨_,rfl,AX.1 h⟩
 ·cases h
theorem Lv:∀{cs:List Aa} {L:List Value},Ax ρ μ cs L→Xl cs=true→FH L
 |[],L,h,_=>by simp only [Ax]at h;subst h;intro v g;cases g
 |c::cs,L,h,d=>by
  simp only [Ax]at h
  obtain ⟨v,rest,rfl,⟨_,g⟩,k⟩:=h
  have d:(AcL c&&Xl cs)=true:=d
  rw [aT]at d
  intro u j
  cases j with
  |head=>
   obtain ⟨n,o,q⟩:=XM d.1
   subst o
   have e:=g.int
   refine ⟨UInt8.ofNat n,?_⟩
   rw [e]
   simp only [ST.den]
   have:(UInt8.ofNat n).toNat=n:=by simp;omega
   rw [this];rfl
  |tail _ hm=>exact Lv k d.2 u hm
theorem Td (l:List UInt8):FH (l.map fun c=>.int .u8 (c.toNat:Int)):=fun v d=>by
 obtain ⟨c,_,rfl⟩:=List.mem_map.1 d
 exact ⟨c,rfl⟩
theorem Mb (H:AO ρ μ h w) {bytes:Bool} {y:Aa} {u:Value} {z n:Nat} (x:Ae ρ μ y u) (hs:Acw h bytes y=some (z,n)):
  ∃k,z≤k∧k≤n∧(Builtin.lenOf u).run P w=.ok k w∧∃L:Array Value,(Builtin.firstCells 1 k u).run P w=.ok L w∧L.size=k∧FH L.toList:=by
 have str:∀b:ByteArray,u=.string b→(Builtin.lenOf u).run P w=.ok b.size w∧∃L:Array Value,(Builtin.firstCells 1 b.size u).run P w=.ok L w∧L.size=b.size∧FH L.toList:=fun b e=>by
  subst e
  refine ⟨by simp [Builtin.lenOf],(b.data.map fun c=>.int .u8 c.toNat),?_,by rw [Array.size_map];rfl,?_⟩
  ·have:b.extract 0 b.size=b:=by
    obtain ⟨⟨l⟩⟩:=b
    have:=ByteArray.extract_mk l 0 l.length
    rw [show (⟨⟨l⟩⟩:ByteArray)=ByteArray.mk l.toArray from rfl]
    rw [show (ByteArray.mk l.toArray).size=l.length from by simp [ByteArray.size],this]
    simp
   simp [Builtin.firstCells,this]
  ·simpa using Td b.data.toList
 have D:∀s,Jz h 1 false y=some s→Xl s.2=true→(s.1,s.1)=(z,n)→∃k,z≤k∧k≤n∧(Builtin.lenOf u).run P w=.ok k w∧∃L:Array Value,(Builtin.firstCells 1 k u).run P w=.ok L w∧L.size=k∧FH L.toList:=fun s o j J=>by
  simp only [Prod.mk.injEq]at J
  obtain ⟨rfl,rfl⟩:=J
  obtain ⟨d,g,L,N,C⟩:=Dp (P:=P) H x o
  refine ⟨s.1,Nat.le_refl _,Nat.le_refl _,d,L,N,?_,Lv C j⟩
  have:=C.length
  simp at this;omega
 unfold Acw at hs
 split at hs
 ·rename_i i
  obtain ⟨r,M,hs⟩:=Ab hs
  simp only [oI]at hs
  obtain ⟨b,e,A⟩:=x.svar
  obtain ⟨d,g⟩:=str b e
  obtain ⟨_,q,v⟩:=H.AY.facts.BA _ (Kx M)
  have q:r.2.1≤(ρ.str i).length:=q
  have v:(ρ.str i).length≤r.2.2:=v
  rw [hs,←A,BK]at q v
  exact ⟨b.size,q,v,d,g⟩
 ·rename_i s
  simp only [oI,Prod.mk.injEq]at hs
  obtain ⟨rfl,rfl⟩:=hs
  obtain ⟨b,e,rfl⟩:=x.str
  obtain ⟨d,g⟩:=str b e
  refine ⟨b.size,?_,?_,d,g⟩<;>rw [Dq,BK]<;>exact Nat.le_refl _
 ·rename_i m
  simp only [oI,Prod.mk.injEq]at hs
  obtain ⟨rfl,rfl⟩:=hs
  obtain ⟨b,e,o,j⟩:=x.anyStr
  obtain ⟨d,g⟩:=str b e
  exact ⟨b.size,o,j,d,g⟩
 ·obtain ⟨s,o,hs⟩:=Ab hs
  obtain ⟨j,hs⟩:=Ap hs
  simp only [oI]at hs
  exact D s o j hs
 ·cases hs
theorem Y4 {e:TypeId} {size t:Nat} (h:u8T P e size=some t):t=e∧size=1∧P.underlying e=some (.int .u8)∧∃i,P.info? e=some i∧i.zero=some (.int .u8 0):=by
 unfold u8T at h
 split at h
 ·rename_i i g d
  split at h
  ·rename_i c
   split at h
   ·rename_i hs
    simp only [oI]at h
    exact ⟨h.symm,An.1 hs,g,i,d,c⟩
   ·cases h
  ·cases h
 ·cases h
theorem AO.bytes (H:AO ρ μ h w) {b n e:Nat} (hb:h.get b=some (.bytes n e)):∃r m c,μ b=some (r,0,m)∧w.heap[r]?=some (.cells c e (0,0))∧1≤BR m∧BR m≤n∧n≤1048576∧BR m≤Ca m∧Ca m≤c.size∧∀i,i<Ca m→∃x:UInt8,c[i]?=some (.int .u8 x.toNat):=by
 obtain ⟨r,⟨δ,m⟩,k,c,d,j,g⟩:=H.blk b _ hb
 subst j
 exact ⟨r,m,c,k,d,g⟩
theorem AO.sbytes (H:AO ρ μ h w) {b e:Nat} {n:ST} (hb:h.get b=some (.sbytes n e)):∃r m c,μ b=some (r,0,m)∧w.heap[r]?=some (.cells c e (0,0))∧1≤BR m∧(BR m:Int)≤n.den ρ∧n.den ρ≤1048576∧BR m≤Ca m∧Ca m≤c.size∧∀i,i<Ca m→∃x:UInt8,c[i]?=some (.int .u8 x.toNat):=by
 obtain ⟨r,⟨δ,m⟩,k,c,d,j,g⟩:=H.blk b _ hb
 subst j
 exact ⟨r,m,c,k,d,g⟩
theorem NS {o:Option Block} {m:ST×Nat} (h:Hy o=some m):o=some (.sbytes m.1 m.2):=by
 unfold Hy at h
 split at h
 ·simp only [oI]at h;rw [←h]
 ·cases h
theorem Yx (k:Nat):FH (Builtin.zeroCells (Value.int .u8 0).cells k).toList:=fun v c=>by
 refine ⟨0,?_⟩
 have hc:(Value.int .u8 0).cells=#[.int .u8 0]:=rfl
 rw [hc]at c
 unfold Builtin.zeroCells at c
 simp only [Array.toList_map,List.mem_map]at c
 obtain ⟨i,_,rfl⟩:=c
 have:i%(#[Value.int .u8 0]:Array Value).size=0:=Nat.mod_one i
 rw [this];rfl
theorem FH.append {x y:List Value} (g:FH x) (d:FH y):FH (x++y):=fun v c=>by
 rcases List.mem_append.1 c with h|h
 ·exact g v h
 ·exact d v h
theorem FH.get {x:Array Value} (g:FH x.toList) {i:Nat} (c:i<x.size):∃u:UInt8,x[i]?=some (.int .u8 u.toNat):=by
 obtain ⟨u,d⟩:=g x[i] (by simp)
 exact ⟨u,by rw [Array.getElem?_eq_getElem c,d]⟩
theorem Ra {o:Oper} {c:Call} {t u e:TypeId} {d:TypeDesc} {x y:Operand} (ho:o.op=.call c) (aZ:c.callee=.builtin .append) (aE:c.args=#[x,y]) (aX:c.argTypes=#[t,u])
  (H:AO ρ μ h w) (hT:Be ρ μ tm a) (ht:P.underlying t=some (.slice e)) (hu:P.underlying u=some d) (hd:EH d) {i:TypeInfo} (hi:P.info? e=some i) (hb:i.bytes≤1048576) {e':Nat} (he:u8T P e i.size=some e')
  {bytes:Bool} {s:Nat×Nat} (hs:Acw h bytes (ev tm (AJ y))=some s) {r:Aa×Al} (A:Rl h e' (ev tm (AJ x)) s.1 s.2=some r):EG P ρ μ h a o w (.val r.1 r.2):=by
 have hx:=Au hT x
 have hy:=Au hT y
 obtain ⟨rfl,ay,_,i',az,hz⟩:=Y4 he
 rw [hi]at az
 simp only [oI]at az
 subst az
 obtain ⟨lo,n⟩:=s
 obtain ⟨k,bG,bI,ao,L,hL,aK,aL⟩:=Mb (P:=P) H hy hs
 obtain ⟨g,_,_,aQ,L',bd,aU,aR⟩:=Mb (P:=P) H.drew hy hs
 have bm:g=k:=by
  have U:(Builtin.lenOf (a.eval y)).run P w=.ok k w:=ao
  have h2:(Builtin.lenOf (a.eval y)).run P w.drew=.ok g w.drew:=aQ
  have:∀v:Value,∀k g:Nat,(Builtin.lenOf v).run P w=.ok k w→(Builtin.lenOf v).run P w.drew=.ok g w.drew→g=k:=fun v k g U h2=>by
   cases v<;>simp [Builtin.lenOf,stuck]at U h2<;>omega
  exact this _ _ _ U h2
 subst bm
 have aN:(sizeOf e').run P w=.ok 1 w:=by simp [sizeOf,typeInfo,hi,ay]
 have run:∀{v:Value} {wf:World},(Builtin.append_ #[t,u] o.type #[a.eval x,a.eval y]).run P w=.ok v wf→(execOp a.eval o).run P w=.ok (.value v) wf:=fun {v wf} ah=>by
  simp [execOp,ho,resolve,aZ,aE,aX,invoke,builtin,ah]
 have fresh:∀(ai:Option Addr) (len cap:Nat) (NB:Block) (U:Al) (O:Array Value),a.eval x=.slice ai len cap→cap<len+g→len+g≤1048576→(∀(μ':Aq) (D:Array Value) (C:Nat),BR C=len+g→BR C≤Ca C→Ca C≤D.size→(∀i,i<Ca C→∃x:UInt8,D[i]?=some (.int .u8 x.toNat))→CL ρ μ' NB (some (.cells D e' (0,0))) (0,C))→1≤len+g→Aw ρ μ h w μ U w→O.size=len→FH O.toList→
   (Builtin.firstCells 1 len (.slice ai len cap)).run P w.drew=.ok O w.drew→r=(.gbytes U.next,U.add NB)→EG P ρ μ h a o w (.val r.1 r.2):=fun ai len cap NB U O e1 bc z an bB av ba a5 hO er=>by
  subst er
  obtain ⟨nc,rest,bK,am,bb,ah⟩:=DW (P:=P) (ty:=o.type) (O:=O) (L:=L') ht hu hd hi hz ao bc (by rw [ay];exact hO) (by rw [ay];exact bd) hb (by omega)
  have a4:(Value.int .u8 0).cells.size=1:=rfl
  rw [a4,Nat.mul_one]at am
  have bz:(O++L'++rest).size=nc:=by simp only [Array.size_append,ba,aU,am];omega
  have a1:FH (O++L'++rest).toList:=by
   rw [Array.toList_append,Array.toList_append]
   exact (a5.append aR).append (by rw [bb];exact Yx _)
  have Q:=B7 (len:=len+g) (cap:=nc) (by omega)
  have aj:=BS (len:=len+g) (cap:=nc) (by omega)
  have a0:=Aw.add av.rel.drew NB (.cells (O++L'++rest) e') (0,Ob (len+g) nc) (fun μ' bM=>an μ' _ _ Q (by omega) (by omega) fun i hi=>a1.get (by omega))
  refine ⟨.value _,_,_,_,run (by rw [e1];exact ah),.inl rfl,(av.trans (Aw.drew av.rel)).trans a0,?_⟩
  simp only [Ae]
  exact ⟨_,_,Aq.BQ _ _ _,by rw [Q,aj],by omega,by omega⟩
 unfold Rl at A
 split at A
 ·
  rename_i e1
  have aJ:=hx
  rw [e1]at hx
  have e2:a.eval x=.slice none 0 0:=by simpa only [Ae]using hx
  simp only [AP]at A
  split at A
  ·split at A
   ·rename_i h0 U
    have U:n=0:=U
    have hk:g=0:=by omega
    subst hk
    simp only [oI]at A
    subst A
    refine ⟨.value (a.eval x),a.eval x,w,μ,run ?_,.inl rfl,Aw.refl H,by rw [e1]at aJ⊢;exact aJ⟩
    rw [e2]
    exact C2 ht hu hd aN ao (by omega) hL rfl
   ·cases A
  ·rename_i h0
   obtain ⟨z,A⟩:=Ap A
   simp only [oI]at A
   have z:=AX.1 z
   exact fresh none 0 0 (.bytes n e') h #[] e2 (by omega) (by omega) (fun μ' D C q1 q2 q3 q4=>⟨D,rfl,rfl,by omega,by omega,by omega,q2,q3,q4⟩) (by omega) (Aw.refl H) rfl (fun v Z=>by cases Z) (by simp [Builtin.firstCells]) A.symm
 ·
  rename_i b e1
  rw [e1]at hx
  obtain ⟨r0,m,hm,e2,bH,bL⟩:=hx.gbytes
  have key:∀(B0 NB:Block) (N:Array Value),h.get b=some B0→w.heap[r0]?=some (.cells N e' (0,0))→Ca m≤N.size→(∀i,i<Ca m→∃x:UInt8,N[i]?=some (.int .u8 x.toNat))→BR m+g≤1048576→
    (∀(μ':Aq) (D:Array Value) (C:Nat),BR C=BR m+g→BR C≤Ca C→Ca C≤D.size→(∀i,i<Ca C→∃x:UInt8,D[i]?=some (.int .u8 x.toNat))→CL ρ μ' NB (some (.cells D e' (0,0))) (0,C))→
    r=(.gbytes h.next,(h.set b none).add NB)→EG P ρ μ h a o w (.val r.1 r.2):=fun B0 NB N M J al ad z an er=>by
   by_cases hfit:BR m+g≤Ca m
   ·
    obtain ⟨D,bj,bJ,be⟩:=DV (P:=P) L.toList J (p:=BR m) (by simp [aK];omega) (fun v Z=>by obtain ⟨x,rfl⟩:=aL v Z;rfl)
    have Q:=B7 (len:=BR m+g) (cap:=Ca m) (by omega)
    have aj:=BS (len:=BR m+g) (cap:=Ca m) (by omega)
    have a6:=Aw.WC (w':=w.setRow r0 D) H M hm NB (0,Ob (BR m+g) (Ca m)) (fun i hi=>setRow_other _ _ _ _ hi) (by simp) rfl rfl (fun μ' bw=>by
     rw [E7 _ _ _ _ _ _ J]
     refine an μ' D _ Q (by omega) (by omega) fun j hj=>?_
     rw [be]
     split
     ·rename_i bn
      simp only [Array.length_toList,aK]at bn
      obtain ⟨x,hx⟩:=aL.get (i:=j-BR m) (by omega)
      exact ⟨x,by rw [Array.getElem?_toList];exact hx⟩
     ·exact ad j (by omega))
    subst er
    refine ⟨.value _,_,_,_,run (v:=.slice (some ⟨r0,0,none⟩) (BR m+g) (Ca m)) ?_,.inl rfl,a6,?_⟩
    ·rw [e2]
     refine C2 ht hu hd aN ao hfit hL ?_
     simp only [Addr.Bl,Nat.mul_one,Nat.zero_add]
     exact bj
    ·simp only [Ae]
     exact ⟨_,_,Aq.BQ _ _ _,by rw [Q,aj],by omega,by omega⟩
   ·
    have hO:=run_loadCells_list (P:=P) (w:=w.drew) ⟨r0,0,none⟩ (N.toList.take (BR m)) (fun j v Z=>by
     rw [Addr.Bl]
     show w.cell? _=_
     rw [Cz J,Nat.zero_add]
     rw [List.getElem?_take]at Z
     split at Z
     ·rw [←Array.getElem?_toList];exact Z
     ·cases Z)
    have aI:(N.toList.take (BR m)).length=BR m:=by simp;omega
    rw [aI]at hO
    refine fresh _ _ _ NB (h.set b none) (N.toList.take (BR m)).toArray e2 (by omega) z an (by omega) (Aw.drop H b) (by simpa using aI) ?_ ?_ er
    ·intro v Z
     simp only at Z
     obtain ⟨j,hj⟩:=List.mem_iff_getElem?.1 Z
     rw [List.getElem?_take]at hj
     split at hj
     ·rename_i bF
      obtain ⟨x,hx⟩:=ad j (by omega)
      rw [Array.getElem?_toList,hx]at hj
      simp only [oI]at hj
      exact ⟨x,hj.symm⟩
     ·cases hj
    ·simp [Builtin.firstCells,hO]
  unfold Xj at A
  split at A
  ·rename_i mm aw
   obtain ⟨ag,ax⟩:=Ap A
   obtain ⟨t',bh,af⟩:=Ab ax
   simp only [oI]at af
   have ag:=An.1 ag
   have M:=NS aw
   rw [ag]at M
   obtain ⟨r1,m1,N,R,J,bk,bo,a9,bg,al,ad⟩:=H.sbytes M
   rw [hm]at R
   simp only [oI,Prod.mk.injEq,true_and]at R
   obtain ⟨rfl,rfl⟩:=R
   obtain ⟨q,aM,a8⟩:=OU bh
   obtain ⟨b1,b2⟩:=H.AY.facts.CQ _ a8
   have b1:mm.1.den ρ+(q:Int)≤t'.den ρ:=b1
   have b2:t'.den ρ≤1048576:=b2
   have aM:n≤q:=aM
   exact key _ (.sbytes t' e') N M J al ad (by omega) (fun μ' D C g1 g2 g3 g4=>⟨D,rfl,rfl,by omega,by omega,b2,g2,g3,g4⟩) af.symm
  ·obtain ⟨mm,aw,ax⟩:=Ab A
   obtain ⟨ap,af⟩:=Ap ax
   simp only [oI]at af
   rw [aT,An,AX]at ap
   obtain ⟨ag,z⟩:=ap
   have M:=JY aw
   rw [ag]at M
   obtain ⟨r1,m1,N,R,J,bk,bo,a9,bg,al,ad⟩:=H.bytes M
   rw [hm]at R
   simp only [oI,Prod.mk.injEq,true_and]at R
   obtain ⟨rfl,rfl⟩:=R
   have z:mm.1+n≤1048576:=z
   exact key _ (.bytes (mm.1+n) e') N M J al ad (by omega) (fun μ' D C g1 g2 g3 g4=>⟨D,rfl,rfl,by omega,by omega,z,g2,g3,g4⟩) af.symm
 ·cases A
theorem Aw.lost {w':World} (H:AO ρ μ h w) {b:Nat} {v:Block} {r:Nat} {δ:Nat×Nat} (hb:h.get b=some v) (y:μ b=some (r,δ))
  (z:∀i,i≠r→w'.heap[i]?=w.heap[i]?) (P:w'.heap.size=w.heap.size) (x:w'.os=w.os) (u:w'.output=w.output):Aw ρ μ h w μ (h.set b none) w':=by
 have k:∀c g s q,(h.set b none).get c=some g→μ c=some (s,q)→h.get c=some g∧s≠r:=fun c g s q hc d=>by
  rw [Al.Bq]at hc
  split at hc
  ·cases hc
  ·rename_i J
   exact ⟨hc,fun e=>J (H.inj _ _ _ _ _ _ _ hc hb d (e▸y))⟩
 have j:∀s,s<w.heap.size→¬AU μ h s→w'.heap[s]?=w.heap[s]?∧¬AU μ (h.set b none) s:=fun s hs A=>by
  refine ⟨z s fun e=>A ⟨b,v,δ,hb,e▸y⟩,?_⟩
  rintro ⟨c,g,q,hc,d⟩
  exact A ⟨c,g,q,(k _ _ _ _ hc d).1,d⟩
 refine ⟨μ.le_refl,⟨fun c hc=>H.fresh c hc,fun c g hc=>?_,fun c R Q B2 s Z U O M D C=>?_,H.Gl j⟩,by omega,j,x,u,Nat.le_refl _,fun _ _=>rfl,fun _ _ h=>.inl h,rfl⟩
 ·have o:=hc
  rw [Al.Bq]at o
  split at o
  ·cases o
  ·obtain ⟨s,q,d,N⟩:=H.blk c g o
   exact ⟨s,q,d,by rw [z s (k _ _ _ _ hc d).2];exact N⟩
 ·exact H.inj _ _ _ _ _ _ _ (k _ _ _ _ O D).1 (k _ _ _ _ M C).1 D C
theorem QI (w:World) (r i n:Nat) (c:i≠r):(w.freeze ⟨r,0,none⟩ n).heap[i]?=w.heap[i]?:=by
 unfold World.freeze
 split
 ·rfl
 ·simp only [Array.getElem?_modify]
  rw [if_neg (Ne.symm c)]
theorem SC (w:World) (p:Addr) (n:Nat):(w.freeze p n).heap.size=w.heap.size:=by
 unfold World.freeze
 split<;>simp
theorem Pd (w:World) (p:Addr) (n:Nat):(w.freeze p n).os=w.os∧(w.freeze p n).output=w.output:=by
 unfold World.freeze
 split<;>exact ⟨rfl,rfl⟩
theorem Ya {o:Oper} {c:Call} {pt it e:TypeId} {p n:Operand} (ho:o.op=.call c) (aq:c.callee=.builtin .unsafeString) (ai:c.args=#[p,n]) (ap:c.argTypes=#[pt,it])
  (H:AO ρ μ h w) (hT:Be ρ μ tm a) (hp:P.underlying pt=some (.pointer e)) (hc:P.cellsOf e=1) {r:GZ} (u:Y1 h e (ev tm (AJ p)) (ev tm (AJ n))=some r):EG P ρ μ h a o w r:=by
 have hx:=Au hT p
 have hy:=Au hT n
 have run:∀{v:Value} {wf:World},(Builtin.unsafeString_ #[pt,it] o.type #[a.eval p,a.eval n]).run P w=.ok v wf→(execOp a.eval o).run P w=.ok (.value v) wf:=fun {v wf} N=>by
  simp [execOp,ho,resolve,aq,ai,ap,invoke,builtin,N]
 unfold Y1 at u
 split at u
 ·rename_i e1 e2
  rw [e1]at hx
  rw [e2]at hy
  have f1:a.eval p=.pointer none:=by simpa only [Ae]using hx
  have f2:a.eval n=.int .i64 0:=by have:=hy.int;simpa [ST.den]using this
  simp only [oI]at u
  subst u
  refine ⟨.value (.string .empty),.string .empty,w,μ,run ?_,.inl rfl,Aw.refl H,by simp only [Ae];exact ⟨_,rfl,rfl⟩⟩
  rw [f1,f2]
  exact Lib.run_unsafeString_none w pt it o.type none
 ·rename_i b k e1 e2
  rw [e1]at hx
  rw [e2]at hy
  obtain ⟨af,U⟩:=Ap u
  clear u
  have af:=An.1 af
  subst af
  obtain ⟨nn,blk,d,rfl,M,g,A,D,z,ab,Z,ae,R,aa,Q⟩:∃(nn:Nat) (blk:Block),h.get b=some blk∧r=.val (.anyStr nn) (h.set b none)∧∃M g A,μ b=some (M,0,g)∧w.heap[M]?=some (.cells A e (0,0))∧1≤BR g∧BR g≤nn∧nn≤1048576∧BR g≤Ca g∧Ca g≤A.size∧∀i,i<Ca g→∃x:UInt8,A[i]?=some (.int .u8 x.toNat):=by
   unfold Ado at U
   split at U
   ·rename_i sm O
    obtain ⟨C,u⟩:=Ap U
    have C:=An.1 C
    simp only [oI]at u
    have d:h.get b=some (.sbytes sm.1 sm.2):=by
     unfold Hy at O
     split at O
     ·rename_i t' e' hb
      simp only [oI]at O
      rw [hb,←O]
     ·cases O
    rw [C]at d
    obtain ⟨M,⟨δ1,g⟩,D,A,z,h0,ab,Z,ae,R,aa,Q⟩:=H.blk b _ d
    have h0:δ1=0:=h0
    subst h0
    have Z:(BR g:Int)≤sm.1.den ρ:=Z
    exact ⟨1048576,_,d,u.symm,M,g,A,D,z,ab,by omega,Nat.le_refl _,R,aa,Q⟩
   ·obtain ⟨m,hm,ak⟩:=Ab U
    unfold Adp at ak
    obtain ⟨C,u⟩:=Ap ak
    have C:=An.1 C
    simp only [oI]at u
    have d:=JY hm
    rw [C]at d
    obtain ⟨M,g,A,D,z,ab,Z,ae,R,aa,Q⟩:=H.bytes d
    exact ⟨m.1,_,d,u.symm,M,g,A,D,z,ab,Z,ae,R,aa,Q⟩
  clear U
  obtain ⟨r2,δ2,m2,ad,f1⟩:=hx.ptr
  rw [D]at ad
  simp only [oI,Prod.mk.injEq]at ad
  obtain ⟨rfl,rfl,rfl⟩:=ad
  obtain ⟨r3,m3,ag,f2⟩:=hy.glen
  rw [D]at ag
  simp only [oI,Prod.mk.injEq,true_and]at ag
  obtain ⟨rfl,rfl⟩:=ag
  obtain ⟨l,hl1,hl2⟩:∃l:List UInt8,l.length=BR g∧∀(j:Nat) (x:UInt8),l[j]?=some x→A[j]?=some (Value.int .u8 (x.toNat:Int)):=by
   have:∀q,q≤Ca g→∃l:List UInt8,l.length=q∧∀(j:Nat) (x:UInt8),l[j]?=some x→A[j]?=some (Value.int .u8 (x.toNat:Int)):=fun q=>by
    induction q with
    |zero=>exact fun _=>⟨[],rfl,fun j x J=>by simp at J⟩
    |succ q ih=>
     intro hq
     obtain ⟨l,h1,h2⟩:=ih (by omega)
     obtain ⟨x,hx⟩:=Q q (by omega)
     refine ⟨l++[x],by simp [h1],fun j y J=>?_⟩
     rw [List.getElem?_append]at J
     split at J
     ·exact h2 j y J
     ·rename_i aH
      have ax:j=q:=by
       have:=(List.getElem?_eq_some_iff.1 J).1
       simp at this;omega
      subst ax
      rw [h1]at J
      simp at J
      subst J
      exact hx
   exact this _ R
  have N:=Lib.run_unsafeString_row (P:=P) w pt it o.type e hp hc M A.size (by simp [World.shape?,z]) l (by rintro rfl;simp at hl1;omega) (by omega) (by omega) (fun j x J=>by
   rw [Addr.Bl,Cz z,Nat.zero_add]
   exact hl2 j x J)
  rw [hl1]at N
  have hg:Aw ρ μ h w μ (h.set b none) (w.freeze ⟨M,0,none⟩ (BR g)):=Aw.lost H d D (fun i hi=>QI w M i _ hi) (SC w _ _) (Pd w _ _).1 (Pd w _ _).2
  refine ⟨.value (.string ⟨l.toArray⟩),_,_,μ,run ?_,.inl rfl,hg,?_⟩
  ·rw [f1,f2];exact N
  ·simp only [Ae]
   exact ⟨_,rfl,by simp [ByteArray.size,hl1];omega,by simp [ByteArray.size,hl1];omega⟩
 ·cases u
end
end Go.AM
end
section
namespace Go.AM
section
variable {P:Program} {Γ:Ao} {ρ:Env} {μ:Aq} {tm:Tr Aa} {a:Act} {w:World} {h:Al}
theorem Ix.one {Bf:Nat→Option Obj} {p:PV} {v:Value} (h:Ix Bf p v):v.oneCell'=true:=by
 cases p<;>simp only [Ix]at h
 case bool|int|nilp=>subst h;rfl
 case str=>obtain ⟨_,rfl,_⟩:=h;rfl
 case list=>
  obtain ⟨_,_,⟨_,_,rfl⟩|⟨_,_,_,_,rfl,_⟩⟩:=h<;>rfl
theorem AW.one {Bf:Nat→Option Obj} {c:Array Value}:∀{d:List PV} {δ:Nat},AW Bf c δ d→∀k v,k<d.length→c[δ+k]?=some v→v.oneCell'=true
 |[],_,_,k,v,hk,_=>by simp at hk
 |p::d,δ,h,k,v,hk,hv=>by
  simp only [AW]at h
  obtain ⟨⟨u,g,j⟩,o⟩:=h
  cases k with
  |zero=>
   rw [Nat.add_zero,g]at hv
   simp only [oI]at hv
   subst hv
   exact j.one
  |succ k=>exact AW.one o k v (by simpa using hk) (by rw [show δ+1+k=δ+(k+1) by omega];exact hv)
theorem Qt (H:AO ρ μ h w) {f:Bool} {i g:Nat} {t:ST} {u:Value} (Q:Ae ρ μ (.lst f i g t) u):
  (Builtin.lenOf u).run P w=.ok (ρ.lst i).length w∧∃L:Array Value,(Builtin.firstCells g (ρ.lst i).length u).run P w=.ok L w∧AW μ.Bf L 0 (ρ.lst i).flatten∧((ρ.lst i).length≠0→(∀p∈ρ.lst i,p.length=g)∧L.size=(ρ.lst i).length*g):=by
 obtain ⟨p,c,rfl,_,_,J⟩:=Q.Et
 refine ⟨by simp [Builtin.lenOf],?_⟩
 by_cases hz:(ρ.lst i).length=0
 ·have y:ρ.lst i=[]:=List.eq_nil_of_length_eq_zero hz
  refine ⟨#[],?_,by rw [y];simp only [List.flatten_nil,AW],fun h=>absurd hz h⟩
  rw [hz]
  cases p<;>simp [Builtin.firstCells,loadCells,loadCellsFrom]
 ·obtain ⟨r,δ,a,e,rfl,x,M⟩:=J hz
  obtain ⟨_,x⟩:=x
  have z:=(H.AY.Bf _ _ x).1
  have d:=BB.1 M
  obtain ⟨l,k,C,A⟩:=d.2.values
  have o:=BN d.1
  have D:=run_loadCells_list (P:=P) (w:=w) ⟨r,δ,none⟩ l (fun j v N=>by
   rw [Addr.Bl]
   show w.cell? _=_
   rw [Cz z];exact C j v N)
  rw [k,o]at D
  refine ⟨l.toArray,by simp [Builtin.firstCells,D],AW.congr (fun q O=>?_) d.2,fun _=>⟨d.1,by simp [k,o]⟩⟩
  have:=A q O
  simpa using this.symm
theorem B9.split:∀{p q:List AQ} {l:List (List PV)},B9 ρ (p++q) l→∃x y,l=x++y∧B9 ρ p x∧B9 ρ q y
 |[],q,l,h=>⟨[],l,rfl,rfl,h⟩
 |z::p,q,l,h=>by
  obtain ⟨x,y,rfl,d,j⟩:=h
  obtain ⟨c,g,rfl,o,k⟩:=B9.split j
  exact ⟨x++c,g,(List.append_assoc _ _ _).symm,⟨x,c,rfl,d,o⟩,k⟩
theorem B9.single {p:AQ} {l:List (List PV)} (h:B9 ρ [p] l):FG ρ p l:=by
 obtain ⟨x,y,rfl,d,c⟩:=h
 have c:y=[]:=c
 subst c
 rw [List.append_nil];exact d
theorem TV {y:Aa} {bytes:Bool} {l:Nat×Nat×ST} (h:W0 y bytes=some l):∃f,y=.lst f l.1 l.2.1 l.2.2:=by
 unfold W0 at h
 split at h
 ·cases h
 ·simp only [oI]at h
  subst h
  exact ⟨_,rfl⟩
 ·cases h
theorem QY {o:Oper} {c:Call} {t u e:TypeId} {d:TypeDesc} {x y:Operand} (ho:o.op=.call c) (bA:c.callee=.builtin .append) (aQ:c.args=#[x,y]) (bl:c.argTypes=#[t,u])
  (H:AO ρ μ h w) (hT:Be ρ μ tm a) (ht:P.underlying t=some (.slice e)) (hu:P.underlying u=some d) (hd:EH d) {i:TypeInfo} (hi:P.info? e=some i) (hb:i.bytes≤1048576) (hz:(i.zero.map fun v=>Nat.beq v.cells.size i.size).getD false=true)
  {bytes:Bool} {l:Nat×Nat×ST} (hs:W0 (ev tm (AJ y)) bytes=some l) {r:Aa×Al} (hr:LL h i.size (ev tm (AJ x)) l.1 l.2.1 l.2.2=some r):EG P ρ μ h a o w (.val r.1 r.2):=by
 have Z:=Au hT x
 have hy:=Au hT y
 obtain ⟨z,hz,hzs⟩:∃z,i.zero=some z∧z.cells.size=i.size:=by
  cases e:i.zero with
  |none=>rw [e]at hz;simp at hz
  |some z=>rw [e]at hz;exact ⟨z,rfl,An.1 (by simpa using hz)⟩
 obtain ⟨li,es,nt⟩:=l
 obtain ⟨f,e0⟩:=TV hs
 have e0:ev tm (AJ y)=.lst f li es nt:=e0
 rw [e0]at hy
 have hr:LL h i.size (ev tm (AJ x)) li es nt=some r:=hr
 unfold LL at hr
 obtain ⟨hc,bg⟩:=Ap hr
 obtain ⟨p,g,a3⟩:=Ab bg
 obtain ⟨j,hj,aZ⟩:=Ab a3
 obtain ⟨tt,bL,a2⟩:=Ab aZ
 obtain ⟨aH,C⟩:=Ap a2
 simp only [oI]at C
 clear hr bg a3 aZ a2
 rw [aT,An]at hc
 obtain ⟨R,bx⟩:=hc
 have hΓ:=H.AY.facts
 have bU:nt.den ρ=((ρ.lst li).length:Int):=hy.lst.2.1
 have bC:0<(ρ.lst li).length:=by
  have:=Ul hΓ bx
  simp only [ST.den,Int.ofNat_eq_natCast]at this
  omega
 have b3:tt.den ρ≤1048576:=by
  have:=Gw hΓ aH
  simpa [ST.den]using this
 have ba:tt.den ρ=((ρ.lst j).length:Int):=hΓ.Ad _ (CG bL)
 obtain ⟨J,Y0,a0,M,bc⟩:=B9.split (hΓ.defs _ (EZ hj))
 have bJ:Y0=ρ.lst li:=B9.single bc
 clear bc
 subst bJ
 have ej:ρ.lst j=J++ρ.lst li:=a0
 clear a0
 subst R
 obtain ⟨aE,L,hL,ay,a8⟩:=Qt (P:=P) H hy
 obtain ⟨ae,a5⟩:=a8 (by omega)
 obtain ⟨_,L',be,aI,aK⟩:=Qt (P:=P) H.drew hy
 obtain ⟨_,aD⟩:=aK (by omega)
 clear a8 aK
 generalize hBg:ρ.lst li=B at bC bU ej aE hL ay ae a5 be aI aD
 have bW:(sizeOf e).run P w=.ok i.size w:=by simp [sizeOf,typeInfo,hi]
 have run:∀{v:Value} {wf:World},(Builtin.append_ #[t,u] o.type #[a.eval x,a.eval y]).run P w=.ok v wf→(execOp a.eval o).run P w=.ok (.value v) wf:=fun {v wf} al=>by
  simp [execOp,ho,resolve,bA,aQ,bl,invoke,builtin,al]
 have D:∀(ag:Option Addr) (len cap:Nat) (h1:Al) (X:List (List PV)) (O:Array Value),a.eval x=.slice ag len cap→cap<len+B.length→Aw ρ μ h w μ h1 w→J=X→X.length=len→(∀p∈X,p.length=i.size)→
   (Builtin.firstCells i.size len (.slice ag len cap)).run P w.drew=.ok O w.drew→O.size=len*i.size→AW μ.Bf O 0 X.flatten→r=(.vec h1.next i.size tt,h1.add (.list j i.size))→EG P ρ μ h a o w (.val r.1 r.2):=fun ag len cap h1 X O e1 b0 aC bI ap ab U bR hX er=>by
  subst er
  subst bI
  have ad:(ρ.lst j).length=len+B.length:=by rw [ej,lA];omega
  obtain ⟨nc,rest,bj,aX,_,al⟩:=DW (P:=P) (ty:=o.type) (O:=O) (L:=L') ht hu hd hi hz aE b0 U be hb (by omega)
  have bB:(O++L'++rest).size=nc*i.size:=by
   simp only [Array.size_append,bR,aD,aX,hzs]
   rw [←Nat.add_mul,←Nat.add_mul]
   congr 1;omega
  have ce:J.flatten.length=len*i.size:=by rw [BN ab,ap]
  have bX:B.flatten.length=B.length*i.size:=BN ae
  have am:BU μ.Bf i.size (O++L'++rest) 0 (ρ.lst j):=by
   rw [BB]
   refine ⟨fun p g=>?_,?_⟩
   ·rw [ej,List.mem_append]at g
    exact g.elim (ab p) (ae p)
   ·rw [ej,List.flatten_append,AW.append_iff]
    refine ⟨AW.congr (fun k hk=>?_) hX,AW.congr (fun k hk=>?_) aI⟩
    ·rw [Array.append_assoc,Array.getElem?_append_left (by omega)]
    ·rw [Array.append_assoc,Array.getElem?_append_right (by omega),Array.getElem?_append_left (by omega)]
     congr 1;omega
  have bm:=Aw.add aC.rel.drew (.list j i.size) (.cells (O++L'++rest) e) (0,Ob (len+B.length) nc) (fun μ' aH=>by
   refine ⟨_,e,rfl,rfl,?_,?_,?_,?_,BU.mono aH.Bf am⟩
   ·rw [B7 (by omega)];omega
   ·rw [B7 (by omega)];omega
   ·rw [B7 (by omega),BS (by omega)];exact bj
   ·rw [BS (by omega),bB];exact Nat.le_refl _)
  refine ⟨.value _,_,_,_,run (by rw [e1];exact al),.inl rfl,(aC.trans (Aw.drew aC.rel)).trans bm,?_⟩
  simp only [Ae]
  refine ⟨_,_,len+B.length,Aq.BQ _ _ _,?_,?_,?_,?_⟩
  ·rw [BS (by omega)]
  ·rw [ba,ad]
  ·rw [B7 (by omega)];exact Nat.le_refl _
  ·rw [B7 (by omega),BS (by omega)];exact bj
 unfold Pw at g
 split at g
 ·
  rename_i e1
  simp only [oI]at g
  subst g
  have M:J=[]:=M
  rw [e1]at Z C
  have Q:a.eval x=.slice none 0 0:=by simpa only [Ae]using Z
  exact D none 0 0 h [] #[] Q (by omega) (Aw.refl H) M rfl (fun _ N=>by cases N) (by simp [Builtin.firstCells]) (by simp) (by simp only [List.flatten_nil,AW]) C.symm
 ·
  rename_i b ci len cap e1
  obtain ⟨aw,bh⟩:=Ap g
  clear g
  have bd:=An.1 aw
  clear aw
  subst bd
  have g:=bh
  clear bh
  have b1:=Z
  rw [e1]at Z C
  obtain ⟨r0,δ,m,hm,Q,_⟩:=Z.slice
  rw [AP]at g
  split at g
  ·rename_i aB
   subst aB
   simp only [oI]at g
   subst g
   have M:J=[]:=M
   exact D _ 0 0 h [] #[] Q (by omega) (Aw.refl H) M rfl (fun _ N=>by cases N) (by simp [Builtin.firstCells,loadCells,loadCellsFrom]) (by simp) (by simp only [List.flatten_nil,AW]) C.symm
  ·rename_i aB
   obtain ⟨s,aF,g⟩:=Ab g
   obtain ⟨b7,g⟩:=Ap g
   obtain ⟨cs,bb,g⟩:=Ab g
   simp only [oI]at g
   subst g
   have ac:Eh ρ cs J:=B9.single M
   obtain ⟨c1,c2,c3⟩:=DN bb
   obtain ⟨f1,f2,f3⟩:=Eh.flat ac
   have bF:Jz h i.size false (ev tm (AJ x))=some s:=by rw [e1];exact aF
   obtain ⟨_,aP,O,U,ao⟩:=Dp (P:=P) (w:=w.drew) H.drew b1 (n:=s.1) (cs:=s.2) bF
   have bN:s.1=len:=by
    have A:=aF
    unfold Ma at A
    rw [AP,if_neg aB]at A
    obtain ⟨_,_,A⟩:=Ab A
    obtain ⟨_,_,A⟩:=Ab A
    simp only [oI]at A;rw [←A]
   rw [bN]at aP U
   rw [Q]at U
   rw [c1]at f1
   refine D _ _ _ h J O Q (by omega) (Aw.refl H) rfl (by omega) (f3 _ c3) U ?_ ?_ C.symm
   ·have:=ao.length;simp at this;omega
   ·exact Ax.freeze f1 ao fun q v hv=>by simpa using hv
 ·
  rename_i k a9 m e1
  obtain ⟨R,g⟩:=Ap g
  simp only [oI]at g
  subst g
  have R:=An.1 R
  subst R
  have ac:J=ρ.lst k:=B9.single M
  rw [e1]at Z C
  obtain ⟨_,_,aW⟩:=Z.lst
  obtain ⟨q,Q⟩:=aW rfl
  obtain ⟨_,O,U,bM,bS⟩:=Qt (P:=P) H.drew Z
  rw [Q]at U
  by_cases hz0:(ρ.lst k).length=0
  ·have az:ρ.lst k=[]:=List.eq_nil_of_length_eq_zero hz0
   refine D _ _ _ h (ρ.lst k) #[] Q (by omega) (Aw.refl H) ac rfl (fun q N=>by rw [az]at N;cases N) ?_ (by simp [hz0]) (by rw [az];simp only [List.flatten_nil,AW]) C.symm
   rw [hz0]
   cases q<;>simp [Builtin.firstCells,loadCells,loadCellsFrom]
  ·obtain ⟨h2,h3⟩:=bS hz0
   exact D _ _ _ h (ρ.lst k) O Q (by omega) (Aw.refl H) ac rfl h2 U h3 bM C.symm
 ·
  rename_i b a9 m e1
  obtain ⟨⟨bi,bK⟩,bk,g⟩:=Ab g
  obtain ⟨bf,g⟩:=Ap g
  simp only [oI]at g
  subst g
  rw [aT,An,An]at bf
  obtain ⟨R,ah⟩:=bf
  have ah:bK=a9:=ah
  subst ah
  subst R
  have ac:FG ρ (.take bi m) J:=B9.single M
  rw [e1]at Z C
  have C:(Aa.vec h.next i.size tt,(h.set b none).add (.list j i.size))=r:=C
  obtain ⟨r0,m0,k,hm,Q,hk,cj,bd⟩:=Z.vec
  obtain ⟨r1,⟨δ1,m1⟩,aG,c0,ty,ak,h0,h1,h2,h3,h4,h5⟩:=H.blk b _ (Di bk)
  rw [hm]at aG
  simp only [oI,Prod.mk.injEq]at aG
  obtain ⟨rfl,rfl,rfl⟩:=aG
  have h1:(ρ.lst bi).length≤BR m0:=h1
  have h4:Ca m0*i.size≤c0.size:=h4
  have h5:BU μ.Bf i.size c0 0 (ρ.lst bi):=h5
  obtain ⟨_,a6,af⟩:=ac
  have a6:k≤(ρ.lst bi).length:=by rw [hk]at a6;omega
  have af:J=(ρ.lst bi).take k:=by rw [af,hk];rfl
  have ab:∀p∈J,p.length=i.size:=fun p g=>(BB.1 h5).1 p (List.mem_of_mem_take (by rw [af]at g;exact g))
  have ap:J.length=k:=by rw [af,lT'];omega
  have hX:AW μ.Bf c0 0 J.flatten:=by
   have:=(BB.1 h5).2
   rw [←List.take_append_drop k (ρ.lst bi),List.flatten_append,AW.append_iff]at this
   rw [af];exact this.1
  have a4:J.flatten.length=k*i.size:=by rw [BN ab,ap]
  by_cases hfit:k+B.length≤Ca m0
  ·
   have ad:(ρ.lst j).length=k+B.length:=by rw [ej,lA];omega
   have bz:(k+B.length)*i.size≤Ca m0*i.size:=Nat.mul_le_mul_right _ hfit
   rw [Nat.add_mul]at bz
   have bX:B.flatten.length=B.length*i.size:=BN ae
   have cg:L.toList.length=B.length*i.size:=by simpa using a5
   have br:∀v∈L.toList,v.oneCell'=true:=fun v hv=>by
    obtain ⟨q,N⟩:=List.mem_iff_getElem?.1 hv
    have cf:=(List.getElem?_eq_some_iff.1 N).1
    exact ay.one q v (by omega) (by rw [Nat.zero_add,←Array.getElem?_toList];exact N)
   obtain ⟨c',bO,bb,a1⟩:=DV (P:=P) L.toList ak (p:=k*i.size) (by omega) br
   have am:BU μ.Bf i.size c' 0 (ρ.lst j):=by
    rw [BB]
    refine ⟨fun p g=>?_,?_⟩
    ·rw [ej,List.mem_append]at g
     exact g.elim (ab p) (ae p)
    ·rw [ej,List.flatten_append,AW.append_iff]
     refine ⟨AW.congr (fun q N=>?_) hX,AW.congr (fun q N=>?_) ay⟩
     ·rw [a1,if_neg (by omega)]
     ·rw [a1,if_pos (by omega),←Array.getElem?_toList]
      congr 1;omega
   have bQ:=Aw.WC (w':=w.setRow r0 c') H (Di bk) hm (.list j i.size) (0,Ob (k+B.length) (Ca m0)) (fun i hi=>setRow_other _ _ _ _ hi) (by simp) rfl rfl (fun μ' bn=>by
    rw [E7 _ _ _ _ _ _ ak]
    refine ⟨c',ty,rfl,rfl,?_,?_,?_,?_,BU.mono bn.Bf am⟩
    ·rw [B7 (by omega)];omega
    ·rw [B7 (by omega)];omega
    ·rw [B7 (by omega),BS (by omega)];exact hfit
    ·rw [BS (by omega)];omega)
   subst C
   refine ⟨.value _,_,_,_,run (v:=.slice (some ⟨r0,0,none⟩) (k+B.length) (Ca m0)) ?_,.inl rfl,bQ,?_⟩
   ·rw [Q]
    refine C2 ht hu hd bW aE hfit hL ?_
    simp only [Addr.Bl,Nat.zero_add]
    exact bO
   ·simp only [Ae]
    refine ⟨_,_,k+B.length,Aq.BQ _ _ _,?_,?_,?_,?_⟩
    ·rw [BS (by omega)]
    ·rw [ba,ad]
    ·rw [B7 (by omega)];exact Nat.le_refl _
    ·rw [B7 (by omega),BS (by omega)];exact hfit
  ·
   obtain ⟨l,a7,bw,bo⟩:=hX.values
   have U:=run_loadCells_list (P:=P) (w:=w.drew) ⟨r0,0,none⟩ l (fun j v hv=>by
    rw [Addr.Bl]
    show w.cell? _=_
    rw [Cz ak];exact bw j v hv)
   rw [a7,a4]at U
   refine D _ _ _ (h.set b none) J l.toArray Q (by omega) (Aw.drop H b) rfl ap ab (by simp [Builtin.firstCells,U]) (by simp [a7,a4]) (AW.congr (fun q N=>?_) hX) ?_
   ·have:=bo q N
    simpa using this.symm
   ·rw [←C];rfl
 ·cases g
end
end Go.AM
end
section
namespace Go.AM
theorem Im (b off len es j:Nat) (v:Aa) (r:List Aa):LB b off len es j (v::r)=U3 b off len es j v::LB b off len es j r:=rfl
theorem MR {b off len es j:Nat}:∀{l:List Aa} {i:Nat},(LB b off len es j l)[i]?=(l[i]?).map (U3 b off len es j)
 |[],i=>by show ([]:List Aa)[i]?=_;simp
 |v::r,i=>by
  rw [Im]
  cases i with
  |zero=>simp
  |succ i=>simpa using MR (l:=r) (i:=i)
def Aq.Ey (μ:Aq) (r:Nat) (o:Option Obj):Aq:=⟨μ.spot,fun g=>if g=r then o else μ.Bf g⟩
section
variable {ρ:Env} {μ:Aq} {w:World} {h:Al} {b off len es j:Nat}
theorem Aq.JH {r:Nat} {o:Option Obj} (c:∀x,μ.Bf r=some x→o=some x):μ.le (μ.Ey r o):=
 ⟨fun _ _ e=>e,fun g x e=>by
  show (if g=r then o else μ.Bf g)=some x
  by_cases hg:g=r
  ·subst hg;rw [if_pos rfl];exact c x e
  ·rw [if_neg hg];exact e⟩
structure Frz (ρ:Env) (μ:Aq) (b off len es j r δ m:Nat) (c:Array Value) (e:TypeId):Prop where
 spot:μ b=some (r,δ,m)
 len:(ρ.lst j).length=len
 Bf:μ.Bf r=some (.cells c e (0,0))
 rep:BU μ.Bf es c (δ+off) (ρ.lst j)
theorem HD {r δ m:Nat} {c:Array Value} {e:TypeId} (F:Frz ρ μ b off len es j r δ m c e) {v:Aa} {u:Value} (o:Ae ρ μ v u):Ae ρ μ (U3 b off len es j v) u∧(U3 b off len es j v).single=v.single:=by
 have key:∀(cap:Nat),u=.slice (some ⟨r,δ+off,none⟩) len cap→len≤cap→Ae ρ μ (.lst false j es (.lit (.ofNat len))) u:=fun cap D hc=>by
  simp only [Ae,Ix]
  refine ⟨⟨cap,by rw [F.len];exact hc,.inr ⟨r,δ+off,c,e,by rw [F.len];exact D,⟨_,F.Bf⟩,F.rep⟩⟩,?_,fun e=>by cases e⟩
  rw [F.len];rfl
 unfold U3
 split
 ·rename_i x k d cap
  cases hc:Nat.beq b x&&(Nat.beq off k&&Nat.beq len d)with
  |false=>exact ⟨o,rfl⟩
  |true=>
   rw [aT,aT,An,An,An]at hc
   obtain ⟨rfl,rfl,rfl⟩:=hc
   obtain ⟨J,C,M,g,q,y⟩:=o.slice
   rw [F.spot]at g
   simp only [oI,Prod.mk.injEq]at g
   obtain ⟨rfl,rfl,rfl⟩:=g
   refine ⟨?_,rfl⟩
   have z:=key cap q y
   simp only [Ae]at z⊢
   obtain ⟨A,H,_⟩:=z
   refine ⟨A,H,fun e=>?_⟩
   have e:=An.1 e
   exact ⟨_,by rw [F.len];rw [q,e]⟩
 ·rename_i x k d N
  cases hc:Nat.beq b x&&(Nat.beq off k&&Nat.beq len d)with
  |false=>exact ⟨o,rfl⟩
  |true=>
   rw [aT,aT,An,An,An]at hc
   obtain ⟨rfl,rfl,rfl⟩:=hc
   obtain ⟨J,C,M,cap,g,q,y,_⟩:=o.gslice
   rw [F.spot]at g
   simp only [oI,Prod.mk.injEq]at g
   obtain ⟨rfl,rfl,rfl⟩:=g
   exact ⟨key cap q y,rfl⟩
 ·exact ⟨o,rfl⟩
theorem QH {r δ m:Nat} {c:Array Value} {e:TypeId} (F:Frz ρ μ b off len es j r δ m c e):∀{l:List Aa} {us:List Value},Ax ρ μ l us→Ax ρ μ (LB b off len es j l) us
 |[],us,h=>h
 |v::l,us,h=>by
  rw [Im]
  simp only [Ax]at h⊢
  obtain ⟨u,rest,rfl,⟨d,k⟩,q⟩:=h
  obtain ⟨g,o⟩:=HD F k
  exact ⟨u,rest,rfl,⟨by rw [o];exact d,g⟩,QH F q⟩
theorem F9 {o:Option Bool}:Dv o=true↔o=some true:=by
 unfold Dv
 split
 ·simp
 ·rename_i h
  constructor
  ·intro e;cases e
  ·intro e;exact absurd e h
theorem MQ {Γ:Ao} (M:Γ.AL ρ) {vs:List Aa} (k:Pc Γ off len es j vs=true):∃cs,cut vs off (len*es)=some cs∧(ρ.lst j).length=len∧(∀p∈ρ.lst j,p.length=es)∧CR ρ (CW cs) (ρ.lst j).flatten:=by
 unfold Pc at k
 obtain ⟨cs,y,o⟩:=Ab (F9.1 k)
 obtain ⟨_,u⟩:=Ap o
 obtain ⟨E,D,q⟩:=Ab u
 obtain ⟨j',x,c⟩:=Ab q
 simp only [oI]at c
 have c:=An.1 c
 subst c
 obtain ⟨C,O,z⟩:=DN D
 obtain ⟨A,B,d,H,g⟩:=M.defs _ (EZ x)
 have g:B=[]:=g
 subst g
 rw [List.append_nil]at d
 have d:ρ.lst j'=A:=d
 subst d
 obtain ⟨v,N,J⟩:=Eh.flat H
 exact ⟨cs,y,by omega,J es z,by rw [C]at v;exact v⟩
theorem Nr {vs cs:List Aa} {c:Array Value} {δ n:Nat} (hc:∀(i:Nat) (x:Aa),vs[i]?=some x→∃v,c[δ+i]?=some v∧x.single=true∧Ae ρ μ x v) (d:cut vs off n=some cs) {g:List PV} (hd:CR ρ (CW cs) g):AW μ.Bf c (δ+off) g:=by
 obtain ⟨l,q,k,o⟩:=DM hc d
 exact Ax.freeze hd k fun i v j=>o i v j
theorem Yb (H:AO ρ μ h w) {Q:Block} {r:Nat} {O:Nat×Nat} (hb:h.get b=some Q) (P:μ b=some (r,O)):
  AO ρ (μ.Ey r w.heap[r]?) (h.set b none) w∧Aw ρ μ h w (μ.Ey r w.heap[r]?) (h.set b none) w:=by
 have u:AU μ h r:=⟨b,_,O,hb,P⟩
 have C:∀x,μ.Bf r=some x→w.heap[r]?=some x:=fun x R=>absurd u (H.AY.Bf r x R).2
 have z:μ.le (μ.Ey r w.heap[r]?):=Aq.JH C
 have k:∀d B,(h.set b none).get d=some B→h.get d=some B∧d≠b:=fun d B hd=>by
  have hd:(Tr.set h.DR b none).get d=some B:=hd
  rw [Tr.Bq]at hd
  by_cases e:d=b
  ·rw [if_pos e]at hd;cases hd
  ·rw [if_neg e]at hd;exact ⟨hd,e⟩
 have j:∀s,AU (μ.Ey r w.heap[r]?) (h.set b none) s→AU μ h s∧s≠r:=fun s ⟨d,B,x,D,v⟩=>by
  obtain ⟨y,M⟩:=k d B D
  exact ⟨⟨d,B,x,y,v⟩,fun e=>M (H.inj _ _ _ _ _ _ _ y hb v (e▸P))⟩
 have N:AO ρ (μ.Ey r w.heap[r]?) (h.set b none) w:=by
  refine ⟨fun d hd=>H.fresh d hd,fun d B hd=>?_,fun d d' B B' s x x' D v Z U=>?_,⟨fun g o c=>?_,fun g o c=>?_,H.AY.facts⟩⟩
  ·obtain ⟨y,M⟩:=k d B hd
   obtain ⟨s,x,e1,e2⟩:=H.blk d B y
   exact ⟨s,x,e1,e2.mono z⟩
  ·exact H.inj _ _ _ _ _ _ _ (k _ _ D).1 (k _ _ v).1 Z U
  ·obtain ⟨A,J⟩:=H.AY.AY g o c
   exact ⟨A,fun e=>J (j g e).1⟩
  ·have c:(if g=r then w.heap[r]? else μ.Bf g)=some o:=c
   by_cases e:g=r
   ·subst e
    rw [if_pos rfl]at c
    exact ⟨c,fun q=>(j _ q).2 rfl⟩
   ·rw [if_neg e]at c
    obtain ⟨A,J⟩:=H.AY.Bf g o c
    exact ⟨A,fun q=>J (j g q).1⟩
 refine ⟨N,⟨z,N,Nat.le_refl _,fun s _ hs=>⟨rfl,fun q=>hs (j s q).1⟩,rfl,rfl,Nat.le_refl _,fun _ _=>rfl,fun g o c=>?_,rfl⟩⟩
 have c:(if g=r then w.heap[r]? else μ.Bf g)=some o:=c
 by_cases e:g=r
 ·subst e;exact .inr (.inl u)
 ·rw [if_neg e]at c;exact .inl c
theorem Nx (H:AO ρ μ h w) (z:Nat×Nat×Nat×Nat×Nat) (new:List Aa):
  ∃d,AO ρ d (Fo h z new).1 w∧Aw ρ μ h w d (Fo h z new).1 w∧∀us,Ax ρ μ new us→Ax ρ d (Fo h z new).2 us:=by
 have same:∃d,AO ρ d h w∧Aw ρ μ h w d h w∧∀us,Ax ρ μ new us→Ax ρ d new us:=⟨μ,H,Aw.refl H,fun _ h=>h⟩
 unfold Fo
 split
 case h_2=>exact same
 rename_i vs hb
 cases hk:Pc h.fx z.2.1 z.2.2.1 z.2.2.2.1 z.2.2.2.2 vs with
 |false=>exact same
 |true=>
 simp only [cond_true]
 obtain ⟨b,off,len,es,j⟩:=z
 simp only at hb hk⊢
 obtain ⟨cs,u,q,v,hd⟩:=MQ H.AY.facts hk
 obtain ⟨r,⟨δ,m⟩,y,c,t,A,M,hc⟩:=H.blk b _ hb
 obtain ⟨D,C⟩:=Yb H hb y
 have k:AU μ h r:=⟨b,_,(δ,m),hb,y⟩
 have g:μ.le (μ.Ey r w.heap[r]?):=Aq.JH fun x J=>absurd k (H.AY.Bf r x J).2
 have o:AW μ.Bf c (δ+off) (ρ.lst j).flatten:=Nr hc u hd
 have Z:Frz ρ (μ.Ey r w.heap[r]?) b off len es j r δ m c t:=by
  refine ⟨y,q,?_,?_⟩
  ·show (if r=r then w.heap[r]? else μ.Bf r)=_
   rw [if_pos rfl];exact A
  ·exact BU.mono g.Bf (BB.2 ⟨v,o⟩)
 exact ⟨_,D,C,fun us h=>QH Z (h.mono g)⟩
theorem HU:∀(l:List (Nat×Nat×Nat×Nat×Nat)) {μ:Aq} {h:Al} (new:List Aa),AO ρ μ h w→
  ∃c,AO ρ c (Gh l h new).1 w∧Aw ρ μ h w c (Gh l h new).1 w∧∀us,Ax ρ μ new us→Ax ρ c (Gh l h new).2 us
 |[],μ,h,new,H=>⟨μ,H,Aw.refl H,fun _ h=>h⟩
 |z::l,μ,h,new,H=>by
  obtain ⟨u,g,g1,j⟩:=Nx H z new
  obtain ⟨k,d,g2,q⟩:=HU l (Fo h z new).2 g
  exact ⟨k,d,g1.trans g2,fun us o=>q us (j us o)⟩
end
section
variable {P:Program} {ρ:Env} {μ:Aq} {tm:Tr Aa} {a:Act} {w:World} {h:Al}
theorem QZ {o:Oper} {c:Call} {t u e:TypeId} {d:TypeDesc} {x y:Operand} (R:o.op=.call c) (q:c.callee=.builtin .append) (g:c.args=#[x,y]) (k:c.argTypes=#[t,u])
  (H:AO ρ μ h w) (A:Be ρ μ tm a) (O:P.underlying t=some (.slice e)) (N:P.underlying u=some d) (hd:EH d) {i:TypeInfo} (M:P.info? e=some i) (hb:i.bytes≤1048576) (Q:(i.zero.map fun v=>Nat.beq v.cells.size i.size).getD false=true)
  {bytes:Bool} {s:Nat×List Aa} (hs:Jz h i.size bytes (ev tm (AJ y))=some s) {r:Aa×Al} (j:Rk h i.size (ev tm (AJ x)) s.1 s.2=some r):EG P ρ μ h a o w (.val r.1 r.2):=by
 unfold Rk at j
 split at j
 ·rename_i b es m Z
  rw [←Z]at j
  cases hden:Rb s.2 with
  |true=>rw [hden]at j;exact Lm R q g k H A O N hd M hb Q hs j
  |false=>
   rw [hden]at j
   simp only [cond_false]at j
   obtain ⟨n,new⟩:=s
   have U:=Au A y
   obtain ⟨μ1,H1,g1,C⟩:=HU h.fx.BI new H
   obtain ⟨q1,q2,L1,q3,J⟩:=Dp (P:=P) H U hs
   obtain ⟨p1,p2,L2,p3,p4⟩:=Dp (P:=P) H.drew U hs
   have z:(Gh h.fx.BI h new).2.length=n*i.size:=by
    have Z:=(C _ J).length
    have e2:=J.length
    omega
   have D:=Gf (P:=P) R q g k H1 (A.mono g1.le) O N hd M hb Q (n:=n) (new:=(Gh h.fx.BI h new).2) (fun w' hw=>by
    rcases hw with rfl|rfl
    ·exact ⟨q1,z,L1,q3,C _ J⟩
    ·exact ⟨p1,z,L2,p3,C _ p4⟩) j
   obtain ⟨nx,v,w',μ',d1,d2,d3,d4⟩:=D
   exact ⟨nx,v,w',μ',d1,d2,g1.trans d3,d4⟩
 ·exact Lm R q g k H A O N hd M hb Q hs j
end
end Go.AM
end
section
namespace Go.AM
section
variable {P:Program} {Γ:Ao} {ρ:Env} {μ:Aq} {tm:Tr Aa} {a:Act} {w:World} {h:Al}
theorem KY (H:AO ρ μ h w) (v:Be ρ μ tm a) {pl:List C3} {o:Oper} {q:MOp} (hc:D9 P pl o=some (.m q)) {r:GZ} (C:Ks tm h q=some r):EG P ρ μ h a o w r:=by
 cases hop:o.op<;>simp only [D9,hop,reduceCtorEq,oI]at hc
 case store t x y=>
  obtain ⟨n,A,e⟩:=mS hc
  simp only [DQ.m.injEq]at e
  subst e
  obtain ⟨h',hs,e⟩:=Ab C
  simp only [oI]at e
  subst e
  exact UG hop H v A hs
 case insert t m k x=>
  split at hc
  ·rename_i kt e D
   obtain ⟨kk,hk,e⟩:=mS hc
   simp only [DQ.m.injEq]at e
   subst e
   obtain ⟨h',hs,e⟩:=Ab C
   simp only [oI]at e
   subst e
   exact Nq (.inr hop) H v D hk hs
  ·cases hc
 case mapUpdate t m k x=>
  split at hc
  ·rename_i kt e D
   obtain ⟨kk,hk,e⟩:=mS hc
   simp only [DQ.m.injEq]at e
   subst e
   obtain ⟨h',hs,e⟩:=Ab C
   simp only [oI]at e
   subst e
   exact Nq (.inl hop) H v D hk hs
  ·cases hc
 case panic x=>
  simp only [DQ.m.injEq]at hc
  subst hc
  exact UH hop v C
 case call c=>
  unfold Fm at hc
  split at hc
  ·rename_i f hf
   split at hc
   ·rename_i fn Z
    split at hc
    ·simp only [oI,DQ.m.injEq]at hc
     subst hc
     simp only [Ks]at C
     obtain ⟨p,g,e⟩:=Ab C
     simp only [oI]at e
     subst e
     exact Po hop hf v g
    ·rename_i hb
     split at hc
     ·rename_i A
      split at hc
      ·rename_i x N
       have J:c.args=#[x]:=by rw [←Array.toList_inj];simpa using N
       simp only [oI,DQ.m.injEq]at hc
       subst hc
       rw [aT,beq_iff_eq,beq_iff_eq]at A
       exact UK hop hf J Z (by simpa using hb) A.1 A.2 H v C
      ·cases hc
     ·split at hc
      ·rename_i A
       split at hc
       ·rename_i x N
        have J:c.args=#[x]:=by rw [←Array.toList_inj];simpa using N
        simp only [oI,DQ.m.injEq]at hc
        subst hc
        rw [aT,beq_iff_eq,beq_iff_eq]at A
        exact UI hop hf J Z (by simpa using hb) A.1 A.2 H v C
       ·cases hc
      ·cases hc
   ·cases hc
  ·rename_i f _ hf
   simp only [oI,DQ.m.injEq]at hc
   subst hc
   obtain ⟨p,g,e⟩:=Ab C
   simp only [oI]at e
   subst e
   exact Po hop hf v g
  ·cases hc
  ·rename_i b hb
   split at hc
   ·split at hc<;>simp at hc
   ·rename_i x y t u N U
    have J:c.args=#[x,y]:=by rw [←Array.toList_inj];simpa using N
    have O:c.argTypes=#[t,u]:=by rw [←Array.toList_inj];simpa using U
    have app:∀{e:TypeId} {bytes:Bool} {d:TypeDesc},P.underlying t=some (.slice e)→P.underlying u=some d→EH d→EU P e bytes x y=some (.m q)→EG P ρ μ h a o w r:=fun {e bytes d} M D hd hc=>by
     unfold EU at hc
     split at hc
     ·rename_i i R
      split at hc
      ·rename_i j
       rw [aT,decide_eq_true_eq]at j
       simp only [oI,DQ.m.injEq]at hc
       subst hc
       obtain ⟨p,g,e⟩:=Ab C
       simp only [oI]at e
       subst e
       unfold SZ at g
       split at g
       ·rename_i e' h8 hh
        obtain ⟨s,hs,g⟩:=Ab g
        exact Ra hop hb J O H v M D hd R j.1 h8 hs g
       ·unfold Xi at g
        split at g
        ·rename_i l hl
         exact QY hop hb J O H v M D hd R j.1 j.2 hl g
        ·obtain ⟨s,hs,g⟩:=Ab g
         exact QZ hop hb J O H v M D hd R j.1 j.2 hs g
      ·cases hc
     ·cases hc
    split at hc
    ·rename_i M D
     exact app M D (.inl ⟨_,rfl⟩) hc
    ·rename_i M D
     exact app M D (.inr rfl) hc
    ·cases hc
   ·rename_i x y t u N U
    have J:c.args=#[x,y]:=by rw [←Array.toList_inj];simpa using N
    have O:c.argTypes=#[t,u]:=by rw [←Array.toList_inj];simpa using U
    split at hc
    ·rename_i M D
     obtain ⟨n,A,e⟩:=mS hc
     simp only [DQ.m.injEq]at e
     subst e
     obtain ⟨s,hs,Q⟩:=Ab C
     obtain ⟨p,g,e⟩:=Ab Q
     simp only [oI]at e
     subst e
     exact Pn hop hb J O H v M A hs g
    ·rename_i M D
     obtain ⟨n,A,e⟩:=mS hc
     simp only [DQ.m.injEq]at e
     subst e
     obtain ⟨s,hs,Q⟩:=Ab C
     obtain ⟨p,g,e⟩:=Ab Q
     simp only [oI]at e
     subst e
     exact Pn hop hb J O H v M A hs g
    ·cases hc
   ·simp at hc
   ·simp at hc
   ·simp only [oI,DQ.m.injEq]at hc
    subst hc
    cases C
   ·simp at hc
   ·rename_i p n pt it N U
    have J:c.args=#[p,n]:=by rw [←Array.toList_inj];simpa using N
    have O:c.argTypes=#[pt,it]:=by rw [←Array.toList_inj];simpa using U
    split at hc
    ·rename_i e g
     split at hc
     ·rename_i ad
      simp only [oI,DQ.m.injEq]at hc
      subst hc
      exact Ya hop hb J O H v g (An.1 ad) C
     ·cases hc
    ·cases hc
   ·cases hc
 case convert s d x=>
  rcases CV hc with ⟨k0,k,hs,hd,e⟩|⟨hs,hd,e⟩|⟨t,n,hs,hd,A,e⟩|⟨u,n,hs,hd,A,e⟩|⟨el,hs,he,hd,e⟩<;>cases e
 case typeAssert x xt t ok=>
  obtain ⟨d,i,z,D,hd,R,hz,e⟩:=Cv hc
  cases e
 case defer c=>
  obtain ⟨ab,args,ag⟩:=c
  cases ab<;>simp at hc
  subst hc
  obtain ⟨p,g,e⟩:=Ab C
  simp only [oI]at e
  subst e
  exact UJ hop rfl v g
 case makeFunc fn x c=>cases fn<;>simp at hc
 case binOp op t x y yt=>obtain ⟨_,_,e⟩:=mS hc;cases e
 case slice t x lo R mx=>
  exfalso
  split at hc
  ·simp at hc
  ·obtain ⟨_,_,e⟩:=mS hc;cases e
  ·split at hc
   ·obtain ⟨_,_,e⟩:=mS hc;cases e
   ·cases hc
  ·cases hc
 case build t parts=>
  exfalso
  split at hc
  ·split at hc
   ·obtain ⟨_,_,e⟩:=mS hc;cases e
   ·cases hc
  ·obtain ⟨_,_,hc⟩:=Option.bind_eq_some_iff.1 hc
   obtain ⟨_,_,e⟩:=mS hc;cases e
  ·cases hc
 case fieldAddr t x f=>
  exfalso
  split at hc
  ·obtain ⟨_,_,hc⟩:=Option.bind_eq_some_iff.1 hc
   split at hc<;>simp at hc
  ·cases hc
 case field t x f=>
  exfalso
  split at hc
  ·obtain ⟨_,_,hc⟩:=Option.bind_eq_some_iff.1 hc
   obtain ⟨_,_,e⟩:=mS hc;cases e
  ·cases hc
 all_goals
  exfalso
  first
   |(cases hc;done)
   |(split at hc<;>first|(cases hc;done) |(simp at hc;done) |(obtain ⟨_,_,e⟩:=mS hc;cases e;done) |(split at hc<;>first|(cases hc;done) |(simp at hc;done) |(obtain ⟨_,_,e⟩:=mS hc;cases e;done) |(split at hc<;>first|(cases hc;done) |(simp at hc;done) |(obtain ⟨_,_,e⟩:=mS hc;cases e;done))))
   |(obtain ⟨_,_,e⟩:=mS hc;cases e;done)
end
end Go.AM
end
