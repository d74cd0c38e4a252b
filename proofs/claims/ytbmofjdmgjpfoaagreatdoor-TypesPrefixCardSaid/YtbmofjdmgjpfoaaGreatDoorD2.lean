/- Part 2 of the proof of TypesPrefix. -/
import Derived.Test.YtbmofjdmgjpfoaaGreatDoorD1
import Derived.Laws.Rows
import Derived.Laws.Cells
import Derived.Laws.CopyRow
import Derived.Laws.Append
import Derived.KernelRfl
import Derived.Lib.UnsafeStr
set_option linter.all false
section
namespace Go.AM
section
variable {P:Program} {Γ:Ao} {ρ:Env} {μ:Aq} {tm:Tr Aa} {a:Act} {w:World}
section
variable {t e kt:TypeId} (d:Nat)
theorem JV (c:P.underlying t=some (.pointer e)) (q:Option Addr):(Op.equalIn (d+1) t (.pointer none) (.pointer q)).run P w=.ok q.isNone w:=by
 simp only [Op.equalIn,Sem.run_bind,run_underlying c,Result.andThen_ok,Sem.run_pure]
theorem Ow (c:P.underlying t=some (.pointer e)) (q:Addr):(Op.equalIn (d+1) t (.pointer (some q)) (.pointer none)).run P w=.ok false w:=by
 simp only [Op.equalIn,Sem.run_bind,run_underlying c,Result.andThen_ok,Sem.run_pure]
theorem Ox (c:P.underlying t=some (.pointer e)) {n:Nat} (g:Bj P e=some n) (q:Addr):(Op.equalIn (d+1) t (.pointer (some q)) (.pointer (some q))).run P w=.ok true w:=by
 have hs:=B4 (w:=w) g
 by_cases h:n=0<;>simp [Op.equalIn,run_underlying c,hs,sameAddr,h]
theorem Fp (c:P.underlying t=some (.slice e)) (q:Option Addr) (n m:Nat):(Op.equalIn (d+1) t (.slice none 0 0) (.slice q n m)).run P w=.ok q.isNone w:=by
 simp only [Op.equalIn,Sem.run_bind,run_underlying c,Result.andThen_ok,Sem.run_pure]
theorem GY (c:P.underlying t=some (.slice e)) (q:Addr) (n m:Nat):(Op.equalIn (d+1) t (.slice (some q) n m) (.slice none 0 0)).run P w=.ok false w:=by
 simp only [Op.equalIn,Sem.run_bind,run_underlying c,Result.andThen_ok,Sem.run_pure]
theorem JW (c:P.underlying t=some (.map kt e)) (q:Option Nat):(Op.equalIn (d+1) t (.map none) (.map q)).run P w=.ok q.isNone w:=by
 simp only [Op.equalIn,Sem.run_bind,run_underlying c,Result.andThen_ok,Sem.run_pure]
theorem Oy (c:P.underlying t=some (.map kt e)) (q:Nat):(Op.equalIn (d+1) t (.map (some q)) (.map none)).run P w=.ok false w:=by
 simp only [Op.equalIn,Sem.run_bind,run_underlying c,Result.andThen_ok,Sem.run_pure]
variable {ps rs:Array TypeId} {va:Bool}
theorem O1 (c:P.underlying t=some (.func ps rs va)):(Op.equalIn (d+1) t .nilFunc .nilFunc).run P w=.ok true w:=by
 simp only [Op.equalIn,Sem.run_bind,run_underlying c,Result.andThen_ok,Sem.run_pure]
theorem Tb (c:P.underlying t=some (.func ps rs va)) (f:Fn) (x y:Array Value):(Op.equalIn (d+1) t (.func f x y) .nilFunc).run P w=.ok false w:=by
 simp only [Op.equalIn,Sem.run_bind,run_underlying c,Result.andThen_ok,Sem.run_pure]
theorem Ta (c:P.underlying t=some (.func ps rs va)) (f:Fn) (x y:Array Value):(Op.equalIn (d+1) t .nilFunc (.func f x y)).run P w=.ok false w:=by
 simp only [Op.equalIn,Sem.run_bind,run_underlying c,Result.andThen_ok,Sem.run_pure]
variable {ms:Array (String×TypeId)}
theorem Nu (c:P.underlying t=some (.interface ms)):(Op.equalIn (d+1) t .nilIface .nilIface).run P w=.ok true w:=by
 simp only [Op.equalIn,Sem.run_bind,run_underlying c,Result.andThen_ok,Sem.run_pure]
theorem Rk (c:P.underlying t=some (.interface ms)) (u:TypeId) (v:Value):(Op.equalIn (d+1) t (.iface u v) .nilIface).run P w=.ok false w:=by
 simp only [Op.equalIn,Sem.run_bind,run_underlying c,Result.andThen_ok,Sem.run_pure]
theorem Rj (c:P.underlying t=some (.interface ms)) (u:TypeId) (v:Value):(Op.equalIn (d+1) t .nilIface (.iface u v)).run P w=.ok false w:=by
 simp only [Op.equalIn,Sem.run_bind,run_underlying c,Result.andThen_ok,Sem.run_pure]
theorem Oz (g:P.underlying t=some (.interface ms)) {u c:TypeId} (h:u≠c) (v j:Value):(Op.equalIn (d+1) t (.iface u v) (.iface c j)).run P w=.ok false w:=by
 simp only [Op.equalIn,Sem.run_bind,run_underlying g,Result.andThen_ok]
 rw [if_pos h]
 rfl
theorem O0 (g:P.underlying t=some (.interface ms)) {u:TypeId} {i:TypeInfo} (j:P.info? u=some i) (hc:i.comparable=true) (v c:Value):(Op.equalIn (d+1) t (.iface u v) (.iface u c)).run P w=(Op.equalIn d u v c).run P w:=by
 simp only [Op.equalIn,Sem.run_bind,run_underlying g,Result.andThen_ok,ne_eq,not_true_eq_false,if_false,typeInfo,run_program,j,Sem.run_pure,hc,Bool.not_true,Bool.false_eq_true]
theorem Oo (c:P.underlying t=some (.interface ms)):(Op.eqGuardIn (d+1) t .nilIface .nilIface).run P w=.ok (!ms.isEmpty) w:=by
 simp only [Op.eqGuardIn,Sem.run_bind,run_underlying c,Result.andThen_ok,Sem.run_pure]
end
theorem Qr (c:Bool) (t:TypeId) (u v:Value) (b:Bool) (hc:∀s,u≠.string s) (d:∀k n,u≠.int k n) (hf:∀k n,u≠.float k n) (hx:∀k n m,u≠.complex k n m)
  (h:(Op.equalIn 10000 t u v).run P w=.ok b w):(binOp (if c then .neq else .eql) t u v).run P w=.ok (.bool (if c then !b else b)) w:=by
 cases c
 ·simp only [Bool.false_eq_true,if_false]
  unfold binOp
  cases u<;>first|(exact absurd rfl (hc _)) |(exact absurd rfl (d _ _)) |(exact absurd rfl (hf _ _)) |(exact absurd rfl (hx _ _ _)) |(simp [Op.equal,Op.maxDepth,h])
 ·simp only [if_true]
  unfold binOp
  cases u<;>first|(exact absurd rfl (hc _)) |(exact absurd rfl (d _ _)) |(exact absurd rfl (hf _ _)) |(exact absurd rfl (hx _ _ _)) |(simp [Op.equal,Op.maxDepth,h])
theorem Bs {o:Oper} {c:Bool} {t d:TypeId} {x y:Operand} (g:o.op=.binOp (if c then .neq else .eql) t x y d) {b:Bool} {v:Aa} (hv:v=.bool (.lit (bif c then !b else b)))
  (hg:(eqGuard (if c then .neq else .eql) t x y (a.eval x) (a.eval y)).run P w=.ok () w)
  (hc:∀s,a.eval x≠.string s) (j:∀k n,a.eval x≠.int k n) (hf:∀k n,a.eval x≠.float k n) (hx:∀k n m,a.eval x≠.complex k n m)
  (h:(Op.equalIn 10000 t (a.eval x) (a.eval y)).run P w=.ok b w):Bx P ρ μ a o w v:=by
 refine ⟨.bool (if c then !b else b),?_,?_⟩
 ·simp only [execOp,g,Sem.run_bind,hg,Result.andThen_ok,Qr c t _ _ b hc j hf hx h]
  simp
 ·subst hv
  simp only [Ag,SB.den]
  cases c<;>rfl
theorem K3 {t:Nat}:∀{l:List C3} {r:C3},Aav t l=some r→r∈l∧r.t=t
 |[],r,h=>by have h:none=some r:=h;cases h
 |x::l,r,h=>by
  have h:(bif Nat.beq x.t t then some x else Aav t l)=some r:=h
  cases e:Nat.beq x.t t with
  |true=>
   rw [e]at h
   simp only [cond_true,oI]at h
   subst h
   exact ⟨List.mem_cons_self,An.1 e⟩
  |false=>
   rw [e]at h
   exact ⟨List.mem_cons_of_mem _ (K3 h).1,(K3 h).2⟩
theorem I9:∀{x y:List (Nat×LK)},Ep x y=true→x=y
 |[],[],_=>rfl
 |[],_::_,h=>by simp [Ep]at h
 |_::_,[],h=>by simp [Ep]at h
 |(a,k)::x,(b,j)::y,h=>by
  simp only [Ep,aT]at h
  rw [An.1 h.1.1,I9 h.2]
  have:=An.1 h.1.2
  cases k<;>cases j<;>first|rfl|(simp [LK.no]at this)
theorem SH {pl:List C3} (h:QN P pl=true) {x:C3} (j:x∈pl):
  leaves P 6 x.t=some x.Sw∧(∃i,P.info? x.t=some i∧i.comparable=true)∧K9 P x.t=x.agg:=by
 unfold QN at h
 have:=List.all_eq_true.1 h _ j
 simp only [aT]at this
 obtain ⟨⟨d,c⟩,g⟩:=this
 refine ⟨?_,?_,?_⟩
 ·split at d
  ·rename_i k e
   rw [e,I9 d]
  ·cases d
 ·cases e:P.info? x.t with
  |none=>rw [e]at c;simp at c
  |some i=>rw [e]at c;exact ⟨i,rfl,by simpa using c⟩
 ·rw [beq_eq]at g;simpa using g
theorem SY (g:Γ.AL ρ) {t:TypeId} {l:List (Nat×LK)} (hl:leaves P 6 t=some l) {x y:Aa} {u v:Value} {cs ds:List Aa} (hx:Ag ρ μ x u) (o:Ag ρ μ y v) (c:x.cells=some cs) (d:y.cells=some ds)
  {b:Bool} (h:Dg Γ cs ds l=some b) (hb:AbG P u.cells v.cells 0 t u v) {k:Nat} (j:6≤k):
  (Op.equalIn k t u v).run P w=.ok b w:=
 Gz g (hx.cells c) (o.cells d) 6 t l hl k 0 u v b j hb (by
  have:C5 0 l=l:=by unfold C5;simp
  rw [this];exact h)
theorem HF {o:Oper} {j:Bool} {t J:TypeId} {x y:Operand} (N:o.op=.binOp (if j then .neq else .eql) t x y J) (H:Γ.AL ρ) (A:Bf ρ μ tm a) {l:List (Nat×LK)}
  (g:(∃fs,P.underlying t=some (.struct fs))∨∃k e,P.underlying t=some (.array k e)) (hl:leaves P 6 t=some l) (D:P.eqGuardType P.depth t=false) {v:Aa}
  (h:Jf Γ j (.plain l) (ev tm (AJ x)) (ev tm (AJ y))=some v):Bx P ρ μ a o w v:=by
 unfold Jf at h
 obtain ⟨b,hb,h⟩:=Ac h
 simp only [oI]at h
 have hb:Ri Γ l (ev tm (AJ x)) (ev tm (AJ y))=some b:=hb
 have hx:=As A x
 have q:=As A y
 unfold Ri at hb
 split at hb
 ·rename_i xs Z O M
  rw [O]at hx
  rw [M]at q
  have C:=hx
  have u:=q
  obtain ⟨X,c,Q⟩:=hx.agg
  obtain ⟨Y,z,U⟩:=q.agg
  have d:AbG P (a.eval x).cells (a.eval y).cells 0 t (a.eval x) (a.eval y):=by
   rw [c,z]
   refine ⟨fun n R=>⟨X,Y,rfl,rfl,Yw.whole _ _,Yw.whole _ _⟩,fun h=>?_⟩
   exfalso
   unfold Ed at h
   rcases g with ⟨fs,g⟩|⟨k,e,g⟩<;>rw [g]at h<;>cases ei:P.info? t<;>rw [ei]at h<;>simp at h
  refine Bs N h.symm ?_ (by simp [c]) (by simp [c]) (by simp [c]) (by simp [c]) (SY H hl C u rfl rfl hb d (by omega))
  rw [c,z]
  exact run_eqGuard_agg w _ t x y X Y D
 ·cases hb
theorem Nb {o:Oper} {j J:Bool} {t yt:TypeId} {x y:Operand} (X:o.op=.binOp (if j then .neq else .eql) t x y yt) (hΓ:Γ.AL ρ) (hT:Bf ρ μ tm a) {pl:List C3}
  {ms:Array (String×TypeId)} (N:P.underlying t=some (.interface ms)) (am:QN P pl=true) (hn:J=(ms.isEmpty||Ev x||Ev y)) {v:Aa}
  (h:Jf Γ j (.iface J pl) (ev tm (AJ x)) (ev tm (AJ y))=some v):Bx P ρ μ a o w v:=by
 unfold Jf at h
 obtain ⟨b,hb,h⟩:=Ac h
 simp only [oI]at h
 have hb:Rl Γ J pl (ev tm (AJ x)) (ev tm (AJ y))=some b:=hb
 have hx:=As hT x
 have C:=As hT y
 unfold Rl at hb
 split at hb
 ·rename_i d p d' q H D
  rw [H]at hx
  rw [D]at C
  obtain ⟨u,g,hX⟩:=hx.iface
  obtain ⟨u',A,hY⟩:=C.iface
  refine Bs X h.symm ?_ (by simp [g]) (by simp [g]) (by simp [g]) (by simp [g]) ?_
  ·rw [g,A];cases j<;>simp [eqGuard]
  ·rw [g,A]
   unfold AaS at hb
   cases ed:Nat.beq d d' with
   |false=>
    rw [ed]at hb
    simp only [cond_false,oI]at hb
    have ak:d≠d':=fun e=>by rw [An.2 e]at ed;cases ed
    rw [←hb]
    exact Oz 9999 N ak _ _
   |true=>
    rw [ed]at hb
    simp only [cond_true]at hb
    obtain ⟨hd,hl,hb⟩:=Ac hb
    unfold Xe at hb
    obtain ⟨k,hb⟩:=Ap hb
    obtain ⟨cs,ac,hb⟩:=Ac hb
    obtain ⟨ds,Z,hb⟩:=Ac hb
    have:=An.1 ed
    subst this
    obtain ⟨ah,aq⟩:=K3 hl
    obtain ⟨aa,⟨i,hi,ag⟩,Q⟩:=SH am ah
    rw [aq]at aa hi Q
    rw [aT,beq_eq,beq_eq,beq_iff_eq,beq_iff_eq]at k
    refine (O0 9999 N hi ag _ _).trans ?_
    have R:AbG P u.cells u'.cells 0 d u u':=by
     refine ⟨fun n hn=>?_,fun h1=>?_⟩
     ·have ha:K9 P d=true:=by unfold K9;rw [hn]
      rw [←Q,ha]at k
      cases p<;>simp [K8]at k
      cases q<;>simp [K8]at k
      obtain ⟨U,rfl,_⟩:=hX.agg
      obtain ⟨V,rfl,_⟩:=hY.agg
      exact ⟨U,V,rfl,rfl,Yw.whole _ _,Yw.whole _ _⟩
     ·have ha:K9 P d=false:=by unfold K9;rw [h1]
      rw [←Q,ha]at k
      have O:∀{z:Aa} {v:Value} {zs:List Aa},z.cells=some zs→K8 z=false→Ag ρ μ z v→v.cells[0]?=some v:=fun {z v zs} hz hza hv=>by
       have h1:=hv.Q1 (by cases z<;>first|rfl|(simp [Aa.cells]at hz;done) |(simp [K8]at hza;done))
       cases v<;>first|rfl|(simp [Value.oneCell']at h1)
      exact ⟨O ac k.1 hX,O Z k.2 hY⟩
    exact SY hΓ aa hX hY ac Z hb R (by omega)
 ·rename_i H D
  rw [H]at hx
  rw [D]at C
  have g:a.eval x=.nilIface:=by simpa only [Ag]using hx
  have A:a.eval y=.nilIface:=by simpa only [Ag]using C
  obtain ⟨M,hb⟩:=Ap hb
  simp only [oI]at hb
  subst hb
  refine Bs X h.symm ?_ (by simp [g]) (by simp [g]) (by simp [g]) (by simp [g]) ?_
  ·rw [g,A]
   subst hn
   have ab:(Op.eqGuardIn Op.maxDepth t .nilIface .nilIface).run P w=.ok (!ms.isEmpty) w:=Oo 9999 N
   simp only [Bool.or_eq_true]at M
   rcases M with (hms|hcx) |hcy
   ·rw [hms]at ab
    cases j<;>cases x<;>cases y<;>simp [eqGuard,ab]
   ·have:∃c,x=.const c:=by
     cases x<;>simp [Ev]at hcx
     exact ⟨_,rfl⟩
    obtain ⟨c,rfl⟩:=this
    cases j<;>simp [eqGuard]
   ·have:∃c,y=.const c:=by
     cases y<;>simp [Ev]at hcy
     exact ⟨_,rfl⟩
    obtain ⟨c,rfl⟩:=this
    cases j<;>cases x<;>simp [eqGuard]
  ·rw [g,A];exact Nu 9999 N
 ·rename_i d p H D
  rw [H]at hx
  rw [D]at C
  have g:a.eval x=.nilIface:=by simpa only [Ag]using hx
  obtain ⟨u,A,_⟩:=C.iface
  simp only [oI]at hb
  subst hb
  refine Bs X h.symm ?_ (by simp [g]) (by simp [g]) (by simp [g]) (by simp [g]) ?_
  ·rw [g,A];cases j<;>simp [eqGuard]
  ·rw [g,A];exact Rj 9999 N _ _
 ·rename_i d p H D
  rw [H]at hx
  rw [D]at C
  have A:a.eval y=.nilIface:=by simpa only [Ag]using C
  obtain ⟨u,g,_⟩:=hx.iface
  simp only [oI]at hb
  subst hb
  refine Bs X h.symm ?_ (by simp [g]) (by simp [g]) (by simp [g]) (by simp [g]) ?_
  ·rw [g,A];cases j<;>simp [eqGuard]
  ·rw [g,A];exact Rk 9999 N _ _
 ·cases hb
theorem QT {o:Oper} {g:Bool} {t J e:TypeId} {x y:Operand} (A:o.op=.binOp (if g then .neq else .eql) t x y J) (H:Bf ρ μ tm a) (C:P.underlying t=some (.pointer e)) {n:Nat} (M:Bj P e=some n) {v:Aa}
  (h:Jf Γ g .ptr (ev tm (AJ x)) (ev tm (AJ y))=some v):Bx P ρ μ a o w v:=by
 unfold Jf at h
 obtain ⟨b,hb,h⟩:=Ac h
 simp only [oI]at h
 have hb:AaQ (ev tm (AJ x)) (ev tm (AJ y))=some b:=hb
 have hx:=As H x
 have j:=As H y
 unfold AaQ at hb
 split at hb
 ·rename_i q k
  rw [q]at hx
  rw [k]at j
  have c:a.eval x=.pointer none:=by simpa only [Ag]using hx
  have d:a.eval y=.pointer none:=by simpa only [Ag]using j
  simp only [oI]at hb
  subst hb
  refine Bs A h.symm ?_ (by simp [c]) (by simp [c]) (by simp [c]) (by simp [c]) ?_
  ·rw [c,d];cases g<;>simp [eqGuard]
  ·rw [c,d];exact JV 9999 C none
 ·rename_i O D q k
  rw [q]at hx
  rw [k]at j
  have c:a.eval x=.pointer none:=by simpa only [Ag]using hx
  obtain ⟨r,δ,_,_,d⟩:=j.ptr
  simp only [oI]at hb
  subst hb
  refine Bs A h.symm ?_ (by simp [c]) (by simp [c]) (by simp [c]) (by simp [c]) ?_
  ·rw [c,d];cases g<;>simp [eqGuard]
  ·rw [c,d];exact JV 9999 C _
 ·rename_i O D q k
  rw [q]at hx
  rw [k]at j
  have d:a.eval y=.pointer none:=by simpa only [Ag]using j
  obtain ⟨r,δ,_,_,c⟩:=hx.ptr
  simp only [oI]at hb
  subst hb
  refine Bs A h.symm ?_ (by simp [c]) (by simp [c]) (by simp [c]) (by simp [c]) ?_
  ·rw [c,d];cases g<;>simp [eqGuard]
  ·rw [c,d];exact Ow 9999 C _
 ·rename_i U o1 b2 X q k
  rw [q]at hx
  rw [k]at j
  obtain ⟨hc,z⟩:=Ap hb
  rw [aT]at hc
  have R:=An.1 hc.1
  have Q:=An.1 hc.2
  subst R Q
  obtain ⟨r,δ,m,N,c⟩:=hx.ptr
  obtain ⟨r',Z,m',u,d⟩:=j.ptr
  rw [N]at u
  simp only [oI,Prod.mk.injEq]at u
  obtain ⟨rfl,rfl,rfl⟩:=u
  have z:true=b:=by simpa using z
  subst z
  refine Bs A h.symm ?_ (by simp [c]) (by simp [c]) (by simp [c]) (by simp [c]) ?_
  ·rw [c,d];cases g<;>simp [eqGuard]
  ·rw [c,d];exact Ox 9999 C M _
 ·cases hb
theorem Na {o:Oper} {j:Bool} {t J e:TypeId} {x y:Operand} (z:o.op=.binOp (if j then .neq else .eql) t x y J) (H:Bf ρ μ tm a) (C:P.underlying t=some (.slice e)) {v:Aa}
  (h:Jf Γ j .slice (ev tm (AJ x)) (ev tm (AJ y))=some v):Bx P ρ μ a o w v:=by
 unfold Jf at h
 obtain ⟨b,hb,h⟩:=Ac h
 simp only [oI]at h
 have hb:Rg (ev tm (AJ x)) (ev tm (AJ y))=some b:=hb
 have hx:=As H x
 have k:=As H y
 unfold Rg at hb
 split at hb
 ·rename_i u q
  rw [u]at hx
  rw [q]at k
  have d:a.eval x=.slice none 0 0:=by simpa only [Ag]using hx
  have g:a.eval y=.slice none 0 0:=by simpa only [Ag]using k
  simp only [oI]at hb
  subst hb
  refine Bs z h.symm ?_ (by simp [d]) (by simp [d]) (by simp [d]) (by simp [d]) ?_
  ·rw [d,g];cases j<;>simp [eqGuard]
  ·rw [d,g];exact Fp 9999 C none 0 0
 ·rename_i D A len cap u q
  rw [u]at hx
  rw [q]at k
  have g:a.eval y=.slice none 0 0:=by simpa only [Ag]using k
  obtain ⟨r,δ,m,_,d,_⟩:=hx.slice
  simp only [oI]at hb
  subst hb
  refine Bs z h.symm ?_ (by simp [d]) (by simp [d]) (by simp [d]) (by simp [d]) ?_
  ·rw [d,g];cases j<;>simp [eqGuard]
  ·rw [d,g];exact GY 9999 C _ _ _
 ·rename_i D A len cap u q
  rw [u]at hx
  rw [q]at k
  have d:a.eval x=.slice none 0 0:=by simpa only [Ag]using hx
  obtain ⟨r,δ,m,_,g,_⟩:=k.slice
  simp only [oI]at hb
  subst hb
  refine Bs z h.symm ?_ (by simp [d]) (by simp [d]) (by simp [d]) (by simp [d]) ?_
  ·rw [d,g];cases j<;>simp [eqGuard]
  ·rw [d,g];exact Fp 9999 C _ _ _
 ·rename_i D A len cap u q
  rw [u]at hx
  rw [q]at k
  have g:a.eval y=.slice none 0 0:=by simpa only [Ag]using k
  obtain ⟨r,δ,m,c,_,d,_⟩:=hx.gslice
  simp only [oI]at hb
  subst hb
  refine Bs z h.symm ?_ (by simp [d]) (by simp [d]) (by simp [d]) (by simp [d]) ?_
  ·rw [d,g];cases j<;>simp [eqGuard]
  ·rw [d,g];exact GY 9999 C _ _ _
 ·rename_i D A len cap u q
  rw [u]at hx
  rw [q]at k
  have d:a.eval x=.slice none 0 0:=by simpa only [Ag]using hx
  obtain ⟨r,δ,m,c,_,g,_⟩:=k.gslice
  simp only [oI]at hb
  subst hb
  refine Bs z h.symm ?_ (by simp [d]) (by simp [d]) (by simp [d]) (by simp [d]) ?_
  ·rw [d,g];cases j<;>simp [eqGuard]
  ·rw [d,g];exact Fp 9999 C _ _ _
 ·cases hb
theorem QU {o:Oper} {d:Bool} {t D k e:TypeId} {x y:Operand} (z:o.op=.binOp (if d then .neq else .eql) t x y D) (C:Bf ρ μ tm a) (A:P.underlying t=some (.map k e)) {v:Aa}
  (h:Jf Γ d .map (ev tm (AJ x)) (ev tm (AJ y))=some v):Bx P ρ μ a o w v:=by
 unfold Jf at h
 obtain ⟨b,hb,h⟩:=Ac h
 simp only [oI]at h
 have hb:AaR (ev tm (AJ x)) (ev tm (AJ y))=some b:=hb
 have hx:=As C x
 have j:=As C y
 unfold AaR at hb
 split at hb
 ·rename_i u q
  rw [u]at hx
  rw [q]at j
  have c:a.eval x=.map none:=by simpa only [Ag]using hx
  have g:a.eval y=.map none:=by simpa only [Ag]using j
  simp only [oI]at hb
  subst hb
  refine Bs z h.symm ?_ (by simp [c]) (by simp [c]) (by simp [c]) (by simp [c]) ?_
  ·rw [c,g];cases d<;>simp [eqGuard]
  ·rw [c,g];exact JW 9999 A none
 ·rename_i H u q
  rw [u]at hx
  rw [q]at j
  have g:a.eval y=.map none:=by simpa only [Ag]using j
  obtain ⟨r,_,c⟩:=hx.Oh
  simp only [oI]at hb
  subst hb
  refine Bs z h.symm ?_ (by simp [c]) (by simp [c]) (by simp [c]) (by simp [c]) ?_
  ·rw [c,g];cases d<;>simp [eqGuard]
  ·rw [c,g];exact Oy 9999 A _
 ·rename_i H u q
  rw [u]at hx
  rw [q]at j
  have c:a.eval x=.map none:=by simpa only [Ag]using hx
  obtain ⟨r,_,g⟩:=j.Oh
  simp only [oI]at hb
  subst hb
  refine Bs z h.symm ?_ (by simp [c]) (by simp [c]) (by simp [c]) (by simp [c]) ?_
  ·rw [c,g];cases d<;>simp [eqGuard]
  ·rw [c,g];exact JW 9999 A _
 ·cases hb
theorem Ot {o:Oper} {d:Bool} {t D:TypeId} {ps rs:Array TypeId} {va:Bool} {x y:Operand} (z:o.op=.binOp (if d then .neq else .eql) t x y D) (C:Bf ρ μ tm a) (A:P.underlying t=some (.func ps rs va)) {v:Aa}
  (h:Jf Γ d .func (ev tm (AJ x)) (ev tm (AJ y))=some v):Bx P ρ μ a o w v:=by
 unfold Jf at h
 obtain ⟨b,hb,h⟩:=Ac h
 simp only [oI]at h
 have hb:US (ev tm (AJ x)) (ev tm (AJ y))=some b:=hb
 have hx:=As C x
 have j:=As C y
 unfold US at hb
 split at hb
 ·rename_i u k
  rw [u]at hx
  rw [k]at j
  have c:a.eval x=.nilFunc:=by simpa only [Ag]using hx
  have g:a.eval y=.nilFunc:=by simpa only [Ag]using j
  simp only [oI]at hb
  subst hb
  refine Bs z h.symm ?_ (by simp [c]) (by simp [c]) (by simp [c]) (by simp [c]) ?_
  ·rw [c,g];cases d<;>simp [eqGuard]
  ·rw [c,g];exact O1 9999 A
 ·rename_i f p q u k
  rw [u]at hx
  rw [k]at j
  have g:a.eval y=.nilFunc:=by simpa only [Ag]using j
  obtain ⟨_,_,c,_⟩:=hx.func
  simp only [oI]at hb
  subst hb
  refine Bs z h.symm ?_ (by simp [c]) (by simp [c]) (by simp [c]) (by simp [c]) ?_
  ·rw [c,g];cases d<;>simp [eqGuard]
  ·rw [c,g];exact Tb 9999 A _ _ _
 ·rename_i f p q u k
  rw [u]at hx
  rw [k]at j
  have c:a.eval x=.nilFunc:=by simpa only [Ag]using hx
  obtain ⟨_,_,g,_⟩:=j.func
  simp only [oI]at hb
  subst hb
  refine Bs z h.symm ?_ (by simp [c]) (by simp [c]) (by simp [c]) (by simp [c]) ?_
  ·rw [c,g];cases d<;>simp [eqGuard]
  ·rw [c,g];exact Ta 9999 A _ _ _
 ·cases hb
theorem Ou {o:Oper} {d:Bool} {t u:TypeId} {x y:Operand} (A:o.op=.binOp (if d then .neq else .eql) t x y u) (j:Bf ρ μ tm a) (D:P.underlying t=some .bool) {v:Aa}
  (h:Jf Γ d .bool (ev tm (AJ x)) (ev tm (AJ y))=some v):Bx P ρ μ a o w v:=by
 unfold Jf at h
 obtain ⟨b,hb,h⟩:=Ac h
 simp only [oI]at h
 have hb:UT (ev tm (AJ x)) (ev tm (AJ y))=some b:=hb
 have hx:=As j x
 have k:=As j y
 unfold UT at hb
 split at hb
 ·rename_i p q C z
  rw [C]at hx
  rw [z]at k
  have c:=hx.bool
  have g:=k.bool
  simp only [SB.den]at c g
  simp only [oI]at hb
  refine Bs A h.symm ?_ (by simp [c]) (by simp [c]) (by simp [c]) (by simp [c]) ?_
  ·rw [c,g];cases d<;>simp [eqGuard]
  ·rw [c,g,run_equalIn_bool' w 9999 t p q D,←hb,beq_eq]
 ·cases hb
end
end Go.AM
end
section
namespace Go.AM
section
variable {P:Program} {Γ:Ao} {ρ:Env} {μ:Aq} {tm:Tr Aa} {a:Act} {w:World}
theorem Gw (c:Bf ρ μ tm a) {d n:Nat} {x:Option Operand} (h:Ct tm d (x.map AJ)=some n):(x=none∧n=d)∨∃y k,x=some y∧a.eval y=.int k (n:Int):=by
 cases x with
 |none=>have h:some d=some n:=h;simp only [oI]at h;exact .inl ⟨rfl,h.symm⟩
 |some y=>
  have h:CL (ev tm (AJ y))=some n:=h
  obtain ⟨k,e⟩:=Cv h (As c y)
  exact .inr ⟨y,k,rfl,e⟩
theorem Cj {k:IntKind} {n y:Nat} {c:BoundsCode} (h:n≤y):(Instr.sliceBound (.int k (n:Int)) y c).run P w=.ok n w:=by
 rw [run_sliceBound w k _ y c (by omega) (by omega)];simp
theorem Gu (c:Bf ρ μ tm a) {sl:Bool} {len cap l h:Nat} {o j:Option Operand} (hl:Ct tm 0 (o.map AJ)=some l) (q:Ct tm len (j.map AJ)=some h) (g:l≤h) (d:h≤cap):
  (Instr.sliceBounds sl len cap (o.map a.eval) (j.map a.eval) none).run P w=.ok (l,h,cap) w:=by
 rcases Gw c hl with ⟨rfl,rfl⟩|⟨y,k,rfl,e⟩<;>rcases Gw c q with ⟨rfl,rfl⟩|⟨y',k',rfl,e'⟩
 ·simp [Instr.sliceBounds]
 ·simp [Instr.sliceBounds,e',Cj d]
 ·simp [Instr.sliceBounds,e,Cj g]
 ·simp [Instr.sliceBounds,e,e',Cj g,Cj d]
theorem M0 (c:Bf ρ μ tm a) {sl:Bool} {len cap l h m:Nat} {v:Option Operand} {d g:Operand} (hl:Ct tm 0 (v.map AJ)=some l) (x:CL (ev tm (AJ d))=some h) (A:CL (ev tm (AJ g))=some m)
  (z:l≤h) (q:h≤m) (j:m≤cap):
  (Instr.sliceBounds sl len cap (v.map a.eval) (some (a.eval d)) (some (a.eval g))).run P w=.ok (l,h,m) w:=by
 obtain ⟨C,u⟩:=Cv x (As c d)
 obtain ⟨D,o⟩:=Cv A (As c g)
 rcases Gw c hl with ⟨rfl,rfl⟩|⟨y,k,rfl,e⟩
 ·simp [Instr.sliceBounds,u,o,Cj q,Cj j]
 ·simp [Instr.sliceBounds,e,u,o,Cj z,Cj q,Cj j]
theorem U8 {o:Oper} {t:TypeId} {x:Operand} {y k:Option Operand} (C:o.op=.slice t x y k none) (g:Bf ρ μ tm a) (u:P.underlying t=some .string) {v:Aa}
  (h:YQ (ev tm (AJ x)) (Ct tm 0 (y.map AJ)) (fun d=>Ct tm d (k.map AJ))=some v):Bx P ρ μ a o w v:=by
 have hx:=As g x
 unfold YQ at h
 split at h
 ·rename_i s D
  rw [D]at hx
  obtain ⟨l,hl,h⟩:=Ac h
  obtain ⟨c,j,h⟩:=Ac h
  obtain ⟨b,z,rfl⟩:=hx.str
  unfold AdF at h
  obtain ⟨hc,h⟩:=Ap h
  rw [aT,AX,AX]at hc
  obtain ⟨r,A,h⟩:=Ac h
  simp only [oI]at h
  subst h
  simp only [Dm,BL]at j hc
  have hb:=Gu (P:=P) (w:=w) (sl:=false) g hl j hc.1 hc.2
  refine ⟨.string (b.extract l c),?_,?_⟩
  ·simp only [execOp,C,Option.map_none,Sem.run_bind,run_sliceAt_string w t _ _ _ _ u,z]
   simp [Instr.slice,run_underlying u,hb]
  ·simp only [Ag]
   refine ⟨_,rfl,?_⟩
   have:=Lj A
   rw [Ll]at this
   rw [this]
   unfold strOf
   have q:(b.extract l c).data.toList=(b.data.toList.drop l).take (c-l):=by
    obtain ⟨⟨L⟩⟩:=b
    have:=ByteArray.extract_mk L l c
    rw [show (⟨⟨L⟩⟩:ByteArray)=ByteArray.mk L.toArray from rfl,this]
   rw [q,List.map_take,List.map_drop]
 ·cases h
theorem Ij (r p l h m size:Nat):sliced (some ⟨r,p,none⟩) l h m size=.slice (some ⟨r,p+(if m=l then 0 else l*size),none⟩) (h-l) (m-l):=by
 unfold sliced
 by_cases e:m=l
 ·rw [if_pos e,if_pos e];rfl
 ·rw [if_neg e,if_neg e]
  simp [Addr.Bl]
theorem Oq {o:Oper} {t e:TypeId} {x:Operand} {Q U:Option Operand} {n:Nat} (N:o.op=.slice t x Q U none) (J:Bf ρ μ tm a) (X:P.underlying t=some (.slice e)) (Z:Bj P e=some n) {v:Aa}
  (h:Gc n (ev tm (AJ x)) (Ct tm 0 (Q.map AJ)) (fun d=>Ct tm d (U.map AJ)) none=some v):Bx P ρ μ a o w v:=by
 have hx:=As J x
 have u:P.elem t=e:=by simp [Program.elem,X]
 have g:P.underlying t=some (.slice (P.elem t)):=by rw [u];exact X
 have hs:=B4 (w:=w) Z
 unfold Gc at h
 split at h
 ·rename_i b j len c z _
  rw [z]at hx
  obtain ⟨l,hl,h⟩:=Ac h
  obtain ⟨q,A,h⟩:=Ac h
  obtain ⟨r,δ,m,D,C,R⟩:=hx.slice
  unfold Si at h
  obtain ⟨hc,h⟩:=Ap h
  rw [aT,AX,AX]at hc
  simp only [oI]at h
  subst h
  have hb:=Gu (P:=P) (w:=w) (sl:=true) J hl A hc.1 hc.2
  refine ⟨sliced (some ⟨r,δ+j,none⟩) l q c n,?_,?_⟩
  ·simp only [execOp,N,Option.map_none,Sem.run_bind,run_sliceAt_slice w t _ _ _ _ g,C,run_slice_any w t _ _ _ g,hb,Result.andThen_ok,u,hs]
   simp
  ·rw [Ij]
   simp only [Ag,AP]
   refine ⟨r,δ,m,D,?_,by omega⟩
   by_cases e:c=l<;>simp [e,Nat.add_assoc]
 ·rename_i b j len es z _
  rw [z]at hx
  obtain ⟨l,hl,h⟩:=Ac h
  obtain ⟨q,A,h⟩:=Ac h
  obtain ⟨r,δ,m,k,D,C,R,H⟩:=hx.gslice
  unfold Sg at h
  obtain ⟨hc,h⟩:=Ap h
  rw [aT,aT,AX,AX,An]at hc
  have O:=hc.2
  have hb:=Gu (P:=P) (w:=w) (sl:=true) (cap:=k) J hl A hc.1.1 (by omega)
  refine ⟨sliced (some ⟨r,δ+j,none⟩) l q k n,?_,?_⟩
  ·simp only [execOp,N,Option.map_none,Sem.run_bind,run_sliceAt_slice w t _ _ _ _ g,C,run_slice_any w t _ _ _ g,hb,Result.andThen_ok,u,hs]
   simp
  ·rw [AP]at h
   rw [Ij]
   by_cases e0:l=0
   ·rw [if_pos e0]at h
    simp only [oI]at h
    subst h
    simp only [Ag]
    refine ⟨r,δ,m,k,D,?_,by omega,H⟩
    subst e0
    have:δ+j+(if k=0 then 0 else 0*n)=δ+j:=by split<;>omega
    rw [this];simp
   ·rw [if_neg e0]at h
    obtain ⟨M,h⟩:=Ap h
    have M:=Is.1 M
    simp only [oI]at h
    subst h
    simp only [Ag]
    refine ⟨r,δ,m,k-l,D,?_,by omega,?_⟩
    ·rw [if_neg (by omega)];simp [Nat.add_assoc]
    ·subst O
     have:(k-l)*n+l*n=k*n:=by rw [←Nat.add_mul];congr 1;omega
     omega
 ·rename_i y
  simp at y
 ·rename_i y
  simp at y
 ·rename_i z _
  rw [z]at hx
  have C:a.eval x=.slice none 0 0:=by simpa only [Ag]using hx
  obtain ⟨l,hl,h⟩:=Ac h
  obtain ⟨q,A,h⟩:=Ac h
  obtain ⟨hc,h⟩:=Ap h
  rw [aT,An,An]at hc
  simp only [oI]at h
  subst h
  obtain ⟨rfl,rfl⟩:=hc
  have hb:=Gu (P:=P) (w:=w) (sl:=true) (cap:=0) J hl A (Nat.le_refl _) (Nat.le_refl _)
  refine ⟨sliced none 0 0 0 n,?_,by simp [sliced,Ag]⟩
  simp only [execOp,N,Option.map_none,Sem.run_bind,run_sliceAt_slice w t _ _ _ _ g,C,run_slice_any w t _ _ _ g,hb,Result.andThen_ok,u,hs]
  rfl
 ·cases h
theorem DJ {x:Option Operand} (h:LL tm (x.map AJ)=none):x=none:=by
 cases x with
 |none=>rfl
 |some x=>cases h
theorem XR {x:Option Operand} {v:Aa} (c:Bf ρ μ tm a) (h:LL tm (x.map AJ)=some v):∃y,x=some y∧ev tm (AJ y)=v∧Ag ρ μ v (a.eval y):=by
 cases x with
 |none=>cases h
 |some y=>
  have h:some (ev tm (AJ y))=some v:=h
  simp only [oI]at h
  exact ⟨y,rfl,h,h▸As c y⟩
theorem Sd {sl:Bool} {d c:Option Operand} {l h cap len:Nat} (hl:(d=none∧l=0)∨∃x k,d=some x∧a.eval x=.int k (l:Int)) (o:(c=none∧h=len)∨∃x k,c=some x∧a.eval x=.int k (h:Int)) (j:l≤h) (g:h≤cap):
  (Instr.sliceBounds sl len cap (d.map a.eval) (c.map a.eval) none).run P w=.ok (l,h,cap) w:=by
 rcases hl with ⟨rfl,rfl⟩|⟨y,k,rfl,e⟩<;>rcases o with ⟨rfl,rfl⟩|⟨y',k',rfl,e'⟩
 ·simp [Instr.sliceBounds]
 ·simp [Instr.sliceBounds,e',Cj g]
 ·simp [Instr.sliceBounds,e,Cj j]
 ·simp [Instr.sliceBounds,e,e',Cj j,Cj g]
theorem DH (p:Option Addr) (h c n:Nat):sliced p 0 h c n=.slice p h c:=by
 have e:p.map (·.add (0*n))=p:=by
  cases p with
  |none=>rfl
  |some p=>simp [Addr.add]
 unfold sliced
 rw [e]
 simp
theorem MY (hΓ:Γ.AL ρ) {o:Oper} {t e:TypeId} {x:Operand} {lo hi:Option Operand} {n:Nat} (ho:o.op=.slice t x lo hi none) (hT:Bf ρ μ tm a) (hu:P.underlying t=some (.slice e)) (hn:Bj P e=some n) {v:Aa}
  (h:M1 Γ n (ev tm (AJ x)) (LL tm (lo.map AJ)) (LL tm (hi.map AJ))=some v):Bx P ρ μ a o w v:=by
 have hx:=As hT x
 have al:P.elem t=e:=by simp [Program.elem,hu]
 have af:P.underlying t=some (.slice (P.elem t)):=by rw [al];exact hu
 have hs:=B4 (w:=w) hn
 have key:∀(p:Option Addr) (len cap l h':Nat),a.eval x=.slice p len cap→((lo=none∧l=0)∨∃x k,lo=some x∧a.eval x=.int k (l:Int))→((hi=none∧h'=len)∨∃x k,hi=some x∧a.eval x=.int k (h':Int))→l≤h'→h'≤cap→Ag ρ μ v (sliced p l h' cap n)→Bx P ρ μ a o w v:=fun p len cap l h' C hl hh J h2 hv=>by
  have hb:=Sd (P:=P) (w:=w) (sl:=true) hl hh J h2
  refine ⟨_,?_,hv⟩
  simp only [execOp,ho,Option.map_none,Sem.run_bind,run_sliceAt_slice w t _ _ _ _ af,C,run_slice_any w t _ _ _ af,hb,Result.andThen_ok,al,hs]
  simp
 have num:∀{y:Option Operand} {k:IntKind} {t:ST},LL tm (y.map AJ)=some (.int k t)→∃z,y=some z∧a.eval z=.int k (t.den ρ):=fun {y k t} e=>by
  obtain ⟨z,J,_,h3⟩:=XR hT e
  exact ⟨z,J,h3.int⟩
 unfold M1 at h
 split at h
 ·rename_i f i es len e1
  obtain ⟨D,h⟩:=Ap h
  have D:=An.1 D
  subst D
  rw [e1]at hx
  have X:=hx
  obtain ⟨p,cap,C,ac,aq,hp⟩:=hx.Et
  have take:∀(u:ST) (j:Nat),((hi=none∧u.den ρ=((ρ.lst i).length:Int))∨∃z k,hi=some z∧a.eval z=.int k (u.den ρ))→((lo=none)∨∃z k,lo=some z∧a.eval z=.int k 0)→JI [.take i u] Γ.defs=some j→v=.lst false j n u→Bx P ρ μ a o w v:=fun u j hh hl Z hv=>by
   subst hv
   obtain ⟨A,B,M,⟨q2,q3,q4⟩,q5⟩:=hΓ.defs _ (Fc Z)
   have q5:B=[]:=q5
   subst q5
   rw [List.append_nil]at M
   have M:ρ.lst j=A:=M
   subst M
   obtain ⟨m,H⟩:∃m:Nat,u.den ρ=(m:Int):=⟨(u.den ρ).toNat,by omega⟩
   have Q:(ρ.lst j).length=m:=by rw [q4,lT',H];simp;omega
   refine key p _ cap 0 m C ?_ ?_ (Nat.zero_le _) (by omega) ?_
   ·rcases hl with rfl|⟨z,k,rfl,e⟩
    ·exact .inl ⟨rfl,rfl⟩
    ·exact .inr ⟨z,k,rfl,e⟩
   ·rcases hh with ⟨rfl,e⟩|⟨z,k,rfl,e⟩
    ·exact .inl ⟨rfl,by omega⟩
    ·exact .inr ⟨z,k,rfl,by rw [e,H]⟩
   ·rw [DH]
    simp only [Ag,I0]
    refine ⟨⟨cap,by omega,?_⟩,by rw [Q,H],fun e=>by cases e⟩
    by_cases h0:m=0
    ·exact .inl ⟨List.eq_nil_of_length_eq_zero (by omega),p,by rw [h0]⟩
    ·obtain ⟨r,δ,c,ty,rfl,k1,U⟩:=hp (by omega)
     refine .inr ⟨r,δ,c,ty,by rw [Q],k1,?_⟩
     rw [q4]
     rw [BB]at U⊢
     refine ⟨fun ps R=>U.1 ps (List.mem_of_mem_take R),?_⟩
     have:=U.2
     rw [←List.take_append_drop (u.den ρ).toNat (ρ.lst i),List.flatten_append,AW.append_iff]at this
     exact this.1
  have ae:∀(ak:Option Aa),LL tm (lo.map AJ)=ak→JB Γ i n len ak (LL tm (hi.map AJ))=some v→Bx P ρ μ a o w v:=fun ak ai h=>by
   unfold JB at h
   split at h
   ·rename_i k u g
    obtain ⟨j,Z,h⟩:=Ac h
    simp only [oI]at h
    obtain ⟨z,N,d⟩:=num g
    exact take u j (.inr ⟨z,k,N,d⟩) (.inl (DJ ai)) Z h.symm
   ·rename_i k0 k u g
    obtain ⟨j,Z,h⟩:=Ac h
    simp only [oI]at h
    obtain ⟨z,N,d⟩:=num g
    obtain ⟨z0,aC,ao⟩:=num ai
    exact take u j (.inr ⟨z,k,N,d⟩) (.inr ⟨z0,k0,aC,ao⟩) Z h.symm
   ·rename_i _ k u g
    obtain ⟨j,Z,h⟩:=Ac h
    obtain ⟨u',af,h⟩:=Ac h
    simp only [oI]at h
    subst h
    obtain ⟨z,N,d⟩:=num ai
    obtain ⟨A,B,M,⟨q2,q3,q4⟩,q5⟩:=hΓ.defs _ (Fc Z)
    have q5:B=[]:=q5
    subst q5
    rw [List.append_nil]at M
    have M:ρ.lst j=A:=M
    subst M
    have av:u'.den ρ=((ρ.lst j).length:Int):=hΓ.Ad _ (CE af)
    obtain ⟨m,H⟩:∃m:Nat,u.den ρ=(m:Int):=⟨(u.den ρ).toNat,by omega⟩
    have aB:m≤(ρ.lst i).length:=by omega
    have Q:(ρ.lst j).length=(ρ.lst i).length-m:=by rw [q4,List.length_drop,H];rfl
    refine key p _ cap m (ρ.lst i).length C (.inr ⟨z,k,N,by rw [d,H]⟩) (.inl ⟨DJ g,rfl⟩) aB ac ?_
    simp only [Ag]
    refine ⟨?_,av,fun e=>by cases e⟩
    by_cases h0:m=0
    ·subst h0
     rw [DH]
     have e:ρ.lst j=ρ.lst i:=by rw [q4,H];rfl
     rw [e,←C]
     exact X.lst.1
    ·obtain ⟨r,δ,c,ty,rfl,k1,U⟩:=hp (by omega)
     rw [Ij]
     simp only [I0]
     refine ⟨cap-m,by omega,?_⟩
     by_cases J:(ρ.lst j).length=0
     ·exact .inl ⟨List.eq_nil_of_length_eq_zero J,_,by rw [←Q,J]⟩
     ·refine .inr ⟨r,δ+m*n,c,ty,?_,k1,?_⟩
      ·rw [if_neg (by omega),Q]
      ·rw [q4,H]
       rw [BB]at U⊢
       refine ⟨fun ps R=>U.1 ps (List.mem_of_mem_drop R),?_⟩
       have:=U.2
       rw [←List.take_append_drop m (ρ.lst i),List.flatten_append,AW.append_iff]at this
       have ay:((ρ.lst i).take m).flatten.length=m*n:=by
        rw [BN fun ps R=>U.1 ps (List.mem_of_mem_take R),lT'];congr 1;omega
       rw [ay]at this
       exact this.2
   ·cases h
  unfold Sh at h
  split at h
  ·rename_i g O
   simp only [oI]at h
   subst h
   exact key p _ cap 0 _ C (.inl ⟨DJ g,rfl⟩) (.inl ⟨DJ O,rfl⟩) (Nat.zero_le _) ac (by rw [DH,←C];exact X)
  ·rename_i k u g O
   cases hc:u.eq len with
   |true=>
    rw [hc]at h
    simp only [cond_true,oI]at h
    subst h
    obtain ⟨z,N,d⟩:=num O
    have hc:=ST.Bk hc
    subst hc
    refine key p _ cap 0 _ C (.inl ⟨DJ g,rfl⟩) (.inr ⟨z,k,N,by rw [d,aq]⟩) (Nat.zero_le _) ac (by rw [DH,←C];exact X)
   |false=>
    rw [hc]at h
    simp only [cond_false]at h
    exact ae none g (by rw [O];exact h)
  ·exact ae _ rfl h
 ·rename_i b es len e1
  obtain ⟨D,h⟩:=Ap h
  have D:=An.1 D
  subst D
  rw [e1]at hx
  have X:=hx
  obtain ⟨r,m,k,H,C,hk,aM,au⟩:=hx.vec
  unfold Sf at h
  split at h
  ·rename_i g O
   simp only [oI]at h
   subst h
   exact key _ _ _ 0 _ C (.inl ⟨DJ g,rfl⟩) (.inl ⟨DJ O,rfl⟩) (Nat.zero_le _) (by omega) (by rw [DH,←C];exact X)
  ·rename_i kk u g O
   obtain ⟨hc,h⟩:=Ap h
   simp only [oI]at h
   subst h
   rw [aT]at hc
   have J:=Ja hΓ hc.1
   have h2:=GA hΓ hc.2
   have J:0≤u.den ρ:=J
   obtain ⟨q,hq⟩:∃q:Nat,u.den ρ=(q:Int):=⟨(u.den ρ).toNat,by omega⟩
   obtain ⟨z,N,d⟩:=num O
   refine key _ _ _ 0 q C (.inl ⟨DJ g,rfl⟩) (.inr ⟨z,kk,N,by rw [d,hq]⟩) (Nat.zero_le _) (by omega) ?_
   rw [DH]
   simp only [Ag]
   exact ⟨r,m,q,H,rfl,hq,by omega,au⟩
  ·cases h
 ·cases h
theorem MZ {o:Oper} {t e:TypeId} {x M D:Operand} {J:Option Operand} {n:Nat} (X:o.op=.slice t x J (some M) (some D)) (O:Bf ρ μ tm a) (Q:P.underlying t=some (.slice e)) (U:Bj P e=some n) {v:Aa}
  (h:Gc n (ev tm (AJ x)) (Ct tm 0 (J.map AJ)) (fun d=>Ct tm d (some (AJ M))) (some (CL (ev tm (AJ D))))=some v):Bx P ρ μ a o w v:=by
 have hx:=As O x
 have A:P.elem t=e:=by simp [Program.elem,Q]
 have C:P.underlying t=some (.slice (P.elem t)):=by rw [A];exact Q
 have hs:=B4 (w:=w) U
 have key:∀(b c len r δ u z:Nat),(AF (Ct tm 0 (J.map AJ)) fun l=>AF (CL (ev tm (AJ M))) fun h=>AF (CL (ev tm (AJ D))) fun m=>JA n b c len l h m)=some v→
   μ b=some (r,δ,u)→a.eval x=.slice (some ⟨r,δ+c,none⟩) len z→len≤z→Bx P ρ μ a o w v:=fun b c len r δ u z h q y j=>by
  obtain ⟨l,hl,h⟩:=Ac h
  obtain ⟨N,Z,h⟩:=Ac h
  obtain ⟨m,R,h⟩:=Ac h
  unfold JA at h
  obtain ⟨hc,h⟩:=Ap h
  rw [aT,aT,AX,AX,AX]at hc
  simp only [oI]at h
  subst h
  have hb:=M0 (P:=P) (w:=w) (sl:=true) (len:=len) (cap:=z) O hl Z R hc.1.1 hc.1.2 (by omega)
  refine ⟨sliced (some ⟨r,δ+c,none⟩) l N m n,?_,?_⟩
  ·simp only [execOp,X,Option.map_some,Sem.run_bind,run_sliceAt_slice w t _ _ _ _ C,y,run_slice_any w t _ _ _ C,hb,Result.andThen_ok,A,hs]
   simp
  ·rw [Ij]
   simp only [Ag,AP]
   refine ⟨r,δ,u,q,?_,by omega⟩
   by_cases e:m=l<;>simp [e,Nat.add_assoc]
 unfold Gc at h
 split at h
 ·rename_i g;simp at g
 ·rename_i g;simp at g
 ·rename_i b c len cap m' H k
  rw [H]at hx
  simp only [oI]at k
  subst k
  obtain ⟨r,δ,u,q,y,j⟩:=hx.slice
  exact key _ _ _ _ _ _ _ h q y j
 ·rename_i b c len cap m' H k
  rw [H]at hx
  simp only [oI]at k
  subst k
  obtain ⟨r,δ,u,z,q,y,j,_⟩:=hx.gslice
  exact key _ _ _ _ _ _ _ h q y j
 ·rename_i g;simp at g
 ·cases h
theorem ML {α:Type} {o:Option α} {f:α→POp} {q:POp} (h:(o.map fun x=>DO.p (f x))=some (.p q)):∃x,o=some x∧q=f x:=by
 obtain ⟨x,hx,e⟩:=mS h
 simp only [DO.p.injEq]at e
 exact ⟨x,hx,e.symm⟩
theorem Th {t:TypeId} {d:TypeDesc} (h:P.underlying t=some d) (hd:∀ms,d≠.interface ms):P.concrete t=true:=by
 unfold Program.concrete
 rw [h]
 cases d<;>first|rfl|(exact absurd rfl (hd _))
theorem QV {o:Oper} {x:Operand} {X t:TypeId} {ok:Bool} (H:o.op=.typeAssert x X t ok) (Z:Bf ρ μ tm a) {d:TypeDesc} (J:P.underlying t=some d) (hd:∀ms,d≠.interface ms) {i:TypeInfo} (R:P.info? t=some i)
  {z:Option Aa} (D:if ok then∃c,i.zero=some c∧z=some (GP c)else z=none) {v:Aa} (h:Rx t z (ev tm (AJ x))=some v):Bx P ρ μ a o w v:=by
 have hx:=As Z x
 unfold Rx at h
 split at h
 ·rename_i u y q
  have Q:ok=false:=by
   cases ok
   ·rfl
   ·obtain ⟨_,_,e⟩:=D;cases e
  subst Q
  obtain ⟨hc,N⟩:=Ap h
  have hc:=An.1 hc
  subst hc
  have N:y=v:=by simpa using N
  subst N
  rw [q]at hx
  obtain ⟨M,g,O⟩:=hx.iface
  refine ⟨M,?_,O⟩
  cases d<;>first|exact absurd rfl (hd _) |simp [execOp,H,Instr.typeAssert,run_underlying J,g]
 ·rename_i u y U q
  have k:ok=true:=by
   cases ok
   ·cases D
   ·rfl
  subst k
  obtain ⟨c,C,j⟩:=D
  simp only [oI]at j
  subst j
  simp only [oI]at h
  rw [q]at hx
  obtain ⟨M,g,O⟩:=hx.iface
  rw [AP]at h
  by_cases hut:u=t
  ·rw [if_pos hut]at h
   subst h
   refine ⟨.tuple #[M,.bool true],?_,?_⟩
   ·cases d<;>first|exact absurd rfl (hd _) |simp [execOp,H,Instr.typeAssert,run_underlying J,g,hut]
   ·simp only [Ag]
    exact ⟨_,rfl,by simp only [A9];exact ⟨_,_,rfl,O,_,_,rfl,rfl,rfl⟩⟩
  ·rw [if_neg hut]at h
   subst h
   have A:(zeroValue t).run P w=.ok c w:=by simp [zeroValue,typeInfo,R,C]
   refine ⟨.tuple #[c,.bool false],?_,?_⟩
   ·cases d<;>first|exact absurd rfl (hd _) |simp [execOp,H,Instr.typeAssert,run_underlying J,g,hut,A]
   ·simp only [Ag]
    exact ⟨_,rfl,by simp only [A9];exact ⟨_,_,rfl,Dj c,_,_,rfl,rfl,rfl⟩⟩
 ·rename_i U q
  have k:ok=true:=by
   cases ok
   ·cases D
   ·rfl
  subst k
  obtain ⟨c,C,j⟩:=D
  simp only [oI]at j
  subst j
  simp only [oI]at h
  subst h
  rw [q]at hx
  have g:a.eval x=.nilIface:=by simpa only [Ag]using hx
  have A:(zeroValue t).run P w=.ok c w:=by simp [zeroValue,typeInfo,R,C]
  refine ⟨.tuple #[c,.bool false],?_,?_⟩
  ·cases d<;>first|exact absurd rfl (hd _) |simp [execOp,H,Instr.typeAssert,run_underlying J,g,A]
  ·simp only [Ag]
   exact ⟨_,rfl,by simp only [A9];exact ⟨_,_,rfl,Dj c,_,_,rfl,rfl,rfl⟩⟩
 ·cases h
theorem Cu {t:TypeId} {ok:Bool} {x:Operand} {q:DO} (h:Jj P t ok x=some q):
  ∃d i z,P.underlying t=some d∧(∀ms,d≠.interface ms)∧P.info? t=some i∧(if ok then∃g,i.zero=some g∧z=some (GP g)else z=none)∧q=.p (.assert t z (AJ x)):=by
 unfold Jj at h
 split at h
 ·cases h
 ·rename_i d i k o j
  have hd:∀ms,d≠.interface ms:=fun ms e=>k ms e
  split at h
  ·rename_i c
   obtain ⟨g,u,e⟩:=mS h
   subst c
   exact ⟨d,i,some (GP g),o,hd,j,by simp only [if_true];exact ⟨g,u,rfl⟩,e.symm⟩
  ·rename_i c
   simp only [oI]at h
   exact ⟨d,i,none,o,hd,j,by rw [if_neg c],h.symm⟩
 ·cases h
theorem CT {s d:TypeId} {x:Operand} {q:DO} (h:N6 P s d x=some q):
  (∃g k,P.underlying s=some (.int g)∧P.underlying d=some (.int k)∧q=.p (.conv k (AJ x)))∨(P.underlying s=some .string∧P.underlying d=some .string∧q=.p (.same (AJ x)))∨
  (∃t n,P.underlying s=some (.pointer t)∧P.underlying d=some .unsafePointer∧Bj P t=some (n+1)∧q=.r (.uptr (Hv P fun _ _=>true) (AJ x)))∨
  (∃u n,P.underlying s=some .unsafePointer∧P.underlying d=some (.pointer u)∧Bj P u=some n∧q=.r (.uptr (Hv P fun e n=>liesAt P P.depth e (n/P.cellsOf e) 0 u 1) (AJ x)))∨
  (∃e,P.underlying s=some (.slice e)∧P.underlying e=some (.int .u8)∧P.underlying d=some .string∧q=.r (.bstr (AJ x))):=by
 unfold N6 at h
 split at h
 ·rename_i g k hs hd
  simp only [oI]at h
  exact .inl ⟨g,k,hs,hd,h.symm⟩
 ·rename_i hs hd
  simp only [oI]at h
  exact .inr (.inl ⟨hs,hd,h.symm⟩)
 ·rename_i e hs hd
  split at h
  ·rename_i j
   simp only [oI]at h
   exact .inr (.inr (.inr (.inr ⟨e,hs,j,hd,h.symm⟩)))
  ·cases h
 ·rename_i t hs hd
  split at h
  ·rename_i n c
   simp only [oI]at h
   exact .inr (.inr (.inl ⟨t,n,hs,hd,c,h.symm⟩))
  ·cases h
 ·rename_i u hs hd
  obtain ⟨n,c,h⟩:=mS h
  exact .inr (.inr (.inr (.inl ⟨u,n,hs,hd,c,h.symm⟩)))
 ·cases h
theorem M9 (H:Γ.AL ρ) (u:Bf ρ μ tm a) {pl:List C3} {o:Oper} {q:POp} (hc:D6 P pl o=some (.p q)) {v:Aa} (h:IA Γ tm q=some v):Bx P ρ μ a o w v:=by
 cases hop:o.op<;>simp only [D6,hop,reduceCtorEq,oI,DO.p.injEq]at hc
 case move x=>subst hc;simp only [IA,oI]at h;subst h;exact SO (.inl hop) u
 case assign x=>subst hc;simp only [IA,oI]at h;subst h;exact SO (.inr hop) u
 case pick c x y=>subst hc;exact UA hop u h
 case alloc t=>obtain ⟨_,_,e⟩:=mS hc;cases e
 case build t parts=>
  split at hc
  ·rename_i fs z j Q
   split at hc
   ·rename_i X
    obtain ⟨ps,U,rfl⟩:=ML hc
    exact Jb hop u j Q X U h
   ·cases hc
  ·rename_i k e z j Q
   obtain ⟨n,C,hc⟩:=Option.bind_eq_some_iff.1 hc
   obtain ⟨ps,U,rfl⟩:=ML hc
   exact JN hop u j Q C U h
  ·cases hc
 case nilCheck x=>subst hc;exact UB hop u h
 case binOp op t x y yt=>
  obtain ⟨q',D,e⟩:=mS hc
  simp only [DO.p.injEq]at e
  subst e
  have eqs:∀M:Bool,op=(if M then .neq else .eql)→Ru P pl M t x y=some q'→Bx P ρ μ a o w v:=fun M R A=>by
   clear D hc
   subst R
   unfold Ru at A
   split at A
   ·rename_i j;simp only [oI]at A;subst A;exact Ou hop u j h
   ·rename_i j
    obtain ⟨n,C,A⟩:=Option.bind_eq_some_iff.1 A
    simp only [oI]at A;subst A;exact QT hop u j C h
   ·rename_i j;simp only [oI]at A;subst A;exact Na hop u j h
   ·rename_i j;simp only [oI]at A;subst A;exact QU hop u j h
   ·rename_i j;simp only [oI]at A;subst A;exact Ot hop u j h
   ·rename_i fs j
    split at A
    ·rename_i l hl
     split at A
     ·cases A
     ·rename_i N
      simp only [oI]at A;subst A
      exact HF hop H u (.inl ⟨_,j⟩) hl (by simpa using N) h
    ·cases A
   ·rename_i k e j
    split at A
    ·rename_i l hl
     split at A
     ·cases A
     ·rename_i N
      simp only [oI]at A;subst A
      exact HF hop H u (.inr ⟨_,_,j⟩) hl (by simpa using N) h
    ·cases A
   ·rename_i ms j
    split at A
    ·rename_i ac
     simp only [oI]at A;subst A
     exact Nb hop H u j ac rfl h
    ·cases A
   ·cases A
  unfold Xk at D
  split at D
  ·simp only [oI]at D;subst D;exact Pq hop H u h
  ·simp only [oI]at D;subst D;exact Pq hop H u h
  ·exact eqs false rfl D
  ·exact eqs true rfl D
  ·cases D
 case unOp op t x=>subst hc;exact Aa8 hop H u h
 case convert s d x=>
  rcases CT hc with ⟨k0,k,hs,hd,e⟩|⟨hs,hd,e⟩|⟨_,_,_,_,_,e⟩|⟨_,_,_,_,_,e⟩|⟨_,_,_,_,e⟩
  ·simp only [DO.p.injEq]at e;subst e
   exact UH hop H u hs hd h
  ·simp only [DO.p.injEq]at e;subst e
   exact U9 hop u hs hd h
  ·cases e
  ·cases e
  ·cases e
 case typeAssert x xt t ok=>
  obtain ⟨d,i,z,j,hd,J,Q,e⟩:=Cu hc
  simp only [DO.p.injEq]at e;subst e
  exact QV hop u j hd J Q h
 case makeInterface t x=>
  split at hc
  ·cases hc
  ·rename_i d ae hd
   simp only [oI,DO.p.injEq]at hc;subst hc
   simp only [IA,oI]at h;subst h
   exact SP hop u (Th hd fun ms e=>ae ms (by rw [e]))
  ·cases hc
 case makeFunc fn x c=>
  cases fn<;>simp only [reduceCtorEq,oI,DO.p.injEq]at hc
  subst hc
  simp only [IA,oI]at h;subst h
  exact UG hop u
 case slice t x lo J mx=>
  split at hc
  ·rename_i j
   simp only [oI,DO.p.injEq]at hc;subst hc
   exact U8 hop u j h
  ·rename_i e j
   obtain ⟨n,C,rfl⟩:=ML hc
   have h:Gb Γ tm n (ev tm (AJ x)) (lo.map AJ) (J.map AJ) none=some v:=h
   unfold Gb at h
   split at h
   ·exact MY H hop u j C h
   ·exact Oq hop u j C h
  ·rename_i e m j
   split at hc
   ·rename_i ab
    obtain ⟨n,C,rfl⟩:=ML hc
    obtain ⟨J,rfl⟩:=Option.isSome_iff_exists.1 ab
    have h:Gc n (ev tm (AJ x)) (Ct tm 0 (lo.map AJ)) (fun d=>Ct tm d (some (AJ J))) (some (CL (ev tm (AJ m))))=some v:=by
     have h:Gb Γ tm n (ev tm (AJ x)) (lo.map AJ) (some (AJ J)) (some (AJ m))=some v:=h
     unfold Gb at h
     split at h
     ·rename_i e;simp at e
     ·exact h
    exact MZ hop u j C h
   ·cases hc
  ·cases hc
 case fieldAddr t x f=>
  split at hc
  ·rename_i fs j
   obtain ⟨g,hg,hc⟩:=Option.bind_eq_some_iff.1 hc
   split at hc
   ·rename_i n C
    simp only [oI,DO.p.injEq]at hc;subst hc
    exact QS hop u j hg C h
   ·cases hc
  ·cases hc
 case field t x f=>
  split at hc
  ·rename_i fs j
   obtain ⟨g,hg,hc⟩:=Option.bind_eq_some_iff.1 hc
   obtain ⟨n,C,rfl⟩:=ML hc
   exact SQ hop u j hg C h
  ·cases hc
 case indexAddr t x i=>
  split at hc
  ·rename_i e j
   obtain ⟨n,C,rfl⟩:=ML hc
   exact UF H hop u j C h
  ·rename_i len e j
   obtain ⟨n,C,rfl⟩:=ML hc
   exact QO hop u j C h
  ·cases hc
 case index t x i=>
  split at hc
  ·rename_i len e j
   split at hc
   ·rename_i n ag C ha
    simp only [oI,DO.p.injEq]at hc;subst hc
    exact Ye hop u j C ha h
   ·cases hc
  ·rename_i j
   simp only [oI,DO.p.injEq]at hc;subst hc
   exact UE hop u j h
  ·cases hc
 case extract x i=>subst hc;exact Yf hop u h
 case call c=>
  unfold Fq at hc
  split at hc
  ·split at hc
   ·split at hc
    ·simp at hc
    ·split at hc
     ·split at hc<;>simp at hc
     ·split at hc
      ·split at hc<;>simp at hc
      ·cases hc
   ·cases hc
  ·simp at hc
  ·cases hc
  ·rename_i b hb
   split at hc
   ·rename_i x t Z e2
    have O:c.args=#[x]:=by rw [←Array.toList_inj];simpa using Z
    have et:c.argTypes=#[t]:=by rw [←Array.toList_inj];simpa using e2
    split at hc
    ·rename_i j
     simp only [oI,DO.p.injEq]at hc;subst hc
     exact UC H hop hb O et u j h
    ·rename_i e j
     simp only [oI,DO.p.injEq]at hc;subst hc
     exact UD hop hb O et u j h
    ·rename_i n e j
     simp only [oI,DO.p.injEq]at hc;subst hc
     have h:some (lit .i64 (.ofNat n))=some v:=h
     simp only [oI]at h
     subst h
     exact ⟨.int .i64 n,by simp [execOp,hop,resolve,hb,O,et,invoke,builtin,Builtin.len_,run_underlying j,goInt],by simp only [lit,Ag,ST.den];rfl⟩
    ·simp at hc
    ·cases hc
   ·exfalso
    unfold EX at hc
    split at hc<;>first|cases hc|skip
    all_goals (split at hc<;>first|(cases hc;done) |(split at hc<;>simp at hc))
   ·exfalso
    split at hc<;>first|(cases hc;done) |(obtain ⟨_,_,e⟩:=mS hc;cases e)
   ·simp only [oI,DO.p.injEq]at hc;subst hc
    exact Pr H (most:=true) hop hb rfl u h
   ·simp only [oI,DO.p.injEq]at hc;subst hc
    exact Pr H (most:=false) hop hb rfl u h
   ·simp at hc
   ·rename_i x Z
    have O:c.args=#[x]:=by rw [←Array.toList_inj];simpa using Z
    simp only [oI,DO.p.injEq]at hc;subst hc
    exact SM hop hb O u h
   ·exfalso
    split at hc
    ·split at hc<;>simp at hc
    ·cases hc
   ·cases hc
 case defer c=>
  obtain ⟨ad,args,ai⟩:=c
  cases ad<;>simp at hc
 all_goals
  exfalso
  first
   |(cases hc;done)
   |(split at hc<;>first|(cases hc;done) |(simp at hc;done) |(obtain ⟨_,_,e⟩:=mS hc;cases e;done) |(split at hc<;>first|(cases hc;done) |(simp at hc;done) |(split at hc<;>first|(cases hc;done) |(simp at hc;done) |(obtain ⟨_,_,e⟩:=mS hc;cases e;done))))
   |(obtain ⟨_,_,e⟩:=mS hc;cases e;done)
end
end Go.AM
end
section
namespace Go.AM
section
variable {P:Program} {Γ:Ao} {ρ:Env} {μ:Aq} {tm:Tr Aa} {a:Act} {w:World} {h:Al}
theorem EY {o:Option Block} {vs:List Aa} (h:cellsOf o=some vs):o=some (.cells vs)∨∃e,o=some (.typed e vs):=by
 unfold cellsOf at h
 split at h
 ·simp only [oI]at h;rw [h];exact .inl rfl
 ·simp only [oI]at h;rw [h];exact .inr ⟨_,rfl⟩
 ·cases h
theorem Kc {o:Option Block} {m:Nat×Nat} (h:bytesOf o=some m):o=some (.bytes m.1 m.2):=by
 unfold bytesOf at h
 split at h
 ·simp only [oI]at h;rw [←h]
 ·cases h
theorem DC {o:Option Block} {m:List Entry×Nat} (h:mapOf o=some m):o=some (.map m.1 m.2):=by
 unfold mapOf at h
 split at h
 ·simp only [oI]at h;rw [←h]
 ·cases h
theorem AO.cells (H:AO ρ μ h w) {b:Nat} {vs:List Aa} (hb:cellsOf (h.get b)=some vs):∃r δ m c e,μ b=some (r,δ,m)∧w.heap[r]?=some (.cells c e (0,0))∧δ+m≤c.size∧
  ∀(i:Nat) (x:Aa),vs[i]?=some x→∃v,c[δ+i]?=some v∧x.single=true∧Ag ρ μ x v:=by
 rcases EY hb with hb|⟨t,hb⟩
 ·obtain ⟨r,⟨δ,m⟩,j,c,e,g,d,hc⟩:=H.blk b _ hb
  exact ⟨r,δ,m,c,e,j,g,d,hc⟩
 ·obtain ⟨r,⟨δ,m⟩,j,c,g,_,d,hc⟩:=H.blk b _ hb
  exact ⟨r,δ,m,c,_,j,g,d,hc⟩
theorem Ly {o:Option Block} {vs:List Aa} (h:cellsOf o=some vs):∃B,o=some B:=by
 rcases EY h with h|⟨_,h⟩<;>exact ⟨_,h⟩
theorem AO.map (H:AO ρ μ h w) {b:Nat} {c:List Entry} {k:Nat} (hb:h.get b=some (.map c k)):∃r ms,μ b=some (r,0,0)∧w.heap[r]?=some (.map ms k)∧Cb ρ μ c ms.toList:=by
 obtain ⟨r,δ,g,rfl,ms,d,hc⟩:=H.blk b _ hb
 exact ⟨r,ms,g,d,hc⟩
theorem Cy {r j:Nat} {c:Array Value} {e:TypeId} {fr:Nat×Nat} (hg:w.heap[r]?=some (.cells c e fr)):w.cell? ⟨r,j,none⟩=c[j]?:=cell_of_row w r j c e fr hg
theorem DL {vs r:List Aa} {c:Array Value} {δ i n:Nat} (hc:∀(i:Nat) (x:Aa),vs[i]?=some x→∃v,c[δ+i]?=some v∧x.single=true∧Ag ρ μ x v) (h:cut vs i n=some r):
  ∃l:List Value,l.length=n∧Ay ρ μ r l∧∀j v,l[j]?=some v→c[δ+i+j]?=some v:=by
 obtain ⟨k,g,o⟩:=Ka h
 rcases g with rfl|g
 ·exact ⟨[],rfl,by rw [List.eq_nil_of_length_eq_zero k];simp only [Ay],fun j v hv=>by simp at hv⟩
 have d:∀j,j<n→∃v,c[δ+i+j]?=some v:=fun j u=>by
  obtain ⟨x,hx⟩:∃x,vs[i+j]?=some x:=⟨_,List.getElem?_eq_getElem (by omega)⟩
  obtain ⟨v,hv,_⟩:=hc _ _ hx
  exact ⟨v,by rw [Nat.add_assoc];exact hv⟩
 have y:δ+i+n≤c.size∨n=0:=by
  rcases Nat.eq_zero_or_pos n with h0|h0
  ·exact .inr h0
  ·left
   obtain ⟨v,hv⟩:=d (n-1) (by omega)
   have:=(Array.getElem?_eq_some_iff.1 hv).1
   omega
 refine ⟨(c.extract (δ+i) (δ+i+n)).toList,?_,?_,fun j v hv=>?_⟩
 ·rw [Array.length_toList,Array.size_extract];omega
 ·refine Ay.Ky ?_ fun j x hx=>?_
  ·rw [k,Array.length_toList,Array.size_extract];omega
  ·rw [o]at hx
   split at hx
   ·rename_i u
    obtain ⟨v,hv,hs,q⟩:=hc _ _ hx
    refine ⟨v,?_,hs,q⟩
    rw [Array.getElem?_toList,Array.getElem?_extract,if_pos (by omega),Nat.add_assoc]
    exact hv
   ·cases hx
 ·rw [Array.getElem?_toList,Array.getElem?_extract]at hv
  split at hv
  ·exact hv
  ·cases hv
theorem IY {t:TypeId} {n:Option Nat} (H:Ed P t=some n) {vs:List Aa} {r δ d:Nat} {c:Array Value} {e:TypeId} {fr:Nat×Nat} (y:w.heap[r]?=some (.cells c e fr))
  (hc:∀(i:Nat) (x:Aa),vs[i]?=some x→∃v,c[δ+i]?=some v∧x.single=true∧Ag ρ μ x v) {v:Aa} (hl:JE vs d n=some v):
  ∃q,(Instr.loadAt t (.pointer (some ⟨r,δ+d,none⟩))).run P w=.ok q w∧Ag ρ μ v q:=by
 obtain ⟨A,J⟩:=E2 P w t H
 unfold JE at hl
 cases n with
 |none=>
  simp only at hl
  rw [K0]at hl
  obtain ⟨u,M,_,D⟩:=hc _ _ hl
  refine ⟨u,?_,D⟩
  simp [Instr.loadAt,Instr.sureAddr,loadVar,A,run_load,Cy y,M]
 |some n=>
  simp only at hl
  obtain ⟨N,k,hl⟩:=Ac hl
  simp only [oI]at hl
  subst hl
  obtain ⟨l,z,C,o⟩:=DL hc k
  have g:=run_loadCells_list (P:=P) (w:=w) ⟨r,δ+d,none⟩ l (fun j v hv=>by rw [Addr.Bl,Cy y];exact o j v hv)
  rw [z]at g
  refine ⟨.agg l.toArray,?_,?_⟩
  ·simp [Instr.loadAt,Instr.sureAddr,loadVar,A,J n rfl,g]
  ·simp only [Ag];exact ⟨_,rfl,by simpa using C⟩
theorem Df {o:Option Block} {l:Nat×Nat} (h:MQ o=some l):o=some (.list l.1 l.2):=by
 unfold MQ at h
 split at h
 ·simp only [oI]at h;rw [←h]
 ·cases h
theorem MO {Γ:Ao} (X:Γ.AL ρ) (H:AO ρ μ h w) {t:TypeId} {n:Option Nat} (M:Ed P t=some n) {x v:Aa} {u:Value} (hx:Ag ρ μ x u) (hl:MP Γ h n x=some v):
  ∃v',(Instr.loadAt t u).run P w=.ok v' w∧Ag ρ μ v v':=by
 unfold MP at hl
 split at hl
 ·rename_i b es j A
  obtain ⟨vs,d,ab⟩:=Ac hl
  unfold elemV at d
  obtain ⟨⟨Z,C⟩,ac,Q⟩:=Ac d
  obtain ⟨o,R⟩:=Ap Q
  have o:C=es:=An.1 o
  subst o
  obtain ⟨r,m,J,rfl,z⟩:=hx.vptr
  obtain ⟨r1,⟨δ1,m1⟩,q,c0,ty,D,h0,_,_,_,_,O⟩:=H.blk b _ (Df ac)
  rw [J]at q
  simp only [oI,Prod.mk.injEq]at q
  obtain ⟨rfl,rfl,rfl⟩:=q
  have O:BU μ.Bg C c0 0 (ρ.lst Z):=O
  obtain ⟨y,k1,g,N⟩:=X.elems _ (Io R)
  have g:(ρ.lst Z)[(j.den ρ).toNat]?=some y:=g
  have U:=(O.get _ _ g).2
  rw [Nat.zero_add]at U
  exact IY M D (AW.T6 N U).2 ab
 ·rename_i i j A
  obtain ⟨vs,d,hl⟩:=Ac hl
  obtain ⟨r,δ,c,e,ps,rfl,z,h2,h3,h4⟩:=hx.lptr
  obtain ⟨y,k1,g,N⟩:=X.elems _ (Io d)
  have g:(ρ.lst i)[(j.den ρ).toNat]?=some y:=g
  rw [h3]at g
  simp only [oI]at g
  subst g
  obtain ⟨_,z⟩:=z
  exact IY M (H.AY.Bg _ _ z).1 (AW.T6 N h4).2 hl
 ·rename_i b A
  obtain ⟨vs,d,hl⟩:=Ac hl
  obtain ⟨r,δ,m,c,e,J,ho,_,hc⟩:=H.cells d
  obtain ⟨r',δ',m',k,rfl⟩:=hx.ptr
  rw [J]at k
  simp only [oI,Prod.mk.injEq]at k
  obtain ⟨rfl,rfl,rfl⟩:=k
  exact IY M ho hc hl
 ·cases hl
theorem Pm {t:TypeId} {kk:LK} (h:Ya P t=some kk):∃d,P.underlying t=some d∧kk.fits d:=by
 unfold Ya at h
 split at h<;>first|cases h|skip
 ·rename_i c;exact ⟨_,c,rfl⟩
 ·rename_i c;exact ⟨_,c,_,rfl⟩
 ·rename_i c;exact ⟨_,c,rfl⟩
theorem Oe {kk:LK} {d:TypeDesc} (c:kk.fits d) {x y:Aa} {u v:Value} (hx:Ag ρ μ x u) (g:Ag ρ μ y v) {b:Bool} (h:Pn kk x y=some b):Instr.sameNow d u v=some b:=by
 unfold Pn at h
 split at h
 ·obtain ⟨i,rfl⟩:=c
  obtain ⟨e,j⟩:=Ap h
  simp only [oI]at j
  rw [hx.int,g.int,Dq.1 e,←j,QK]
  simp [Instr.sameNow,ST.den]
 ·have c:d=.string:=c
  subst c
  simp only [oI]at h
  obtain ⟨s,rfl,o⟩:=hx.str
  obtain ⟨q,rfl,k⟩:=g.str
  rw [←h,←o,←k,CR,←beq_toListBytes]
  simp [Instr.sameNow]
 ·have c:d=.bool:=c
  subst c
  simp only [oI]at h
  rw [hx.bool,g.bool,←h,beq_eq]
  simp [Instr.sameNow,SB.den]
 ·cases h
theorem My {Γ:Ao} (o:Γ.AL ρ) {kk:LK} {d:TypeDesc} (c:kk.fits d) {x y:Aa} {u v:Value} (hx:Ag ρ μ x u) (g:Ag ρ μ y v) {b:Bool} (h:Jh Γ kk x y=some b):Instr.sameNow d u v=some b:=by
 unfold Jh at h
 split at h
 ·rename_i J m O N
  obtain ⟨i,rfl⟩:=c
  obtain ⟨q,k⟩:=Ap h
  clear h
  have z:=Dq.1 q
  subst z
  have hc:=(CS o (Pk k)).1
  rw [hx.int,g.int]
  simp only [SB.den,EG]at hc
  simp [Instr.sameNow,hc]
 ·have c:d=.bool:=c
  subst c
  simp only [oI]at h
  rw [hx.bool,g.bool,←h,beq_eq]
  simp [Instr.sameNow,SB.den]
 ·have c:d=.string:=c
  subst c
  simp only [oI]at h
  obtain ⟨s,rfl,H⟩:=hx.str
  obtain ⟨P,rfl,A⟩:=g.str
  rw [←h,←H,←A,CR,←beq_toListBytes]
  simp [Instr.sameNow]
 all_goals first
  |(cases h;done)
  |(have c:d=.string:=c
    subst c
    obtain ⟨s,M,D,k,j⟩:=o.strs _ (Gg h)
    obtain ⟨C,rfl,rfl⟩:=BV D hx
    obtain ⟨b2,rfl,rfl⟩:=BV k g
    have j:b=decide (strOf C=strOf b2):=j
    simp only [Instr.sameNow]
    rw [beq_toListBytes,j,←beq_toListBytes]
    congr 1
    rw [beq_toListBytes,Bool.eq_iff_iff,←CR,DA];simp)
theorem GL {kk:LK} {d:TypeDesc} {t:TypeId} (g:P.underlying t=some d) (c:kk.fits d) (j:Bool) (n:Nat) (u:Value):(Instr.checkKey j (n+1) t u).run P w=.ok () w:=by
 cases kk
 ·have c:d=.bool:=c
  subst c
  cases u<;>simp [Instr.checkKey,run_underlying g]
 ·obtain ⟨i,rfl⟩:=c
  cases u<;>simp [Instr.checkKey,run_underlying g]
 ·have c:d=.string:=c
  subst c
  cases u<;>simp [Instr.checkKey,run_underlying g]
theorem Lt {Γ:Ao} (z:Γ.AL ρ) {kk:LK} {d:TypeDesc} (C:kk.fits d) {x:Aa} {u:Value} (hx:Ag ρ μ x u):∀{g:List Entry} {ms:List MapEntry} {r:Option Aa} (n:Nat),Cb ρ μ g ms→AaE Γ kk x g=some r→
  ∃c,Instr.findNow d u ms n=some c∧(match r with|none=>c=none|some v=>∃i A,c=some (i,A)∧Ag ρ μ v A)
 |[],ms,r,n,he,h=>by
  simp only [Cb]at he
  subst he
  have h:some none=some r:=h
  simp only [oI]at h
  subst h
  exact ⟨none,rfl,rfl⟩
 |e::g,ms,r,n,he,h=>by
  simp only [Cb]at he
  obtain ⟨m,rest,rfl,⟨hs,y,q,_⟩,k⟩:=he
  have h:(AF (Jh Γ kk x e.key) fun b=>bif b then some (some e.val)else AaE Γ kk x g)=some r:=h
  obtain ⟨b,hb,j⟩:=Ac h
  have o:=My z C hx y hb
  cases b with
  |true=>
   simp only [cond_true,oI]at j
   subst j
   exact ⟨some (n,m.val),by simp [Instr.findNow,o],n,m.val,rfl,q⟩
  |false=>
   simp only [cond_false]at j
   obtain ⟨c,D,H⟩:=Lt z C hx (n+1) k j
   exact ⟨c,by simp [Instr.findNow,o,D],H⟩
theorem run_findKey {t:TypeId} {d:TypeDesc} (c:P.underlying t=some d) {u:Value} {ms:List MapEntry} {r:Option (Nat×Value)} (h:Instr.findNow d u ms 0=some r):(Instr.findKey t u ms).run P w=.ok r w:=by
 simp [Instr.findKey,run_underlying c,h]
theorem HG {ok b:Bool} {v:Aa} {u:Value} (hv:Ag ρ μ v u):Ag ρ μ (UJ ok v b) (if ok then .tuple #[u,.bool b]else u):=by
 unfold UJ
 cases ok
 ·exact hv
 ·simp only [cond_true,if_true,Ag]
  exact ⟨_,rfl,by simp only [A9];exact ⟨_,_,rfl,hv,_,_,rfl,by simp only [Ag,SB.den],rfl⟩⟩
theorem E7 {o:Option Block} {i:Nat} (h:IS o=some i):o=some (.smap i):=by
 unfold IS at h
 split at h
 ·simp only [oI]at h;rw [h]
 ·cases h
theorem Lg {kk:LK} {x:Aa} (h:PM kk x=true):kk=.str∧∃s,Eo ρ x=some s:=by
 unfold PM at h
 split at h
 ·exact ⟨rfl,_,rfl⟩
 ·exact ⟨rfl,_,rfl⟩
 ·cases h
theorem Ls {Bg:Nat→Option Obj} {b:ByteArray}:∀{l:List (List Nat×List PV)} {ms:List MapEntry} (n:Nat),Jp Bg l ms→
  ∃d,Instr.findNow .string (.string b) ms n=some d∧(match BO l (strOf b)with|none=>d=none|some ps=>∃i a,d=some (i,.agg a)∧a.size=ps.length∧AW Bg a 0 ps)
 |[],ms,n,c=>by
  have c:ms=[]:=c
  subst c
  exact ⟨none,rfl,rfl⟩
 |e::es,ms,n,c=>by
  obtain ⟨m,rest,rfl,⟨q,u,k⟩,⟨a,ha,hs,x⟩,g⟩:=c
  have j:Instr.sameNow .string (.string b) m.key=some (decide (strOf b=e.1)):=by
   rw [u,←k]
   have:decide (strOf b=strOf q)=(b.toList==q.toList):=by rw [←CR,Bool.eq_iff_iff,DA];simp
   rw [this,←beq_toListBytes]
   simp [Instr.sameNow]
  by_cases hc:e.1=strOf b
  ·refine ⟨some (n,m.val),by simp [Instr.findNow,j,hc],?_⟩
   simp only [BO,hc,if_true]
   exact ⟨n,a,by rw [ha],hs,x⟩
  ·have o:¬strOf b=e.1:=fun h=>hc h.symm
   obtain ⟨d,v,y⟩:=Ls (b:=b) (n+1) g
   refine ⟨d,by simp [Instr.findNow,j,o,v],?_⟩
   simp only [BO,if_neg hc]
   exact y
theorem AO.smap (H:AO ρ μ h w) {b i:Nat} (hb:h.get b=some (.smap i)):∃r ms c,μ b=some (r,0,0)∧w.heap[r]?=some (.map ms c)∧Jp μ.Bg (ρ.map i) ms.toList:=by
 obtain ⟨r,δ,g,rfl,ms,c,d,hc⟩:=H.blk b _ hb
 exact ⟨r,ms,c,g,d,hc⟩
theorem QC {Γ:Ao} (hΓ:Γ.AL ρ) (H:AO ρ μ h w) {t O e:TypeId} {kk:LK} {i:TypeInfo} {z:Value} (N:P.underlying t=some (.map O e)) (hk:Ya P O=some kk) (hi:P.info? e=some i) (hz:i.zero=some z) {m k v:Aa} {um C:Value} {ok:Bool}
  (hm:Ag ρ μ m um) (R:Ag ρ μ k C) (hl:WV Γ h kk m k (GP z) ok=some v):∃v',(Instr.lookup t um C ok).run P w=.ok v' w∧Ag ρ μ v v':=by
 obtain ⟨d,hd,hf⟩:=Pm hk
 have D:(zeroValue e).run P w=.ok z w:=by simp [zeroValue,typeInfo,hi,hz]
 have q:∀Z,(Instr.checkKey Z 10000 O C).run P w=.ok () w:=fun Z=>GL hd hf Z 9999 C
 unfold WV at hl
 split at hl
 ·have y:um=.map none:=by simpa only [Ag]using hm
  simp only [oI]at hl
  subst hl
  refine ⟨_,?_,HG (Dj z)⟩
  have c:(Instr.findKey O C []).run P w=.ok none w:=run_findKey hd rfl
  simp [Instr.lookup,run_underlying N,y,q,c,D]
 ·rename_i b
  unfold Uy at hl
  split at hl
  ·rename_i i' ak
   obtain ⟨aj,U⟩:=Ap hl
   clear hl
   obtain ⟨rfl,s,hs⟩:=Lg (ρ:=ρ) aj
   have hf:d=.string:=hf
   subst hf
   obtain ⟨kb,rfl,rfl⟩:=BV hs R
   obtain ⟨g,ms,Q,hg,ho,he⟩:=H.smap (E7 ak)
   obtain ⟨g',j,y⟩:=hm.Oh
   rw [hg]at j
   simp only [oI,Prod.mk.injEq]at j
   obtain ⟨rfl,_⟩:=j
   obtain ⟨r',h1,o⟩:=Ls (b:=kb) 0 he
   have c:=run_findKey (P:=P) (w:=w) hd h1
   have x:(getObj g).run P w=.ok (.map ms Q) w:=by simp [getObj,Sem.run,ho]
   unfold AdK at U
   obtain ⟨r,hr,A⟩:=Ac U
   obtain ⟨s',J,M⟩:=hΓ.looks _ (Pf hr)
   have J:Eo ρ k=some s':=J
   rw [hs]at J
   simp only [oI]at J
   subst J
   cases r with
   |none=>
    simp only at M
    rw [M]at o
    simp only at o
    subst o
    simp only [oI]at A
    subst A
    refine ⟨_,?_,HG (Dj z)⟩
    simp [Instr.lookup,run_underlying N,y,x,q,c,D]
   |some cs=>
    obtain ⟨ps,M,q3⟩:=M
    rw [M]at o
    obtain ⟨aC,X,rfl,k1,k2⟩:=o
    simp only [oI]at A
    subst A
    refine ⟨_,?_,HG (u:=.agg X) (by simp only [Ag];exact ⟨X,rfl,AW.cs q3 k2 k1⟩)⟩
    simp [Instr.lookup,run_underlying N,y,x,q,c]
  rename_i aB
  obtain ⟨mm,al,hl⟩:=Ac hl
  obtain ⟨r,hr,hl⟩:=Ac hl
  simp only [oI]at hl
  subst hl
  obtain ⟨g,ms,hg,ho,he⟩:=H.map (DC al)
  obtain ⟨g',j,y⟩:=hm.Oh
  rw [hg]at j
  simp only [oI,Prod.mk.injEq]at j
  obtain ⟨rfl,_⟩:=j
  obtain ⟨r',h1,o⟩:=Lt hΓ hf R 0 he hr
  have c:=run_findKey (P:=P) (w:=w) hd h1
  have x:(getObj g).run P w=.ok (.map ms mm.2) w:=by simp [getObj,Sem.run,ho]
  cases r with
  |none=>
   simp only at o
   subst o
   refine ⟨_,?_,HG (Dj z)⟩
   simp [Instr.lookup,run_underlying N,y,x,q,c,D]
  |some v=>
   obtain ⟨i',v',rfl,ah⟩:=o
   refine ⟨_,?_,HG ah⟩
   simp [Instr.lookup,run_underlying N,y,x,q,c]
 ·cases hl
theorem Pp {e n:Nat}:∀{l:List (Nat×Nat)},SI e n l=true→(e,n)∈l
 |[],h=>by cases h
 |x::r,h=>by
  have h:((Nat.beq x.1 e&&Nat.beq x.2 n) ||SI e n r)=true:=h
  rw [Bool.or_eq_true,aT]at h
  rcases h with ⟨h1,h2⟩|h
  ·have c:=An.1 h1
   have d:=An.1 h2
   subst c d
   exact List.mem_cons_self
  ·exact List.mem_cons_of_mem _ (Pp h)
theorem KZ {p:TypeId→Nat→Bool} {e n:Nat} (h:SI e n (Hv P p)=true):1≤n∧p e n=true:=by
 have h:=Pp h
 unfold Hv at h
 rw [List.mem_filterMap]at h
 obtain ⟨d,_,h⟩:=h
 split at h
 ·split at h
  ·rename_i i c
   split at h
   ·rename_i hc
    simp only [oI,Prod.mk.injEq]at h
    obtain ⟨rfl,rfl⟩:=h
    rw [aT]at hc
    exact ⟨AX.1 hc.1,hc.2⟩
   ·cases h
  ·cases h
 ·cases h
theorem Mc (H:AO ρ μ h w) {ok:List (Nat×Nat)} {x v:Aa} {u:Value} (hx:Ag ρ μ x u) (hv:O9 h ok x=some v):
  ∃r c e,u=.pointer (some ⟨r,0,none⟩)∧Ag ρ μ v u∧w.heap[r]?=some (.cells c e (0,0))∧SI e c.size ok=true:=by
 unfold O9 at hv
 split at hv
 ·rename_i b
  unfold YI at hv
  split at hv
  ·rename_i e vs hb
   obtain ⟨k,hv⟩:=Ap hv
   simp only [oI]at hv
   subst hv
   have g:=hx
   obtain ⟨r,⟨δ,m⟩,y,c,q,⟨o,j⟩,_⟩:=H.blk b _ hb
   obtain ⟨C,A,D,d,z⟩:=hx.ptr
   rw [y]at d
   simp only [oI,Prod.mk.injEq]at d
   obtain ⟨rfl,rfl,rfl⟩:=d
   subst o
   rw [JJ,←j]at k
   exact ⟨r,c,e,z,g,q,k⟩
  ·cases hv
 ·cases hv
theorem run_shape {r:Nat} {c:Array Value} {e:TypeId} {fr:Nat×Nat} (d:w.heap[r]?=some (.cells c e fr)):(shape r).run P w=.ok (some (e,c.size)) w:=by
 simp [shape,Sem.run,World.shape?,d]
theorem Ue {r:Nat} {c:Array Value} {e:TypeId} {fr:Nat×Nat} (d:w.heap[r]?=some (.cells c e fr)):(viewAt r).run P w=.ok none w:=by
 simp [viewAt,run_shape d]
theorem Mz {r k:Nat} {c:Array Value} {e:TypeId} {fr:Nat×Nat} (d:w.heap[r]?=some (.cells c e fr)):(Conv.seenAt ⟨r,k,none⟩).run P w=.ok ⟨r,k,none⟩ w:=by
 simp [Conv.seenAt,Ue d]
theorem MX (H:AO ρ μ h w) {o:Oper} {s d t:TypeId} {x:Operand} (D:o.op=.convert s d x) (y:Bf ρ μ tm a) (hs:P.underlying s=some (.pointer t)) (hd:P.underlying d=some .unsafePointer) {n:Nat} (z:Bj P t=some (n+1))
  {v:Aa} (hv:O9 h (Hv P fun _ _=>true) (ev tm (AJ x))=some v):Bx P ρ μ a o w v:=by
 obtain ⟨r,c,e,q,A,g,J⟩:=Mc H (As y x) hv
 obtain ⟨C,_⟩:=KZ J
 refine ⟨a.eval x,?_,A⟩
 have k:=B4 (w:=w) z
 have u:(cellsIn r).run P w=.ok (some c.size) w:=by simp [cellsIn,run_shape g]
 have j:c≠#[]:=by rintro rfl;simp at C
 have hc:¬c.size=0:=by omega
 rw [q]
 simp [execOp,D,q,Go.convert,run_underlying hs,run_underlying hd,Conv.unsafePointer,Mz g,k,u,j,hc]
theorem KB (H:AO ρ μ h w) {o:Oper} {s d u:TypeId} {x:Operand} (J:o.op=.convert s d x) (z:Bf ρ μ tm a) (hs:P.underlying s=some .unsafePointer) (hd:P.underlying d=some (.pointer u)) {n:Nat} (A:Bj P u=some n)
  {v:Aa} (hv:O9 h (Hv P fun e n=>liesAt P P.depth e (n/P.cellsOf e) 0 u 1) (ev tm (AJ x))=some v):Bx P ρ μ a o w v:=by
 obtain ⟨r,c,e,y,C,g,M⟩:=Mc H (As z x) hv
 obtain ⟨_,D⟩:=KZ M
 refine ⟨a.eval x,?_,C⟩
 have k:=B4 (w:=w) A
 have j:w.shape? r=some (e,c.size):=by simp [World.shape?,g]
 have q:(variablesAt ⟨r,0,none⟩ u 1).run P w=.ok true w:=by simp [variablesAt,j,D]
 rw [y]
 simp [execOp,J,y,Go.convert,run_underlying hs,run_underlying hd,Conv.unsafePointer,Mz g,k,q]
theorem YK {v:Aa} {n:Nat} (h:u8A v=some n):n≤255∧v=.int .u8 (.lit (.ofNat n)):=by
 unfold u8A at h
 split at h
 ·obtain ⟨d,c⟩:=Ap h
  simp only [oI]at c
  subst c
  exact ⟨AX.1 d,rfl⟩
 ·cases h
theorem RG:∀{cs:List Aa} {s:List Nat} {l:List Value},Aen cs=some s→Ay ρ μ cs l→l=s.map (fun n:Nat=>.int .u8 (n:Int))∧∀n∈s,n≤255
 |[],s,l,h,hr=>by
  have h:some []=some s:=h
  simp only [oI]at h
  subst h
  simp only [Ay]at hr
  subst hr
  exact ⟨rfl,fun n d=>by cases d⟩
 |v::cs,s,l,h,hr=>by
  have h:(AF (u8A v) fun n=>AF (Aen cs) fun l=>some (n::l))=some s:=h
  obtain ⟨n,d,q⟩:=Ac h
  obtain ⟨t,z,k⟩:=Ac q
  simp only [oI]at k
  subst k
  obtain ⟨j,rfl⟩:=YK d
  simp only [Ay]at hr
  obtain ⟨u,rest,rfl,⟨_,x⟩,c⟩:=hr
  obtain ⟨o,y⟩:=RG z c
  have:=x.int
  refine ⟨by rw [this,o];rfl,fun m g=>?_⟩
  rcases List.mem_cons.1 g with rfl|g
  ·exact j
  ·exact y m g
theorem Uf (s:List Nat) (d:ByteArray):
  (forIn (m:=Sem) (s.map fun n:Nat=>Value.int .u8 (n:Int)) d fun c r=>match c with
   |.int .u8 n=>do pure PUnit.unit;pure (ForInStep.yield (r.push (UInt8.ofNat n.toNat)))
   |_=>do stuck "bytesToString: byte expected";pure (ForInStep.yield r)).run P w=.ok (s.foldl (fun r n=>r.push (UInt8.ofNat n)) d) w:=by
 induction s generalizing d with
 |nil=>simp
 |cons n s ih=>simp [ih]
theorem PK (s:List Nat) (hs:∀n∈s,n≤255):∀c:ByteArray,strOf (s.foldl (fun r n=>r.push (UInt8.ofNat n)) c)=strOf c++s:=by
 induction s with
 |nil=>intro c;simp
 |cons n s ih=>
  intro c
  rw [List.foldl_cons,ih fun m d=>hs m (List.mem_cons_of_mem _ d)]
  have g:=hs n List.mem_cons_self
  have:strOf (c.push (UInt8.ofNat n))=strOf c++[n]:=by
   unfold strOf
   simp [ByteArray.push]
   omega
  rw [this];simp
theorem UI (H:AO ρ μ h w) {o:Oper} {s d e:TypeId} {x:Operand} (J:o.op=.convert s d x) (hT:Bf ρ μ tm a) (hs:P.underlying s=some (.slice e)) (N:P.underlying e=some (.int .u8)) (hd:P.underlying d=some .string)
  {v:Aa} (hv:Xs h (ev tm (AJ x))=some v):Bx P ρ μ a o w v:=by
 have hx:=As hT x
 have key:∀(b g len r δ m c:Nat),NG h b g len=some v→μ b=some (r,δ,m)→a.eval x=.slice (some ⟨r,δ+g,none⟩) len c→Bx P ρ μ a o w v:=fun b g len r δ m c q y k=>by
  unfold NG at q
  rw [AP]at q
  by_cases h0:len=0
  ·rw [if_pos h0]at q
   simp only [oI]at q
   subst q
   subst h0
   refine ⟨.string .empty,?_,by simp only [Ag];exact ⟨_,rfl,rfl⟩⟩
   simp [execOp,J,k,Go.convert,run_underlying hs,run_underlying hd,run_underlying N,Conv.bytesToString,loadCells,loadCellsFrom]
  ·rw [if_neg h0]at q
   obtain ⟨vs,R,Q⟩:=Ac q
   obtain ⟨cs,X,Z⟩:=Ac Q
   obtain ⟨t,ht,C⟩:=Ac Z
   simp only [oI]at C
   subst C
   obtain ⟨r2,δ2,m2,c2,u,A,D,_,hc⟩:=H.cells R
   rw [y]at A
   simp only [oI,Prod.mk.injEq]at A
   obtain ⟨rfl,rfl,rfl⟩:=A
   obtain ⟨l,U,M,O⟩:=DL hc X
   have z:=run_loadCells_list (P:=P) (w:=w) ⟨r,δ+g,none⟩ l (fun j v hv=>by rw [Addr.Bl,Cy D];exact O j v hv)
   rw [U]at z
   obtain ⟨k1,k2⟩:=RG ht M
   subst k1
   refine ⟨.string (t.foldl (fun r n=>r.push (UInt8.ofNat n)) .empty),?_,by simp only [Ag];exact ⟨_,rfl,by rw [PK t k2];rfl⟩⟩
   have hp:=Uf (P:=P) (w:=w) t .empty
   simp [execOp,J,k,Go.convert,run_underlying hs,run_underlying hd,run_underlying N,Conv.bytesToString,z,hp]
 unfold Xs at hv
 split at hv
 ·rename_i k
  rw [k]at hx
  have u:a.eval x=.slice none 0 0:=by simpa only [Ag]using hx
  simp only [oI]at hv
  subst hv
  refine ⟨.string .empty,?_,by simp only [Ag];exact ⟨_,rfl,rfl⟩⟩
  simp [execOp,J,u,Go.convert,run_underlying hs,run_underlying hd,run_underlying N,Conv.bytesToString]
 ·rename_i b g len c k
  rw [k]at hx
  obtain ⟨r,δ,m,y,u,_⟩:=hx.slice
  exact key _ _ _ _ _ _ _ hv y u
 ·rename_i b g len es k
  rw [k]at hx
  obtain ⟨r,δ,m,cap,y,u,_⟩:=hx.gslice
  exact key _ _ _ _ _ _ _ hv y u
 ·cases hv
theorem Cb.length:∀{c:List Entry} {ms:List MapEntry},Cb ρ μ c ms→c.length=ms.length
 |[],_,e=>by simp only [Cb]at e;rw [e];rfl
 |_::_,_,e=>by
  simp only [Cb]at e
  obtain ⟨v,rest,rfl,_,h⟩:=e
  simp [Cb.length h]
theorem M7 {Γ:Ao} (X:Γ.AL ρ) (H:AO ρ μ h w) (j:Bf ρ μ tm a) {pl:List C3} {o:Oper} {q:NX} (hc:D6 P pl o=some (.r q)) {v:Aa} (hv:Dx Γ tm h q=some v):Bx P ρ μ a o w v:=by
 cases hop:o.op<;>simp only [D6,hop,reduceCtorEq,oI]at hc
 case load t x=>
  obtain ⟨n,A,e⟩:=mS hc
  simp only [DO.r.injEq]at e
  subst e
  obtain ⟨M,U,R⟩:=MO X H A (As j x) hv
  exact ⟨M,by simp [execOp,hop,U],R⟩
 case lookup t x k ok=>
  split at hc
  ·rename_i kt e C
   split at hc
   ·rename_i i kk Q hk
    obtain ⟨z,hz,e⟩:=mS hc
    simp only [DO.r.injEq]at e
    subst e
    obtain ⟨M,U,R⟩:=QC X H C hk Q hz (As j x) (As j k) hv
    exact ⟨M,by simp [execOp,hop,U],R⟩
   ·cases hc
  ·cases hc
 case call c=>
  unfold Fq at hc
  split at hc
  ·split at hc
   ·split at hc
    ·simp at hc
    ·split at hc
     ·split at hc<;>simp at hc
     ·split at hc
      ·split at hc<;>simp at hc
      ·cases hc
   ·cases hc
  ·simp at hc
  ·cases hc
  ·rename_i b hb
   split at hc
   ·rename_i x t e1 e2
    have ea:c.args=#[x]:=by rw [←Array.toList_inj];simpa using e1
    have et:c.argTypes=#[t]:=by rw [←Array.toList_inj];simpa using e2
    split at hc
    ·simp at hc
    ·simp at hc
    ·simp at hc
    ·rename_i kt e C
     simp only [oI,DO.r.injEq]at hc;subst hc
     have hx:=As j x
     have hv:WW h (ev tm (AJ x))=some v:=hv
     unfold WW at hv
     split at hv
     ·rename_i O
      rw [O]at hx
      have J:a.eval x=.map none:=by simpa only [Ag]using hx
      simp only [oI]at hv
      subst hv
      exact ⟨.int .i64 0,by simp [execOp,hop,resolve,hb,ea,et,invoke,builtin,Builtin.len_,run_underlying C,goInt,J],by simp only [lit,Ag,ST.den];rfl⟩
     ·rename_i bb O
      rw [O]at hx
      obtain ⟨g,hg,J⟩:=hx.Oh
      obtain ⟨Z,af,hv⟩:=Ac hv
      simp only [oI]at hv
      subst hv
      obtain ⟨g',ms,D,ho,N⟩:=H.map (DC af)
      rw [hg]at D
      simp only [oI,Prod.mk.injEq]at D
      obtain ⟨rfl,_⟩:=D
      have ab:(getObj g).run P w=.ok (.map ms Z.2) w:=by simp [getObj,Sem.run,ho]
      have hl:Adr Z.1=ms.size:=by rw [Xf];simpa using N.length
      exact ⟨.int .i64 ms.size,by simp [execOp,hop,resolve,hb,ea,et,invoke,builtin,Builtin.len_,run_underlying C,goInt,J,ab],by simp only [lit,Ag,ST.den];rw [hl];rfl⟩
     ·cases hv
    ·cases hc
   ·exfalso
    unfold EX at hc
    split at hc<;>first|cases hc|skip
    all_goals (split at hc<;>first|(cases hc;done) |(split at hc<;>simp at hc))
   ·exfalso
    split at hc<;>first|(cases hc;done) |(obtain ⟨_,_,e⟩:=mS hc;cases e)
   ·simp at hc
   ·simp at hc
   ·simp at hc
   ·simp at hc
   ·exfalso
    split at hc
    ·split at hc<;>simp at hc
    ·cases hc
   ·cases hc
 case convert s d x=>
  rcases CT hc with ⟨k0,k,hs,hd,e⟩|⟨hs,hd,e⟩|⟨t,n,hs,hd,A,e⟩|⟨u,n,hs,hd,A,e⟩|⟨el,hs,N,hd,e⟩
  ·cases e
  ·cases e
  ·simp only [DO.r.injEq]at e;subst e
   exact MX H hop j hs hd A hv
  ·simp only [DO.r.injEq]at e;subst e
   exact KB H hop j hs hd A hv
  ·simp only [DO.r.injEq]at e;subst e
   exact UI H hop j hs N hd hv
 case typeAssert x xt t ok=>
  obtain ⟨d,i,z,C,hd,Q,hz,e⟩:=Cu hc
  cases e
 case defer c=>
  obtain ⟨ac,args,al⟩:=c
  cases ac<;>simp at hc
 case makeFunc fn x c=>cases fn<;>simp at hc
 case binOp op t x y yt=>obtain ⟨_,_,e⟩:=mS hc;cases e
 case slice t x lo Q mx=>
  exfalso
  split at hc
  ·simp at hc
  ·obtain ⟨_,_,e⟩:=mS hc;cases e
  ·split at hc
   ·obtain ⟨_,_,e⟩:=mS hc;cases e
   ·cases hc
  ·cases hc
 case build t parts=>
  exfalso
  split at hc
  ·split at hc
   ·obtain ⟨_,_,e⟩:=mS hc;cases e
   ·cases hc
  ·obtain ⟨_,_,hc⟩:=Option.bind_eq_some_iff.1 hc
   obtain ⟨_,_,e⟩:=mS hc;cases e
  ·cases hc
 case fieldAddr t x f=>
  exfalso
  split at hc
  ·obtain ⟨_,_,hc⟩:=Option.bind_eq_some_iff.1 hc
   split at hc<;>simp at hc
  ·cases hc
 case field t x f=>
  exfalso
  split at hc
  ·obtain ⟨_,_,hc⟩:=Option.bind_eq_some_iff.1 hc
   obtain ⟨_,_,e⟩:=mS hc;cases e
  ·cases hc
 all_goals
  exfalso
  first
   |(cases hc;done)
   |(split at hc<;>first|(cases hc;done) |(simp at hc;done) |(obtain ⟨_,_,e⟩:=mS hc;cases e;done) |(split at hc<;>first|(cases hc;done) |(simp at hc;done) |(obtain ⟨_,_,e⟩:=mS hc;cases e;done) |(split at hc<;>first|(cases hc;done) |(simp at hc;done) |(obtain ⟨_,_,e⟩:=mS hc;cases e;done))))
   |(obtain ⟨_,_,e⟩:=mS hc;cases e;done)
end
end Go.AM
end
section
namespace Go.AM
section
variable {P:Program} {Γ:Ao} {ρ:Env} {μ:Aq} {tm:Tr Aa} {a:Act} {w:World} {h:Al}
def NT (P:Program) (ρ:Env) (μ:Aq) (a:Act) (o:Oper) (w:World) (id:Nat) (B:Block) (v:Aa):Prop:=
 ∃g d,(execOp a.eval o).run P w=.ok (.value d) (w.alloc g)∧∃m,(∀c:Aq,μ.le c→CI ρ c B (some g) (0,m))∧∀c:Aq,μ.le c→c id=some (w.heap.size,0,m)→Ag ρ c v d
theorem Fu {cs:List Aa} {c:Array Value} {e:TypeId} (hc:Ay ρ μ cs c.toList) (g:Aq) (d:μ.le g):CI ρ g (.cells cs) (some (.cells c e)) (0,c.size):=
 ⟨c,e,rfl,by omega,fun i x hx=>by
  obtain ⟨v,hv,hs,j⟩:=hc.get hx
  exact ⟨v,by rw [Nat.zero_add];simpa using hv,hs,j.mono d⟩⟩
theorem LF {cs:List Aa} {c:Array Value} {e:TypeId} {t:Option Nat} (o:t=some e∨t=none) (hc:Ay ρ μ cs c.toList) (d:Aq) (g:μ.le d):CI ρ d (KQ t cs) (some (.cells c e)) (0,c.size):=by
 have h:=Fu (e:=e) hc d g
 rcases o with rfl|rfl
 ·obtain ⟨q,u,j,hs,k⟩:=h
  simp only [oI,Obj.cells.injEq]at j
  obtain ⟨rfl,rfl,_⟩:=j
  exact ⟨c,rfl,⟨rfl,by have:=hc.length;simp at this;omega⟩,hs,k⟩
 ·exact h
theorem Mf (t:TypeId):RH P t=some t∨RH P t=none:=by
 unfold RH
 split
 ·exact .inl rfl
 ·exact .inr rfl
theorem Er (e:TypeId) (c:Array Value):(newRow e c).run P w=.ok ⟨w.heap.size,0,none⟩ (w.alloc (.cells c e)):=by
 simp [newRow]
theorem WL {id:Nat} {r m:Nat} (c:Aq) (d:c id=some (r,0,m)):Ag ρ c (.ptr id 0) (.pointer (some ⟨r,0,none⟩)):=by
 simp only [Ag];exact ⟨r,0,m,d,rfl⟩
theorem Uv {o:Oper} {t:TypeId} (k:o.op=.alloc t) {cs:List Aa} (u:Hr P t=some cs) {id:Nat}:NT P ρ μ a o w id (KQ (RH P t) cs) (.ptr id 0):=by
 obtain ⟨v,j,g⟩:=E4 (w:=w) (ρ:=ρ) (μ:=μ) u
 refine ⟨.cells v.cells t,.pointer (some ⟨w.heap.size,0,none⟩),?_,_,fun c d=>LF (Mf t) g c d,fun c _ q=>WL c q⟩
 simp [execOp,k,Instr.alloc,j,newVar,Er]
theorem XW {o:Oper} {t:TypeId} {x:Operand} (k:o.op=.box t x) (g:Bf ρ μ tm a) {cs:List Aa} (hc:(ev tm (AJ x)).cells=some cs) {id:Nat}:NT P ρ μ a o w id (KQ (RH P t) cs) (.ptr id 0):=by
 have j:=(As g x).cells hc
 refine ⟨.cells (a.eval x).cells t,.pointer (some ⟨w.heap.size,0,none⟩),?_,_,fun c d=>LF (Mf t) j c d,fun c _ q=>WL c q⟩
 simp [execOp,k,Instr.box,newVar,Er]
theorem Ki {z:List Aa} {d:Array Value} {n:Nat} (o:Ay ρ μ z d.toList) (c:z.length=n) (k:Nat) {y:Array Value} (A:k*n≠0→y=d):
  Ay ρ μ (rep z k) ((Array.range (k*n)).map fun i=>y[i%y.size]!).toList:=by
 have q:d.size=n:=by have:=o.length;simp at this;omega
 refine Ay.Ky (by rw [IT,c];simp) fun i x hx=>?_
 have g:i<k*n:=by
  have:=(List.getElem?_eq_some_iff.1 hx).1
  rw [IT,c]at this
  exact this
 rw [WG z k i (by rw [c];exact g),c]at hx
 obtain ⟨v,hv,hs,u⟩:=o.get hx
 refine ⟨v,?_,hs,u⟩
 have j:=A (by omega)
 subst j
 rw [Array.getElem?_toList]at hv
 simp only [Array.getElem?_toList,Array.getElem?_map]
 rw [Array.getElem?_range,if_pos g]
 simp only [Option.map_some]
 rw [q,getElem!_def,hv]
theorem Q9 {o:Oper} {t e:TypeId} {len n:Nat} {parts:Array (Nat×Operand)} (q:o.op=.buildSlice t len parts) (H:Bf ρ μ tm a) (v:P.underlying t=some (.slice e)) (D:Bj P e=some n) {z:List Aa} (O:Hr P e=some z)
  (R:len*n≤65536) (u:z.length=n) {ps:List (Nat×Nat×C7)} (C:partsOf (fun i=>some (i*n,n)) parts.toList=some ps) {cs:List Aa} (hf:HO tm ps (List.replicate len z).flatten=some cs) {id:Nat}:
  NT P ρ μ a o w id (.cells cs) (.slice id 0 len len):=by
 obtain ⟨A,N,M⟩:=E4 (w:=w) (ρ:=ρ) (μ:=μ) O
 have hs:=B4 (w:=w) D
 have key:∀y:Array Value,(len*n≠0→y=A.cells)→∃x:Array Value,Instr.fill (fun i=>some (i*n,n)) ((Array.range (len*n)).map fun i=>y[i%y.size]!) ((parts.map fun x=>(x.1,a.eval x.2)).toList)=some x∧Ay ρ μ cs x.toList:=fun y Q=>by
  have k:=Ki M u len Q
  rw [ZR]at k
  obtain ⟨x,hx,hc⟩:=GC (place':=fun i=>some (i*n,n)) H C (fun i y e=>e) k hf
  refine ⟨x,?_,hc⟩
  have J:(parts.map fun x=>(x.1,a.eval x.2)).toList=parts.toList.map fun p=>(p.1,a.eval p.2):=by simp
  rw [J];exact hx
 have d:¬len*n>2^24:=by omega
 have j:∀(m:Nat) (c:Aq),c id=some (w.heap.size,0,m)→Ag ρ c (.slice id 0 len len) (.slice (some ⟨w.heap.size,0,none⟩) len len):=fun m c g=>by
  simp only [Ag];exact ⟨_,_,_,g,rfl,Nat.le_refl _⟩
 by_cases h0:len*n=0
 ·obtain ⟨x,hx,hc⟩:=key #[] (fun h=>absurd h0 h)
  refine ⟨.cells x e,_,?_,_,fun c d=>Fu hc c d,fun c _ g=>j _ c g⟩
  simp only [execOp,q,Instr.buildSlice,Sem.run_bind,run_underlying v,Result.andThen_ok,hs]
  rw [if_neg d]
  simp only [Sem.run_bind,Sem.run_pure,Result.andThen_ok,h0,if_true]
  rw [h0]at hx
  simp only [hx]
  simp [Er]
 ·obtain ⟨x,hx,hc⟩:=key A.cells (fun _=>rfl)
  refine ⟨.cells x e,_,?_,_,fun c d=>Fu hc c d,fun c _ g=>j _ c g⟩
  simp only [execOp,q,Instr.buildSlice,Sem.run_bind,run_underlying v,Result.andThen_ok,hs]
  rw [if_neg d]
  simp only [Sem.run_bind,Sem.run_pure,Result.andThen_ok,h0,if_false,N]
  simp only [hx]
  simp [Er]
theorem wrap_small {n:Nat} (h:n≤1048576):IntKind.i64.wrap (n:Int)=(n:Int):=by
 unfold IntKind.wrap
 have e:(n:Int)%2^IntKind.i64.bits=n:=Int.emod_eq_of_lt (by omega) (by show (n:Int)<18446744073709551616;omega)
 simp only [e]
 rw [if_neg]
 intro hc
 simp only [aT,decide_eq_true_eq]at hc
 have:(9223372036854775808:Int)≤n:=hc.2
 omega
theorem Oi {o:Oper} {t e:TypeId} {l c:Operand} (J:o.op=.makeSlice t l c) (R:Bf ρ μ tm a) (X:P.underlying t=some (.slice e)) {i:TypeInfo} (hi:P.info? e=some i) {z:List Aa} (hz:Hr P e=some z)
  (hb:i.bytes≤1048576) (A:z.length=i.size) {id:Nat} {B:Block} {v:Aa} (h:MK id z (CL (ev tm (AJ l))) (CL (ev tm (AJ c)))=some (B,v)):NT P ρ μ a o w id B v:=by
 obtain ⟨zv,h1,N⟩:=E4 (w:=w) (ρ:=ρ) (μ:=μ) hz
 unfold MK at h
 obtain ⟨x,hl,h⟩:=Ac h
 obtain ⟨d,hc,h⟩:=Ac h
 obtain ⟨g,h⟩:=Ap h
 rw [aT,AX,AX]at g
 simp only [oI,Prod.mk.injEq]at h
 obtain ⟨rfl,rfl⟩:=h
 obtain ⟨k1,Q⟩:=Cv hl (As R l)
 obtain ⟨k2,O⟩:=Cv hc (As R c)
 have q:(typeInfo e).run P w=.ok i w:=by simp [typeInfo,hi]
 have hs:(sizeOf e).run P w=.ok i.size w:=by simp [sizeOf,q]
 have C:∀(m:Nat) (j:Aq),j id=some (w.heap.size,0,m)→Ag ρ j (.slice id 0 x d) (.slice (some ⟨w.heap.size,0,none⟩) x d):=fun m j u=>by
  simp only [Ag];exact ⟨_,_,_,u,rfl,g.1⟩
 have U:=wrap_small (n:=x) (by omega)
 have M:=wrap_small (n:=d) (by omega)
 have Z:i.bytes*d≤1048576*1048576:=Nat.mul_le_mul hb g.2
 have H:(((d:Int)<0) ||decide ((i.bytes:Int)*(d:Int)>2^48))=false:=by
  have:(i.bytes:Int)*(d:Int)=((i.bytes*d:Nat):Int):=by simp
  rw [this]
  simp
  omega
 have k:(((((d:Int)<0) ||decide ((i.bytes:Int)*(d:Int)>2^48)) ||decide ((x:Int)<0)) ||decide ((x:Int)>(d:Int)))=false:=by
  rw [H];simp;omega
 by_cases h0:d*i.size=0
 ·have D:=Ki N A d (y:=#[]) (fun h=>absurd h0 h)
  refine ⟨.cells _ e,_,?_,_,fun j g=>Fu D j g,fun j _ u=>C _ j u⟩
  simp only [execOp,J,Instr.makeSlice,Sem.run_bind,run_underlying X,Result.andThen_ok,Q,O,asInt,asIntOf,Sem.run_pure,q,U,M]
  rw [k]
  simp [hs,h0,Er]
 ·have D:=Ki N A d (y:=zv.cells) (fun _=>rfl)
  refine ⟨.cells _ e,_,?_,_,fun j g=>Fu D j g,fun j _ u=>C _ j u⟩
  simp only [execOp,J,Instr.makeSlice,Sem.run_bind,run_underlying X,Result.andThen_ok,Q,O,asInt,asIntOf,Sem.run_pure,q,U,M]
  rw [k]
  simp [hs,h0,h1,Er]
theorem XV {o:Oper} {t k e:TypeId} {r:Option Operand} (c:o.op=.makeMap t r) (g:P.underlying t=some (.map k e)) (u:r=none∨∃j n,r=some (.const (.int j n))) {id:Nat}:NT P ρ μ a o w id (.map [] 0) (.map id):=by
 refine ⟨.map #[] 0,.map (some w.heap.size),?_,0,fun q _=>⟨rfl,#[],rfl,by simp only [Cb]⟩,fun q _ d=>by simp only [Ag];exact ⟨_,d,rfl⟩⟩
 rcases u with rfl|⟨j,n,rfl⟩
 ·simp [execOp,c,Instr.makeMap]
 ·simp [execOp,c,Instr.makeMap,run_underlying g,Act.eval,asInt,asIntOf]
theorem OY (M:Bf ρ μ tm a) {pl:List C3} {o:Oper} {q:AOp} (hc:D6 P pl o=some (.a q)) {id:Nat} {B:Block} {v:Aa} (h:XU tm id q=some (B,v)):NT P ρ μ a o w id B v:=by
 cases hop:o.op<;>simp only [D6,hop,reduceCtorEq,oI,DO.a.injEq]at hc
 case alloc t=>
  obtain ⟨z,C,e⟩:=mS hc
  simp only [DO.a.injEq]at e
  subst e
  have h:some (KQ (RH P t) z,Aa.ptr id 0)=some (B,v):=h
  simp only [oI,Prod.mk.injEq]at h
  obtain ⟨rfl,rfl⟩:=h
  exact Uv hop C
 case box t x=>
  subst hc
  obtain ⟨cs,D,h⟩:=Ac h
  simp only [oI,Prod.mk.injEq]at h
  obtain ⟨rfl,rfl⟩:=h
  exact XW hop M D
 case buildSlice t len parts=>
  split at hc
  ·rename_i e A
   split at hc
   ·rename_i n z J C
    split at hc
    ·rename_i g
     obtain ⟨ps,Q,e⟩:=mS hc
     simp only [DO.a.injEq]at e
     subst e
     obtain ⟨cs,D,h⟩:=Ac h
     simp only [oI,Prod.mk.injEq]at h
     obtain ⟨rfl,rfl⟩:=h
     simp only [aT,decide_eq_true_eq,beq_iff_eq]at g
     exact Q9 hop M A J C g.1 g.2 Q D
    ·cases hc
   ·cases hc
  ·cases hc
 case makeSlice t l c=>
  split at hc
  ·rename_i e A
   split at hc
   ·rename_i i z N C
    split at hc
    ·rename_i g
     simp only [oI,DO.a.injEq]at hc
     subst hc
     simp only [aT,decide_eq_true_eq,beq_iff_eq]at g
     exact Oi hop M A N C g.1 g.2 h
    ·cases hc
   ·cases hc
  ·cases hc
 case makeMap t r=>
  have H:q=.mkMap→(∃k e,P.underlying t=some (.map k e))→(r=none∨∃j n,r=some (.const (.int j n)))→NT P ρ μ a o w id B v:=fun R A U=>by
   subst R
   have h:some (Block.map [] 0,Aa.map id)=some (B,v):=h
   simp only [oI,Prod.mk.injEq]at h
   obtain ⟨rfl,rfl⟩:=h
   obtain ⟨k,e,A⟩:=A
   exact XV hop A U
  split at hc
  ·rename_i k e A
   simp only [oI,DO.a.injEq]at hc
   exact H hc.symm ⟨_,_,A⟩ (.inl rfl)
  ·rename_i k e j n A
   simp only [oI,DO.a.injEq]at hc
   exact H hc.symm ⟨_,_,A⟩ (.inr ⟨_,_,rfl⟩)
  ·cases hc
 case call c=>
  exfalso
  unfold Fq at hc
  split at hc
  ·split at hc
   ·split at hc
    ·simp at hc
    ·split at hc
     ·split at hc<;>simp at hc
     ·split at hc
      ·split at hc<;>simp at hc
      ·cases hc
   ·cases hc
  ·simp at hc
  ·cases hc
  ·split at hc
   ·split at hc<;>simp at hc
   ·exfalso
    unfold EX at hc
    split at hc<;>first|cases hc|skip
    all_goals (split at hc<;>first|(cases hc;done) |(split at hc<;>simp at hc))
   ·exfalso
    split at hc<;>first|(cases hc;done) |(obtain ⟨_,_,e⟩:=mS hc;cases e)
   ·simp at hc
   ·simp at hc
   ·simp at hc
   ·simp at hc
   ·exfalso
    split at hc
    ·split at hc<;>simp at hc
    ·cases hc
   ·cases hc
 case convert s d x=>
  rcases CT hc with ⟨k0,k,hs,hd,e⟩|⟨hs,hd,e⟩|⟨t,n,hs,hd,J,e⟩|⟨u,n,hs,hd,J,e⟩|⟨el,hs,he,hd,e⟩<;>cases e
 case typeAssert x xt t ok=>
  obtain ⟨d,i,z,A,hd,N,C,e⟩:=Cu hc
  cases e
 case defer c=>
  obtain ⟨O,args,X⟩:=c
  cases O<;>simp at hc
 case makeFunc fn x c=>cases fn<;>simp at hc
 case binOp op t x y yt=>obtain ⟨_,_,e⟩:=mS hc;cases e
 case slice t x lo N mx=>
  exfalso
  split at hc
  ·simp at hc
  ·obtain ⟨_,_,e⟩:=mS hc;cases e
  ·split at hc
   ·obtain ⟨_,_,e⟩:=mS hc;cases e
   ·cases hc
  ·cases hc
 case build t parts=>
  exfalso
  split at hc
  ·split at hc
   ·obtain ⟨_,_,e⟩:=mS hc;cases e
   ·cases hc
  ·obtain ⟨_,_,hc⟩:=Option.bind_eq_some_iff.1 hc
   obtain ⟨_,_,e⟩:=mS hc;cases e
  ·cases hc
 case fieldAddr t x f=>
  exfalso
  split at hc
  ·obtain ⟨_,_,hc⟩:=Option.bind_eq_some_iff.1 hc
   split at hc<;>simp at hc
  ·cases hc
 case field t x f=>
  exfalso
  split at hc
  ·obtain ⟨_,_,hc⟩:=Option.bind_eq_some_iff.1 hc
   obtain ⟨_,_,e⟩:=mS hc;cases e
  ·cases hc
 all_goals
  exfalso
  first
   |(cases hc;done)
   |(split at hc<;>first|(cases hc;done) |(simp at hc;done) |(obtain ⟨_,_,e⟩:=mS hc;cases e;done) |(split at hc<;>first|(cases hc;done) |(simp at hc;done) |(obtain ⟨_,_,e⟩:=mS hc;cases e;done) |(split at hc<;>first|(cases hc;done) |(simp at hc;done) |(obtain ⟨_,_,e⟩:=mS hc;cases e;done))))
   |(obtain ⟨_,_,e⟩:=mS hc;cases e;done)
end
end Go.AM
end
section
namespace Go.AM
section
variable {P:Program} {Γ:Ao} {ρ:Env} {μ:Aq} {tm:Tr Aa} {a:Act} {w:World} {h:Al}
theorem setRow_other (w:World) (g i:Nat) (c:Array Value) (d:i≠g):(w.setRow g c).heap[i]?=w.heap[i]?:=by
 unfold World.setRow
 simp only [Array.getElem?_modify]
 rw [if_neg (Ne.symm d)]
theorem E8 (w:World) (g:Nat) (c cur:Array Value) (t:TypeId) (fr:Nat×Nat) (hg:w.heap[g]?=some (.cells cur t fr)):(w.setRow g c).heap[g]?=some (.cells c t fr):=by
 unfold World.setRow
 simp only [Array.getElem?_modify]
 rw [if_pos trivial,hg]
 rfl
theorem DU {r p:Nat} {c:Array Value} {e:TypeId} (L:List Value) (hg:w.heap[r]?=some (.cells c e (0,0))) (j:p+L.length≤c.size) (g:∀v∈L,v.oneCell'=true):
  ∃d:Array Value,(storeCells ⟨r,p,none⟩ L).run P w=.ok () (w.setRow r d)∧d.size=c.size∧∀k,d[k]?=if p≤k∧k<p+L.length then L[k-p]? else c[k]?:=by
 refine ⟨_,run_storeCells_at P r p e L 0 c w hg (by omega) g,?_,fun k=>?_⟩
 ·simp;omega
 ·simp only [Nat.add_zero,List.getElem?_toArray]
  rw [List.append_assoc]
  have hl:(c.toList.take p).length=p:=by simp;omega
  by_cases hk:k<p
  ·rw [List.getElem?_append_left (by omega),List.getElem?_take,if_pos hk,if_neg (by omega)]
   simp
  ·rw [List.getElem?_append_right (by omega),hl]
   by_cases hk2:k<p+L.length
   ·rw [List.getElem?_append_left (by omega),if_pos (by omega)]
   ·rw [List.getElem?_append_right (by omega),List.getElem?_drop,if_neg (by omega)]
    rw [Array.getElem?_toList]
    congr 1
    omega
theorem Ay.one:∀{as:List Aa} {vs:List Value},Ay ρ μ as vs→∀v∈vs,v.oneCell'=true
 |[],_,e,v,hv=>by simp only [Ay]at e;subst e;cases hv
 |_::_,_,e,v,hv=>by
  simp only [Ay]at e
  obtain ⟨u,rest,rfl,⟨hs,c⟩,h⟩:=e
  cases hv with
  |head=>exact c.Q1 hs
  |tail _ hv=>exact Ay.one h v hv
theorem AO.Af0 (H:AO ρ μ h w) {b:Nat} {vs:List Aa} {r δ m:Nat} {c:Array Value} {e:TypeId} (d:δ+m≤c.size) (hc:∀(i:Nat) (x:Aa),vs[i]?=some x→∃v,c[δ+i]?=some v∧x.single=true∧Ag ρ μ x v):δ+vs.length≤c.size:=by
 cases hl:vs.length with
 |zero=>omega
 |succ n=>
  obtain ⟨v,hv,_⟩:=hc n _ (List.getElem?_eq_getElem (by omega))
  have:=(Array.getElem?_eq_some_iff.1 hv).1
  omega
theorem Hs (H:AO ρ μ h w) {b o:Nat} {vs d new:List Aa} {L:List Value} (hb:cellsOf (h.get b)=some vs) (C:Ay ρ μ new L) (hs:splice new o vs=some d):
  ∃r δ m,μ b=some (r,δ,m)∧∃w',(storeCells ⟨r,δ+o,none⟩ L).run P w=.ok () w'∧∀q,(q=.cells d∨q=AdL (h.get b) d)→Aw ρ μ h w μ (h.set b (some q)) w':=by
 obtain ⟨r,δ,m,c,e,J,D,O,hc⟩:=H.cells hb
 obtain ⟨B0,Q⟩:=Ly hb
 obtain ⟨h1,h2,X⟩:=Hz hs
 have hl:=C.length
 have aa:=H.Af0 (b:=b) (r:=r) (e:=e) O hc
 obtain ⟨z,N,ab,U⟩:=DU (P:=P) L D (p:=δ+o) (by omega) C.one
 refine ⟨r,δ,m,J,_,N,fun q R=>?_⟩
 have g:∀(i:Nat) (x:Aa),d[i]?=some x→∃v,z[δ+i]?=some v∧x.single=true∧Ag ρ μ x v:=fun i x hx=>by
  rw [X]at hx
  rw [U]
  split at hx
  ·rename_i M
   obtain ⟨v,hv,u,j⟩:=C.get hx
   refine ⟨v,?_,u,j⟩
   rw [if_pos (by omega),←hv]
   congr 1
   omega
  ·rename_i M
   obtain ⟨v,hv,u,j⟩:=hc i x hx
   refine ⟨v,?_,u,j⟩
   rw [if_neg (by omega)]
   exact hv
 refine Aw.change H Q J q (fun i M=>setRow_other _ _ _ _ M) (by simp) rfl rfl ?_
 rw [E8 _ _ _ _ _ _ D]
 have A:CI ρ μ (.cells d) (some (.cells z e (0,0))) (δ,m):=⟨z,e,rfl,by omega,g⟩
 rcases R with rfl|rfl
 ·exact A
 ·rcases EY hb with hb'|⟨t,hb'⟩
  ·rw [hb'];exact A
  ·rw [hb']
   obtain ⟨r2,⟨δ2,m2⟩,y,c2,k,⟨Z,ac⟩,_⟩:=H.blk b _ hb'
   rw [J]at y
   simp only [oI,Prod.mk.injEq]at y
   obtain ⟨rfl,rfl,rfl⟩:=y
   rw [D]at k
   simp only [oI,Obj.cells.injEq]at k
   obtain ⟨rfl,rfl,_⟩:=k
   exact ⟨z,rfl,⟨Z,by omega⟩,by omega,g⟩
def Kg (P:Program) (g:FuncId):Prop:=∃fn,P.funcs[g]?=some fn∧fn.body.isSome=true∧(fn.name== "runtime.NumGoroutine")=false
def KU (ρ:Env) (μ:Aq) (d:FuncId×List Aa) (c:Deferred):Prop:=
 ∃cap:Array Value,c.target=.fn (.func d.1) cap∧A9 ρ μ d.2 (c.args++cap).toList
def EJ (P:Program) (ρ:Env) (μ:Aq) (h:Al) (a:Act) (o:Oper) (w:World):Hl→Prop
 |.val v h'=>∃j u w' k,(execOp a.eval o).run P w=.ok j w'∧(j=.value u∨(j=.skip∧u=undef))∧Aw ρ μ h w k h' w'∧Ag ρ k v u
 |.call g args=>Kg P g→∃c:Array Value,(execOp a.eval o).run P w=.ok (.enter g c) w∧A9 ρ μ args c.toList
 |.panic v=>∃u,(execOp a.eval o).run P w=.halt (.panic u) w∧Ag ρ μ v u
 |.defer g args=>∃d,(execOp a.eval o).run P w=.ok (.defer d) w∧KU ρ μ (g,args) d
theorem UY {o:Oper} {t:TypeId} {p x:Operand} (M:o.op=.store t p x) (H:AO ρ μ h w) (A:Bf ρ μ tm a) {n:Nat} (J:Bj P t=some n) {q:Al} (hs:TB h n (ev tm (AJ p)) (ev tm (AJ x))=some q):
  EJ P ρ μ h a o w (.val .any q):=by
 have u:=As A p
 have hx:=As A x
 unfold TB at hs
 split at hs
 ·rename_i b Q O
  obtain ⟨vs,z,hs⟩:=Ac hs
  obtain ⟨R,hf,hs⟩:=Ac hs
  simp only [oI]at hs
  subst hs
  rw [O]at u
  obtain ⟨X,U,Z,c,D⟩:=u.ptr
  unfold FG at hf
  obtain ⟨new,g,hf⟩:=Ac hf
  obtain ⟨j,hf⟩:=Ap hf
  have d:=hx.cells g
  obtain ⟨r,δ,m,N,w',k,hg⟩:=Hs (P:=P) H z d hf
  have hg:=hg _ (.inr rfl)
  rw [N]at c
  simp only [oI,Prod.mk.injEq]at c
  obtain ⟨rfl,rfl,rfl⟩:=c
  have v:(a.eval x).cells.size=n:=by
   have C:=An.1 j
   rw [JJ]at C
   rw [←C]
   simpa using d.length.symm
  have y:=B4 (w:=w) J
  refine ⟨.skip,undef,w',μ,?_,.inr ⟨rfl,rfl⟩,hg,trivial⟩
  simp [execOp,M,Instr.storeAt,D,Instr.sureAddr,storeVar,y,v,k]
 ·cases hs
theorem Vg {f:Aa} {args:List Aa} {r:FuncId×List Aa} (h:ND f args=some r):∃first cap,f=.func r.1 first cap∧r.2=first++(args++cap):=by
 unfold ND at h
 split at h
 ·rename_i g first cap
  simp only [oI]at h
  subst h
  exact ⟨first,cap,rfl,rfl⟩
 ·cases h
theorem GW {g:FuncId} (hf:Kg P g) (args:Array Value):(callFunc g args).run P w=.ok (.enter g args) w:=by
 obtain ⟨fn,k,j,d⟩:=hf
 have c:fn.body.isNone=false:=by cases hb:fn.body<;>simp [hb]at j⊢
 simp only [callFunc,Sem.run_bind,run_program,Result.andThen_ok,k,d,c]
 simp
theorem J9 {c:Call} {x:Operand} (g:c.callee=.value x) (j:Bf ρ μ tm a) {t:TypeId} {r:FuncId×List Aa} (h:ND (ev tm (AJ x)) (RC tm (Cg c.args.toList))=some r):
  ∃d cap:Array Value,(resolve a.eval c t).run P w=.ok {target:=.fn (.func r.1) cap,args:=d} w∧A9 ρ μ r.2 (d++cap).toList:=by
 obtain ⟨first,cap,y,u⟩:=Vg h
 have hx:=As j x
 rw [y]at hx
 obtain ⟨q,v,o,hf,k⟩:=hx.func
 refine ⟨q++c.args.map a.eval,v,?_,?_⟩
 ·simp [resolve,g,o,Deferred.ofValue]
 ·rw [u]
  simp only [Array.toList_append,Array.toList_map,List.append_assoc]
  exact hf.append ((Gi j _).append k)
theorem P6 {o:Oper} {c:Call} {x:Operand} (v:o.op=.call c) (g:c.callee=.value x) (j:Bf ρ μ tm a) {r:FuncId×List Aa} (k:ND (ev tm (AJ x)) (RC tm (Cg c.args.toList))=some r):
  EJ P ρ μ h a o w (.call r.1 r.2):=fun hf=>by
 obtain ⟨d,cap,u,q⟩:=J9 (P:=P) (w:=w) (t:=o.type) g j k
 refine ⟨d++cap,?_,q⟩
 simp only [execOp,v,Sem.run_bind,u,Result.andThen_ok,invoke]
 exact GW hf _
theorem Vb {o:Oper} {c:Call} {x:Operand} (u:o.op=.defer c) (g:c.callee=.value x) (j:Bf ρ μ tm a) {r:FuncId×List Aa} (v:ND (ev tm (AJ x)) (RC tm (Cg c.args.toList))=some r):
  EJ P ρ μ h a o w (.defer r.1 r.2):=by
 obtain ⟨d,cap,q,k⟩:=J9 (P:=P) (w:=w) (t:=o.type) g j v
 refine ⟨{target:=.fn (.func r.1) cap,args:=d},?_,cap,rfl,k⟩
 simp only [execOp,u,Sem.run_bind,q,Result.andThen_ok]
 rfl
theorem UZ {o:Oper} {x:Operand} (j:o.op=.panic x) (g:Bf ρ μ tm a) {r:Hl} (c:Uk (ev tm (AJ x))=some r):EJ P ρ μ h a o w r:=by
 have hx:=As g x
 unfold Uk at c
 split at c
 ·rename_i t v k
  simp only [oI]at c
  subst c
  rw [k]at hx
  have d:=hx
  obtain ⟨u,q,_⟩:=hx.iface
  exact ⟨a.eval x,by simp [execOp,j,Instr.panic,q],d⟩
 ·cases c
theorem Ve (fn:Func) (c:fn.name= "maps.clone") (d:fn.origin= ""):Extern.findNext fn=none∧Extern.find fn=some Extern.MapsClone.clone:=by
 have j:Extern.allNextRows.lookup "maps.clone" =none:=by kernel_rfl
 have a2:Extern.allNextRows.lookup "" =none:=by kernel_rfl
 have k:Extern.allGenericRows.lookup "maps.clone" =none:=by kernel_rfl
 have o:Extern.allTypedRows.lookup "maps.clone" =none:=by kernel_rfl
 have g:Extern.allRows.lookup "maps.clone" =some Extern.MapsClone.clone:=by kernel_rfl
 refine ⟨?_,?_⟩
 ·unfold Extern.findNext
  rw [c,d]
  simp [j,a2]
 ·unfold Extern.find
  rw [c]
  simp [k,o,g]
theorem Up (fn:Func) (c:fn.name= "internal/abi.NoEscape") (d:fn.origin= ""):Extern.findNext fn=none∧Extern.find fn=some Extern.AbiNoEscape.same:=by
 have j:Extern.allNextRows.lookup "internal/abi.NoEscape" =none:=by kernel_rfl
 have a2:Extern.allNextRows.lookup "" =none:=by kernel_rfl
 have k:Extern.allGenericRows.lookup "internal/abi.NoEscape" =none:=by kernel_rfl
 have o:Extern.allTypedRows.lookup "internal/abi.NoEscape" =none:=by kernel_rfl
 have g:Extern.allRows.lookup "internal/abi.NoEscape" =some Extern.AbiNoEscape.same:=by kernel_rfl
 refine ⟨?_,?_⟩
 ·unfold Extern.findNext
  rw [c,d]
  simp [j,a2]
 ·unfold Extern.find
  rw [c]
  simp [k,o,g]
theorem Va {o:Oper} {c:Call} {f:FuncId} {x:Operand} {fn:Func} (A:o.op=.call c) (k:c.callee=.value (.func f)) (g:c.args=#[x]) (hf:P.funcs[f]?=some fn) (hb:fn.body.isSome=false) (d:fn.name= "internal/abi.NoEscape") (q:fn.origin= "")
  (H:AO ρ μ h w) (C:Bf ρ μ tm a) {r:Hl} (j:Uq h (ev tm (AJ x))=some r):EJ P ρ μ h a o w r:=by
 have hx:=As C x
 unfold Uq at j
 simp only [oI]at j
 subst j
 refine ⟨.value (a.eval x),a.eval x,w,μ,?_,.inl rfl,Aw.refl H,hx⟩
 obtain ⟨n1,n2⟩:=Up fn d q
 have v:(fn.name== "runtime.NumGoroutine")=false:=by rw [d];rfl
 have u:fn.body.isNone=true:=by cases hbb:fn.body<;>simp [hbb]at hb⊢
 have y:(Extern.AbiNoEscape.same #[a.eval x]).run P w=.ok (a.eval x) w:=by
  have e:Extern.AbiNoEscape.same #[a.eval x]=pure (a.eval x):=rfl
  rw [e];rfl
 have z:a.eval (.func f)=.func (.func f) #[] #[]:=rfl
 simp only [execOp,A,resolve,k,g,List.map_toArray,List.map_cons,List.map_nil,z,Deferred.ofValue,Sem.run_bind,Sem.run_pure,Result.andThen_ok,invoke,callFunc,run_program,hf,v,u,n1,n2,run_mark]
 simp [y]
theorem Vc {o:Oper} {c:Call} {f:FuncId} {x:Operand} {fn:Func} (ho:o.op=.call c) (C:c.callee=.value (.func f)) (z:c.args=#[x]) (hf:P.funcs[f]?=some fn) (hb:fn.body.isSome=false) (v:fn.name= "maps.clone") (J:fn.origin= "")
  (H:AO ρ μ h w) (hT:Bf ρ μ tm a) {r:Hl} (j:Vf h (ev tm (AJ x))=some r):EJ P ρ μ h a o w r:=by
 have hx:=As hT x
 unfold Vf at j
 split at j
 ·rename_i t b e1
  rw [e1]at hx
  obtain ⟨u,Z,hu⟩:=hx.iface
  obtain ⟨g,hg,rfl⟩:=hu.Oh
  have key:∀(B:Block) (ms:Array MapEntry) (d:Nat),w.heap[g]?=some (.map ms d)→(∀A,μ.le A→CI ρ A B (some (.map ms d)) (0,0))→r=.val (.iface t (.map h.next)) (h.add B)→EJ P ρ μ h a o w r:=fun B ms d k hB hr=>by
   subst hr
   have N:=Aw.add H B (.map ms d) (0,0) hB
   refine ⟨.value (.iface t (.map (some w.heap.size))),_,_,_,?_,.inl rfl,N,?_⟩
   ·obtain ⟨n1,n2⟩:=Ve fn v J
    have R:(fn.name== "runtime.NumGoroutine")=false:=by rw [v];rfl
    have O:fn.body.isNone=true:=by cases hbb:fn.body<;>simp [hbb]at hb⊢
    have U:(Extern.MapsClone.clone #[.iface t (.map (some g))]).run P w=.ok (.iface t (.map (some w.heap.size))) (w.alloc (.map ms d)):=by
     have e:Extern.MapsClone.clone #[.iface t (.map (some g))]=(getObj g>>=fun o=>match o with
      |.map entries clock=>(newObj (.map entries clock)>>=fun n=>pure (.iface t (.map (some n))))
      |_=>stuck "maps.clone: a map expected"):=rfl
     have Q:(getObj g).run P w=.ok (.map ms d) w:=by simp [getObj,Sem.run,k]
     rw [e]
     simp [Q]
    have M:a.eval (.func f)=.func (.func f) #[] #[]:=rfl
    simp only [execOp,ho,resolve,C,z,List.map_toArray,List.map_cons,List.map_nil,Z,M,Deferred.ofValue,Sem.run_bind,Sem.run_pure,Result.andThen_ok,invoke,callFunc,run_program,hf,R,O,n1,n2,run_mark]
    simp [U]
   ·simp only [Ag]
    exact ⟨_,rfl,_,Aq.BQ _ _ _,rfl⟩
  unfold Aba at j
  split at j
  ·rename_i i hi
   simp only [oI]at j
   obtain ⟨X,ms,d,q,k,D⟩:=H.smap (E7 hi)
   rw [hg]at q
   simp only [oI,Prod.mk.injEq]at q
   obtain ⟨rfl,_⟩:=q
   exact key (.smap i) ms d k (fun A y=>⟨rfl,ms,d,rfl,Jp.mono y.Bg D⟩) j.symm
  ·obtain ⟨m,hm,j⟩:=Ac j
   simp only [oI]at j
   obtain ⟨X,ms,q,k,D⟩:=H.map (DC hm)
   rw [hg]at q
   simp only [oI,Prod.mk.injEq]at q
   obtain ⟨rfl,_⟩:=q
   exact key (.map m.1 m.2) ms m.2 k (fun A y=>⟨rfl,ms,rfl,D.mono y⟩) j.symm
 ·cases j
theorem J6 {kk:LK} {x y:Aa} {u v:Value} (hx:Ag ρ μ x u) (c:Ag ρ μ y v) (h:Pn kk x y=some true):Instr.sameBits 10000 v u=true:=by
 unfold Pn at h
 split at h
 ·obtain ⟨g,d⟩:=Ap h
  simp only [oI]at d
  rw [hx.int,c.int,Dq.1 g,QJ.1 d]
  simp [Instr.sameBits]
 ·simp only [oI]at h
  obtain ⟨s,rfl,j⟩:=hx.str
  obtain ⟨k,rfl,o⟩:=c.str
  have:s=k:=Ko (by rw [j,o];exact DA.1 h)
  subst this
  simp only [Instr.sameBits]
  rw [beq_toListBytes];simp
 ·simp only [oI,beq_eq,beq_iff_eq]at h
  subst h
  rw [hx.bool,c.bool]
  simp [Instr.sameBits]
 ·cases h
theorem Me {kk:LK} {d:TypeDesc} (O:kk.fits d) {k v:Aa} {x J:Value} {c:Nat} (q:Ag ρ μ k x) (D:k.single=true) (z:Ag ρ μ v J):∀{y g:List Entry} {new:Bool} {ms:List MapEntry} (n:Nat),Cb ρ μ y ms→Aem kk k v c y=some (g,new)→
  (new=true∧Instr.findNow d x ms n=some none∧Cb ρ μ g (ms++[{key:=x,val:=J,born:=c}]))∨
  (new=false∧∃i M m,Instr.findNow d x ms n=some (some (n+i,M))∧ms[i]?=some m∧Instr.sameBits 10000 m.key x=true∧Cb ρ μ g (ms.modify i fun e=>{e with key:=x,val:=J}))
 |[],g,new,ms,n,he,h=>by
  simp only [Cb]at he
  subst he
  have h:some ([⟨k,v,c⟩],true)=some (g,new):=h
  simp only [oI,Prod.mk.injEq]at h
  obtain ⟨rfl,rfl⟩:=h
  left
  refine ⟨rfl,rfl,?_⟩
  simp only [Cb,List.nil_append]
  exact ⟨_,_,rfl,⟨D,q,z,rfl⟩,rfl⟩
 |e::y,g,new,ms,n,he,h=>by
  simp only [Cb]at he
  obtain ⟨m,rest,rfl,⟨hs,j,C,o⟩,u⟩:=he
  have h:(AF (Pn kk k e.key) fun b=>bif b then some (⟨k,v,e.born⟩::y,false)else AF (Aem kk k v c y) fun r=>some (e::r.1,r.2))=some (g,new):=h
  obtain ⟨b,hb,H⟩:=Ac h
  have A:=Oe O q j hb
  cases b with
  |true=>
   simp only [cond_true,oI,Prod.mk.injEq]at H
   obtain ⟨rfl,rfl⟩:=H
   right
   refine ⟨rfl,0,m.val,m,by simp [Instr.findNow,A],rfl,?_,?_⟩
   ·exact J6 q j hb
   ·simp only [List.modify_zero_cons,Cb]
    exact ⟨_,_,rfl,⟨D,q,z,o⟩,u⟩
  |false=>
   simp only [cond_false]at H
   obtain ⟨r,P,N⟩:=Ac H
   simp only [oI,Prod.mk.injEq]at N
   obtain ⟨rfl,rfl⟩:=N
   rcases Me O q D z (n+1) u P with ⟨e1,e2,e3⟩|⟨e1,i,M,m',e2,e3,e4,e5⟩
   ·left
    refine ⟨e1,by simp [Instr.findNow,A,e2],?_⟩
    simp only [List.cons_append,Cb]
    exact ⟨_,_,rfl,⟨hs,j,C,o⟩,e3⟩
   ·right
    refine ⟨e1,i+1,M,m',by simp [Instr.findNow,A,e2];omega,by simpa using e3,e4,?_⟩
    simp only [List.modify_succ_cons,Cb]
    exact ⟨_,_,rfl,⟨hs,j,C,o⟩,e5⟩
end
end Go.AM
end
section
namespace Go.AM
section
variable {ρ:Env} {μ:Aq} {Bg:Nat→Option Obj} {a b:Array Value}
theorem AW.congr:∀{ps:List PV} {δ c:Nat},(∀i,i<ps.length→b[c+i]?=a[δ+i]?)→AW Bg a δ ps→AW Bg b c ps
 |[],_,_,_,_=>by simp only [AW]
 |p::ps,δ,c,h,e=>by
  simp only [AW]at e⊢
  obtain ⟨⟨u,g,j⟩,d⟩:=e
  refine ⟨⟨u,?_,j⟩,AW.congr (δ:=δ+1) (fun i k=>?_) d⟩
  ·have:=h 0 (by simp)
   simpa [g]using this
  ·have:=h (i+1) (by simp;omega)
   rw [show c+1+i=c+(i+1) by omega,this,show δ+1+i=δ+(i+1) by omega]
theorem AW.values:∀{ps:List PV} {δ:Nat},AW Bg a δ ps→∃l:List Value,l.length=ps.length∧(∀j v,l[j]?=some v→a[δ+j]?=some v)∧∀j,j<ps.length→a[δ+j]?=l[j]?
 |[],δ,_=>⟨[],rfl,fun j v h=>by simp at h,fun j h=>by simp at h⟩
 |p::ps,δ,e=>by
  simp only [AW]at e
  obtain ⟨⟨u,c,q⟩,d⟩:=e
  obtain ⟨l,k,g,o⟩:=AW.values d
  refine ⟨u::l,by simp [k],fun j v h=>?_,fun j h=>?_⟩
  ·cases j with
   |zero=>simp only [List.getElem?_cons_zero,oI]at h;subst h;exact c
   |succ j=>rw [show δ+(j+1)=δ+1+j by omega];exact g j v (by simpa using h)
  ·cases j with
   |zero=>simpa using c
   |succ j=>
    rw [show δ+(j+1)=δ+1+j by omega,o j (by simp at h;omega)]
    simp
theorem Ag.freeze {x:Aa} {p:PV} {v:Value} (hd:Vy ρ (loose x) p) (h:Ag ρ μ x v):I0 μ.Bg p v:=by
 cases x<;>simp only [loose,Vy,LR]at hd
 case nilSlice=>
  obtain ⟨c,rfl⟩:=hd
  have e:v=.slice none 0 0:=by simpa only [Ag]using h
  simp only [I0]
  exact ⟨0,Nat.le_refl _,.inl ⟨trivial,none,e⟩⟩
 case bool|int|nilPtr=>subst hd;simp only [I0];simpa only [Ag]using h
 case str=>subst hd;simp only [I0];exact h.str
 case svar=>subst hd;simp only [I0];exact h.svar
 case lst f i c n=>
  obtain ⟨_,rfl,_⟩:=hd
  exact h.lst.1
theorem Ay.freeze:∀{c:List Aa} {vs:List Value} {ps:List PV} {δ:Nat},CP ρ (CU c) ps→Ay ρ μ c vs→(∀i v,vs[i]?=some v→a[δ+i]?=some v)→AW μ.Bg a δ ps
 |[],vs,ps,δ,hd,h,ha=>by
  have hd:ps=[]:=hd
  subst hd
  simp only [AW]
 |x::c,vs,ps,δ,hd,h,ha=>by
  have hd:∃p rest,ps=p::rest∧Vy ρ (loose x) p∧CP ρ (CU c) rest:=hd
  obtain ⟨p,rest,rfl,k,j⟩:=hd
  simp only [Ay]at h
  obtain ⟨v,q,rfl,⟨_,d⟩,g⟩:=h
  simp only [AW]
  refine ⟨⟨v,by simpa using ha 0 v rfl,d.freeze k⟩,Ay.freeze j g fun i u o=>?_⟩
  rw [show δ+1+i=δ+(i+1) by omega]
  exact ha (i+1) u (by simpa using o)
theorem CP.length:∀{c:List Aa} {ps:List PV},CP ρ c ps→c.length=ps.length
 |[],ps,h=>by have h:ps=[]:=h;subst h;rfl
 |x::c,ps,h=>by
  have h:∃p rest,ps=p::rest∧Vy ρ x p∧CP ρ c rest:=h
  obtain ⟨p,rest,rfl,_,d⟩:=h
  simp [CP.length d]
theorem CP.append:∀{g d:List Aa} {ps c:List PV},CP ρ g ps→CP ρ d c→CP ρ (g++d) (ps++c)
 |[],d,ps,c,h,h'=>by have h:ps=[]:=h;subst h;exact h'
 |x::g,d,ps,c,h,h'=>by
  have h:∃p rest,ps=p::rest∧Vy ρ x p∧CP ρ g rest:=h
  obtain ⟨p,rest,rfl,k,j⟩:=h
  exact ⟨p,rest++c,rfl,k,CP.append j h'⟩
theorem Eg.flat:∀{c:List (List Aa)} {ps:List (List PV)},Eg ρ c ps→CP ρ c.flatten ps.flatten∧c.length=ps.length∧∀n,(∀x∈c,x.length=n)→∀p∈ps,p.length=n
 |[],ps,h=>by have h:ps=[]:=h;subst h;exact ⟨rfl,rfl,fun _ _ _ k=>by cases k⟩
 |x::c,ps,h=>by
  have h:∃p rest,ps=p::rest∧CP ρ x p∧Eg ρ c rest:=h
  obtain ⟨p,rest,rfl,j,v⟩:=h
  obtain ⟨o,z,u⟩:=Eg.flat v
  refine ⟨?_,by simp [z],fun n g q d=>?_⟩
  ·rw [List.flatten_cons,List.flatten_cons];exact j.append o
  ·rcases List.mem_cons.1 d with rfl|d
   ·rw [←j.length];exact g x List.mem_cons_self
   ·exact u n (fun y A=>g y (List.mem_cons_of_mem _ A)) q d
theorem FN:∀{l:List Aa},(CU l).length=l.length
 |[]=>rfl
 |v::r=>by show (CU r).length+1=_;rw [FN];rfl
theorem Tl (size:Nat) (cs:List Aa):HW size 0 cs=match cs with|[]=>some []|_::_=>none:=by cases cs<;>rfl
theorem Tm (size n:Nat) (cs:List Aa):HW size (n+1) cs=AF (taken size cs) fun c=>AF (HW size n (dropped size cs)) fun r=>some (c::r):=rfl
theorem DM {size:Nat}:∀{n:Nat} {cs:List Aa} {d:List (List Aa)},HW size n cs=some d→d.flatten=cs∧d.length=n∧∀x∈d,x.length=size
 |0,cs,d,h=>by
  rw [Tl]at h
  split at h
  ·simp only [oI]at h;subst h;exact ⟨rfl,rfl,fun _ h=>by cases h⟩
  ·cases h
 |n+1,cs,d,h=>by
  rw [Tm]at h
  obtain ⟨c,hc,h⟩:=Ac h
  obtain ⟨r,j,h⟩:=Ac h
  simp only [oI]at h
  subst h
  obtain ⟨o,k,q⟩:=DM j
  obtain ⟨g,u⟩:=Gq hc
  refine ⟨?_,by simp [k],fun x hx=>?_⟩
  ·rw [List.flatten_cons,o,g,Ji];exact List.take_append_drop _ _
  ·rcases List.mem_cons.1 hx with rfl|hx
   ·rw [g,lT'];omega
   ·exact q x hx
theorem JR (Γ:Ao) (i c k:Nat):JS Γ i c 0 k=some []:=rfl
theorem QX (Γ:Ao) (i c n k:Nat):JS Γ i c (n+1) k=AF (Pg i (.lit (.ofNat k)) Γ.elems) fun cs=>bif Nat.beq (Ad cs) c then AF (JS Γ i c n (k+1)) fun r=>some (cs++r)else none:=rfl
theorem JQ {Γ:Ao} (q:Γ.AL ρ) {i g:Nat} {l:List (List PV)} (hl:ρ.lst i=l) {δ:Nat} (y:BU μ.Bg g a δ l):∀{n k:Nat} {cs:List Aa},JS Γ i g n k=some cs→k+n≤l.length→
  cs.length=n*g∧∀j x,cs[j]?=some x→∃v,a[δ+k*g+j]?=some v∧x.single=true∧Ag ρ μ x v
 |0,k,cs,h,hk=>by
  rw [JR]at h
  simp only [oI]at h
  subst h
  exact ⟨by simp,fun j x h=>by simp at h⟩
 |n+1,k,cs,h,hk=>by
  rw [QX]at h
  obtain ⟨c,hc,h⟩:=Ac h
  obtain ⟨d,h⟩:=Ap h
  obtain ⟨r,u,h⟩:=Ac h
  simp only [oI]at h
  subst h
  have d:=An.1 d
  rw [JJ]at d
  obtain ⟨A,C⟩:=JQ q hl y u (by omega)
  obtain ⟨ps,_,o,z⟩:=q.elems _ (Io hc)
  have o:(ρ.lst i)[k]?=some ps:=o
  rw [hl]at o
  obtain ⟨M,H⟩:=y.get k ps o
  obtain ⟨J,D⟩:=AW.T6 z H
  refine ⟨by rw [lA,A,d,Nat.add_mul];omega,fun j x hx=>?_⟩
  by_cases hj:j<c.length
  ·rw [List.getElem?_append_left hj]at hx
   exact D j x hx
  ·rw [List.getElem?_append_right (by omega)]at hx
   obtain ⟨v,hv,hs⟩:=C _ x hx
   refine ⟨v,?_,hs⟩
   rw [←hv,d]
   congr 1
   rw [Nat.add_mul];rw [d]at hj;omega
theorem OB:∀(l:List Aa),taken l.length l=some l
 |[]=>rfl
 |x::l=>by show (AF (taken l.length l) fun r=>some (x::r))=_;rw [OB l];rfl
theorem Xi (l:List Aa):cut l 0 l.length=some l:=OB l
end
section
variable {P:Program} {ρ:Env} {μ:Aq} {w:World} {h:Al}
theorem Pc (H:AO ρ μ h w) {f:Bool} {i g size n:Nat} {t:ST} {u:Value} {cs:List Aa} (hx:Ag ρ μ (.lst f i g t) u) (hs:Aes h.fx size i g t=some (n,cs)):
  cs.length=n*size∧((n=0∧cs=[]∧∃p c,u=.slice p 0 c)∨∃r δ c a e fr,u=.slice (some ⟨r,δ,none⟩) n c∧w.heap[r]?=some (.cells a e fr)∧∀j x,cs[j]?=some x→∃v,a[δ+j]?=some v∧x.single=true∧Ag ρ μ x v):=by
 unfold Aes at hs
 split at hs
 ·rename_i m
  obtain ⟨hc,hs⟩:=Ap hs
  obtain ⟨J,hg,hs⟩:=Ac hs
  simp only [oI,Prod.mk.injEq]at hs
  obtain ⟨rfl,rfl⟩:=hs
  have hc:=An.1 hc
  subst hc
  obtain ⟨p,c,k,_,q,y⟩:=hx.Et
  have q:(m:Int)=((ρ.lst i).length:Int):=q
  have o:(ρ.lst i).length=m:=by omega
  by_cases h0:m=0
  ·subst h0
   rw [JR]at hg
   simp only [oI]at hg
   subst hg
   exact ⟨by simp,.inl ⟨rfl,rfl,p,c,by rw [k,o]⟩⟩
  ·obtain ⟨r,δ,a,e,rfl,d,z⟩:=y (by omega)
   obtain ⟨A,C⟩:=JQ H.AY.facts rfl z hg (by omega)
   obtain ⟨fr,d⟩:=d
   refine ⟨A,.inr ⟨r,δ,c,a,e,fr,by rw [k,o],(H.AY.Bg _ _ d).1,fun j x D=>?_⟩⟩
   have:=C j x D
   simpa using this
 ·cases hs
theorem Kd {Γ:Al} {size n:Nat} {part:AR} {new:List Aa} {r:ST×Block} (d:Γ.fx.AL ρ) (c:Iu Γ size part n new=some r):
  ∃(j:Nat) (A B:List (List PV)),r.2=.list j size∧r.1.den ρ=((ρ.lst j).length:Int)∧(ρ.lst j).length≤1048576∧ρ.lst j=A++B∧FI ρ part A∧B.length=n∧(∀p∈B,p.length=size)∧CP ρ (CU new) B.flatten:=by
 unfold Iu at c
 obtain ⟨_,c⟩:=Ap c
 obtain ⟨N,o,c⟩:=Ac c
 obtain ⟨j,D,c⟩:=Ac c
 obtain ⟨t,M,c⟩:=Ac c
 obtain ⟨hb,c⟩:=Ap c
 simp only [oI]at c
 subst c
 obtain ⟨y,O,v⟩:=DM o
 obtain ⟨A,u,H,x,B,C,k,z,g⟩:=d.defs _ (Fc D)
 have g:C=[]:=g
 subst g
 rw [List.append_nil]at k
 subst k
 obtain ⟨q,P,J⟩:=Eg.flat z
 have hl:=d.Ad _ (CE M)
 have hl:t.den ρ=((ρ.lst j).length:Int):=hl
 have hb:=GA d hb
 have hb:t.den ρ≤1048576:=hb
 exact ⟨j,A,u,rfl,hl,by omega,H,x,by omega,J size v,by rw [y]at q;exact q⟩
theorem St {a b:Option (Aa×Al)} {r:Aa×Al} (h:orR a b=some r):a=some r∨b=some r:=by
 cases a with
 |none=>exact .inr h
 |some x=>exact .inl h
theorem B8.two {p:List AR} {q:AR}:∀{l:List (List PV)},B8 ρ (p++[q]) l→∃x y,l=x++y∧B8 ρ p x∧FI ρ q y:=by
 induction p with
 |nil=>
  intro l h
  obtain ⟨x,y,rfl,d,c⟩:=h
  have c:y=[]:=c
  subst c
  exact ⟨[],x,by simp,rfl,d⟩
 |cons z p ih=>
  intro l h
  obtain ⟨x,y,rfl,d,c⟩:=h
  obtain ⟨g,o,rfl,k,j⟩:=ih c
  exact ⟨x++g,o,(List.append_assoc _ _ _).symm,⟨x,g,rfl,d,k⟩,j⟩
theorem Ke {h:Al} {size n:Nat} {x:Aa} {new:List Aa} {r:Aa×Al} (d:h.fx.AL ρ) (c:LY h size x n new=some r):
  ∃(p:List AR) (j:Nat) (t:ST) (A B:List (List PV)),PD h size x=some p∧r=(.vec h.next size t,h.add (.list j size))∧t.den ρ=((ρ.lst j).length:Int)∧(ρ.lst j).length≤1048576∧ρ.lst j=A++B∧B8 ρ p A∧B.length=n∧(∀p∈B,p.length=size)∧CP ρ (CU new) B.flatten:=by
 unfold LY at c
 obtain ⟨_,c⟩:=Ap c
 obtain ⟨p,o,c⟩:=Ac c
 obtain ⟨J,g,c⟩:=Ac c
 obtain ⟨j,z,c⟩:=Ac c
 obtain ⟨t,H,c⟩:=Ac c
 obtain ⟨hb,c⟩:=Ap c
 simp only [oI]at c
 subst c
 obtain ⟨v,M,q⟩:=DM g
 obtain ⟨A,B,C,u,y⟩:=B8.two (d.defs _ (OR z))
 obtain ⟨k,N,D⟩:=Eg.flat y
 have hl:t.den ρ=((ρ.lst j).length:Int):=d.Ad _ (CE H)
 have hb:t.den ρ≤1048576:=GA d hb
 exact ⟨p,j,t,A,B,o,rfl,hl,by omega,C,u,by omega,D size q,by rw [v]at k;exact k⟩
end
end Go.AM
end
section
namespace Go.AM
section
variable {P:Program} {Γ:Ao} {ρ:Env} {μ:Aq} {tm:Tr Aa} {a:Act} {w:World} {h:Al}
theorem Gt {r:Nat} {ms:Array MapEntry} {k:Nat} (c:w.heap[r]?=some (.map ms k)) (o:Obj):(setObj r o).run P w=.ok () {w with heap:=w.heap.setIfInBounds r o}:=by
 simp [setObj,Sem.run,c]
theorem Md {Bg:Nat→Option Obj} {b:ByteArray} {x:Array Value} {ps:List PV} (hs:x.size=ps.length) (A:AW Bg x 0 ps):∀{l:List (List Nat×List PV)} {ms:List MapEntry} (n:Nat),Jp Bg l ms→
  (Instr.findNow .string (.string b) ms n=some none∧∀born,Jp Bg (Bn l (strOf b) ps) (ms++[{key:=.string b,val:=.agg x,born:=born}]))∨
  (∃i z m,Instr.findNow .string (.string b) ms n=some (some (n+i,z))∧ms[i]?=some m∧Instr.sameBits 10000 m.key (.string b)=true∧Jp Bg (Bn l (strOf b) ps) (ms.modify i fun e=>{e with key:=.string b,val:=.agg x}))
 |[],ms,n,j=>by
  have j:ms=[]:=j
  subst j
  exact .inl ⟨rfl,fun born=>⟨_,_,rfl,⟨b,rfl,rfl⟩,⟨x,rfl,hs,A⟩,rfl⟩⟩
 |e::es,ms,n,j=>by
  obtain ⟨m,rest,rfl,⟨k,g,c⟩,⟨y,C,v,u⟩,d⟩:=j
  have o:Instr.sameNow .string (.string b) m.key=some (decide (strOf b=e.1)):=by
   rw [g,←c]
   have:decide (strOf b=strOf k)=(b.toList==k.toList):=by rw [←CR,Bool.eq_iff_iff,DA];simp
   rw [this,←beq_toListBytes]
   simp [Instr.sameNow]
  by_cases hc:e.1=strOf b
  ·right
   refine ⟨0,m.val,m,by simp [Instr.findNow,o,hc],rfl,?_,?_⟩
   ·rw [g]
    have:k=b:=Ko (by rw [c,hc])
    subst this
    simp only [Instr.sameBits]
    rw [beq_toListBytes];simp
   ·simp only [List.modify_zero_cons,Bn,hc,if_true]
    exact ⟨_,_,rfl,⟨b,rfl,rfl⟩,⟨x,rfl,hs,A⟩,d⟩
  ·have q:¬strOf b=e.1:=fun h=>hc h.symm
   rcases Md (b:=b) hs A (n+1) d with ⟨h3,h4⟩|⟨i,z,m',h3,h4,h5,h6⟩
   ·left
    refine ⟨by simp [Instr.findNow,o,q,h3],fun born=>?_⟩
    simp only [Bn,if_neg hc,List.cons_append]
    exact ⟨_,_,rfl,⟨k,g,c⟩,⟨y,C,v,u⟩,h4 born⟩
   ·right
    refine ⟨i+1,z,m',by simp [Instr.findNow,o,q,h3];omega,by simpa using h4,h5,?_⟩
    simp only [List.modify_succ_cons,Bn,if_neg hc]
    exact ⟨_,_,rfl,⟨k,g,c⟩,⟨y,C,v,u⟩,h6⟩
theorem N2 {o:Oper} {t kt e:TypeId} {m k x:Operand} {kk:LK} (D:o.op=.mapUpdate t m k x∨o.op=.insert t m k x) (H:AO ρ μ h w) (hT:Bf ρ μ tm a) (hu:P.underlying t=some (.map kt e)) (hk:Ya P kt=some kk) {h':Al}
  (hs:Ut h kk (ev tm (AJ m)) (ev tm (AJ k)) (ev tm (AJ x))=some h'):EJ P ρ μ h a o w (.val .any h'):=by
 have hm:=As hT m
 have al:=As hT k
 have hx:=As hT x
 obtain ⟨d,hd,hf⟩:=Pm hk
 unfold Ut at hs
 split at hs
 ·rename_i b e1
  unfold Aar at hs
  split at hs
  ·rename_i i R
   obtain ⟨aw,Q⟩:=Ap hs
   clear hs
   obtain ⟨rfl,s,am⟩:=Lg (ρ:=ρ) aw
   have hf:d=.string:=hf
   subst hf
   obtain ⟨kb,U,rfl⟩:=BV am al
   unfold Aaq at Q
   split at Q
   ·rename_i cs aB
    obtain ⟨_,O⟩:=Ap Q
    obtain ⟨j,hj,O⟩:=Ac O
    simp only [oI]at O
    subst O
    obtain ⟨s',ps,X,q2,q3⟩:=H.AY.facts.LI _ (Pd hj)
    have X:Eo ρ (ev tm (AJ k))=some s':=X
    rw [am]at X
    simp only [oI]at X
    subst X
    have q2:CP ρ (CU cs) ps:=q2
    have q3:ρ.map j=Bn (ρ.map i) (strOf kb) ps:=q3
    rw [aB]at hx
    obtain ⟨xa,ex,an⟩:=hx.agg
    have au:xa.size=ps.length:=by
     have h1:=an.length
     have h2:=q2.length
     rw [FN]at h2
     simp at h1
     omega
    have aA:AW μ.Bg xa 0 ps:=Ay.freeze q2 an fun i v hv=>by simpa using hv
    rw [e1]at hm
    obtain ⟨g,hg,e2⟩:=hm.Oh
    obtain ⟨g',ms,M,A,q,he⟩:=H.smap (E7 R)
    rw [hg]at A
    simp only [oI,Prod.mk.injEq]at A
    obtain ⟨rfl,_⟩:=A
    have J:(getObj g).run P w=.ok (.map ms M) w:=by simp [getObj,Sem.run,q]
    have C:(Instr.checkKey false 10000 kt (a.eval k)).run P w=.ok () w:=GL hd (kk:=.str) rfl false 9999 _
    have ad:g<w.heap.size:=(Array.getElem?_eq_some_iff.1 q).1
    have z:∀(y:Array MapEntry) (cl:Nat),Jp μ.Bg (ρ.map j) y.toList→Aw ρ μ h w μ (h.set b (some (.smap j))) {w with heap:=w.heap.setIfInBounds g (.map y cl)}:=fun y cl ac=>by
     refine Aw.change H (E7 R) hg (.smap j) (fun i R=>?_) (by simp) rfl rfl ?_
     ·show (w.heap.setIfInBounds g _)[i]?=_
      rw [Array.getElem?_setIfInBounds_ne (Ne.symm R)]
     ·refine ⟨rfl,y,cl,?_,ac⟩
      show (w.heap.setIfInBounds g _)[g]?=_
      rw [Array.getElem?_setIfInBounds_self_of_lt ad]
    have run:∀(N:World),(Instr.mapUpdate t (a.eval m) (a.eval k) (a.eval x)).run P w=.ok () N→(execOp a.eval o).run P w=.ok .skip N:=fun N c=>by
     rcases D with D|D<;>simp [execOp,D,c]
    rcases Md (b:=kb) au aA 0 he with ⟨e4,e5⟩|⟨i',v0,m',e4,e5,e6,e7⟩
    ·rw [←U]at e4
     have u:=run_findKey (P:=P) (w:=w) hd e4
     have c:(Instr.mapUpdate t (a.eval m) (a.eval k) (a.eval x)).run P w=.ok () {w with heap:=w.heap.setIfInBounds g (.map (ms.push {key:=a.eval k,val:=a.eval x,born:=M}) (M+1))}:=by
      simp only [Instr.mapUpdate,Sem.run_bind,run_underlying hu,Result.andThen_ok,e2,J,C,u]
      exact Gt q _
     refine ⟨.skip,undef,_,μ,run _ c,.inr ⟨rfl,rfl⟩,?_,trivial⟩
     exact z _ _ (by rw [q3,U,ex];simpa using e5 M)
    ·rw [←U]at e4
     have u:=run_findKey (P:=P) (w:=w) hd e4
     rw [Nat.zero_add]at u
     have Z:ms[i']?=some m':=by simpa using e5
     have aa:(Instr.keyThatStays (((ms[i']?).map (·.key)).getD (a.eval k)) (a.eval k)).run P w=.ok (a.eval k) w:=by
      rw [Z]
      simp only [Option.map_some,Option.getD_some,Instr.keyThatStays]
      rw [if_pos (by rw [U];exact e6)]
      rfl
     have c:(Instr.mapUpdate t (a.eval m) (a.eval k) (a.eval x)).run P w=.ok () {w with heap:=w.heap.setIfInBounds g (.map (ms.modify i' fun e=>{e with key:=a.eval k,val:=a.eval x}) M)}:=by
      simp only [Instr.mapUpdate,Sem.run_bind,run_underlying hu,Result.andThen_ok,e2,J,C,u,aa]
      exact Gt q _
     refine ⟨.skip,undef,_,μ,run _ c,.inr ⟨rfl,rfl⟩,?_,trivial⟩
     exact z _ _ (by rw [q3,U,ex];simpa using e7)
   ·cases Q
  rename_i aJ
  obtain ⟨mm,ao,hs⟩:=Ac hs
  obtain ⟨ai,hs⟩:=Ap hs
  obtain ⟨r,hr,hs⟩:=Ac hs
  simp only [oI]at hs
  subst hs
  rw [e1]at hm
  obtain ⟨g,hg,e2⟩:=hm.Oh
  obtain ⟨g',ms,A,q,he⟩:=H.map (DC ao)
  rw [hg]at A
  simp only [oI,Prod.mk.injEq]at A
  obtain ⟨rfl,_⟩:=A
  have J:(getObj g).run P w=.ok (.map ms mm.2) w:=by simp [getObj,Sem.run,q]
  have C:(Instr.checkKey false 10000 kt (a.eval k)).run P w=.ok () w:=GL hd hf false 9999 _
  have ad:g<w.heap.size:=(Array.getElem?_eq_some_iff.1 q).1
  have z:∀(y:Array MapEntry) (cl:Nat),Cb ρ μ r.1 y.toList→Aw ρ μ h w μ (h.set b (some (.map r.1 cl))) {w with heap:=w.heap.setIfInBounds g (.map y cl)}:=fun y cl ac=>by
   refine Aw.change H (DC ao) hg (.map r.1 cl) (fun i R=>?_) (by simp) rfl rfl ?_
   ·show (w.heap.setIfInBounds g _)[i]?=_
    rw [Array.getElem?_setIfInBounds_ne (Ne.symm R)]
   ·refine ⟨rfl,y,?_,ac⟩
    show (w.heap.setIfInBounds g _)[g]?=_
    rw [Array.getElem?_setIfInBounds_self_of_lt ad]
  have run:∀(N:World),(Instr.mapUpdate t (a.eval m) (a.eval k) (a.eval x)).run P w=.ok () N→(execOp a.eval o).run P w=.ok .skip N:=fun N c=>by
   rcases D with D|D<;>simp [execOp,D,c]
  rcases Me hf al ai hx 0 he hr with ⟨e3,e4,e5⟩|⟨e3,i,v0,m',e4,e5,e6,e7⟩
  ·have u:=run_findKey (P:=P) (w:=w) hd e4
   have c:(Instr.mapUpdate t (a.eval m) (a.eval k) (a.eval x)).run P w=.ok () {w with heap:=w.heap.setIfInBounds g (.map (ms.push {key:=a.eval k,val:=a.eval x,born:=mm.2}) (mm.2+1))}:=by
    simp only [Instr.mapUpdate,Sem.run_bind,run_underlying hu,Result.andThen_ok,e2,J,C,u]
    exact Gt q _
   refine ⟨.skip,undef,_,μ,run _ c,.inr ⟨rfl,rfl⟩,?_,trivial⟩
   rw [e3]
   exact z _ _ (by simpa using e5)
  ·have u:=run_findKey (P:=P) (w:=w) hd e4
   rw [Nat.zero_add]at u
   have Z:ms[i]?=some m':=by simpa using e5
   have aa:(Instr.keyThatStays (((ms[i]?).map (·.key)).getD (a.eval k)) (a.eval k)).run P w=.ok (a.eval k) w:=by
    rw [Z]
    simp only [Option.map_some,Option.getD_some,Instr.keyThatStays]
    rw [if_pos e6]
    rfl
   have c:(Instr.mapUpdate t (a.eval m) (a.eval k) (a.eval x)).run P w=.ok () {w with heap:=w.heap.setIfInBounds g (.map (ms.modify i fun e=>{e with key:=a.eval k,val:=a.eval x}) mm.2)}:=by
    simp only [Instr.mapUpdate,Sem.run_bind,run_underlying hu,Result.andThen_ok,e2,J,C,u,aa]
    exact Gt q _
   refine ⟨.skip,undef,_,μ,run _ c,.inr ⟨rfl,rfl⟩,?_,trivial⟩
   rw [e3]
   exact z _ _ (by simpa using e7)
 ·cases hs
theorem FT (l:List UInt8):Ay ρ μ (byteCells (l.map (·.toNat))) (l.map fun b=>.int .u8 (b.toNat:Int)):=by
 induction l with
 |nil=>show Ay ρ μ [] [];simp only [Ay]
 |cons b l ih=>
  show Ay ρ μ (.int .u8 (.lit (.ofNat b.toNat))::byteCells (l.map (·.toNat))) _
  simp only [Ay,List.map_cons]
  exact ⟨_,_,rfl,⟨rfl,by simp only [Ag,ST.den];rfl⟩,ih⟩
theorem Dl (H:AO ρ μ h w) {size n:Nat} {bytes:Bool} {x:Aa} {u:Value} {cs:List Aa} (hx:Ag ρ μ x u) (hs:J2 h size bytes x=some (n,cs)):
  (Builtin.lenOf u).run P w=.ok n w∧cs.length=n*size∧∃L:Array Value,(Builtin.firstCells size n u).run P w=.ok L w∧Ay ρ μ cs L.toList:=by
 have key:∀(b g len r δ m c:Nat),Mm h size b g len=some (n,cs)→μ b=some (r,δ,m)→u=.slice (some ⟨r,δ+g,none⟩) len c→
   (Builtin.lenOf u).run P w=.ok n w∧cs.length=n*size∧∃L:Array Value,(Builtin.firstCells size n u).run P w=.ok L w∧Ay ρ μ cs L.toList:=fun b g len r δ m c hs q e=>by
  subst e
  unfold Mm at hs
  rw [AP]at hs
  by_cases h0:len=0
  ·rw [if_pos h0]at hs
   simp only [oI,Prod.mk.injEq]at hs
   obtain ⟨rfl,rfl⟩:=hs
   subst h0
   exact ⟨by simp [Builtin.lenOf],by simp,#[],by simp [Builtin.firstCells,loadCells,loadCellsFrom],by simp only [Ay]⟩
  ·rw [if_neg h0]at hs
   obtain ⟨vs,M,hs⟩:=Ac hs
   obtain ⟨Z,C,hs⟩:=Ac hs
   simp only [oI,Prod.mk.injEq]at hs
   obtain ⟨rfl,rfl⟩:=hs
   obtain ⟨X,O,U,R,Q,z,J,_,hc⟩:=H.cells M
   rw [q]at z
   simp only [oI,Prod.mk.injEq]at z
   obtain ⟨rfl,rfl,rfl⟩:=z
   obtain ⟨l,y,A,o⟩:=DL hc C
   have d:=run_loadCells_list (P:=P) (w:=w) ⟨r,δ+g,none⟩ l (fun j v hv=>by rw [Addr.Bl,Cy J];exact o j v hv)
   rw [y]at d
   exact ⟨by simp [Builtin.lenOf],(Ka C).1,l.toArray,by simp [Builtin.firstCells,d],by simpa using A⟩
 unfold J2 at hs
 split at hs
 ·obtain ⟨N,⟨rfl,rfl,p,c,rfl⟩|⟨r,δ,c,ar,e,_,rfl,J,hc⟩⟩:=Pc H hx hs
  ·cases p
   ·exact ⟨by simp [Builtin.lenOf],by simp,#[],by simp [Builtin.firstCells],by simp only [Ay]⟩
   ·exact ⟨by simp [Builtin.lenOf],by simp,#[],by simp [Builtin.firstCells,loadCells,loadCellsFrom],by simp only [Ay]⟩
  ·obtain ⟨l,y,A,o⟩:=DL hc (Xi cs)
   have d:=run_loadCells_list (P:=P) (w:=w) ⟨r,δ,none⟩ l (fun j v hv=>by rw [Addr.Bl,Cy J];simpa using o j v hv)
   rw [y,N]at d
   exact ⟨by simp [Builtin.lenOf],N,l.toArray,by simp [Builtin.firstCells,d],by simpa using A⟩
 ·simp only [oI,Prod.mk.injEq]at hs
  obtain ⟨rfl,rfl⟩:=hs
  have e:u=.slice none 0 0:=by simpa only [Ag]using hx
  subst e
  exact ⟨by simp [Builtin.lenOf],by simp,#[],by simp [Builtin.firstCells],by simp only [Ay]⟩
 ·obtain ⟨r,δ,m,q,e,_⟩:=hx.slice
  exact key _ _ _ _ _ _ _ hs q e
 ·obtain ⟨r,δ,m,c,q,e,_⟩:=hx.gslice
  exact key _ _ _ _ _ _ _ hs q e
 ·rename_i s
  obtain ⟨k,D⟩:=Ap hs
  clear hs
  have k:=An.1 k
  subst k
  simp only [oI,Prod.mk.injEq]at D
  obtain ⟨rfl,rfl⟩:=D
  obtain ⟨b,rfl,rfl⟩:=hx.str
  refine ⟨by simp [Builtin.lenOf,Dm,BL],?_,(b.data.map fun c=>.int .u8 c.toNat),?_,?_⟩
  ·have:=(FT (ρ:=ρ) (μ:=μ) b.data.toList).length
   unfold strOf
   rw [this,Dm];simp
  ·have:b.extract 0 (Iz (strOf b))=b:=by
    rw [Dm,BL]
    obtain ⟨⟨l⟩⟩:=b
    have:=ByteArray.extract_mk l 0 l.length
    rw [show (⟨⟨l⟩⟩:ByteArray)=ByteArray.mk l.toArray from rfl]
    rw [show (ByteArray.mk l.toArray).size=l.length from by simp [ByteArray.size],this]
    simp
   simp [Builtin.firstCells,this]
  ·simpa [strOf]using FT (ρ:=ρ) (μ:=μ) b.data.toList
 ·cases hs
def EM (d:TypeDesc):Prop:=(∃e,d=.slice e)∨d=.string
theorem C2 {t u ty e:TypeId} {d:TypeDesc} (z:P.underlying t=some (.slice e)) (q:P.underlying u=some d) (hd:EM d) {size n g j:Nat} {x:Value} {L:Array Value} {w':World} {c:Option Addr}
  (hs:(sizeOf e).run P w=.ok size w) (v:(Builtin.lenOf x).run P w=.ok n w) (o:g+n≤j) (y:(Builtin.firstCells size n x).run P w=.ok L w)
  (k:match c with|some p=>(storeCells (p.add (g*size)) L.toList).run P w=.ok () w'|none=>w'=w):
  (Builtin.append_ #[t,u] ty #[.slice c g j,x]).run P w=.ok (.slice c (g+n) j) w':=by
 have A:(do pure (match (←underlying u)with|.int _=>true|_=>false):Sem Bool).run P w=.ok false w:=by
  rcases hd with ⟨e',rfl⟩|rfl<;>simp [run_underlying q]
 cases c with
 |none=>
  simp only at k
  subst k
  rcases hd with ⟨e',rfl⟩|rfl<;>simp [Builtin.append_,run_underlying z,run_underlying q,hs,v,o,y]
 |some p=>
  simp only at k
  rcases hd with ⟨e',rfl⟩|rfl<;>simp [Builtin.append_,run_underlying z,run_underlying q,hs,v,o,y,k]
theorem DV {t u ty e:TypeId} {d:TypeDesc} (Q:P.underlying t=some (.slice e)) (N:P.underlying u=some d) (hd:EM d) {i:TypeInfo} {z:Value} (D:P.info? e=some i) (M:i.zero=some z) {n c g:Nat} {x:Value} {O L:Array Value} {j:Option Addr}
  (H:(Builtin.lenOf x).run P w=.ok n w) (C:g<c+n) (A:(Builtin.firstCells i.size c (.slice j c g)).run P w.drew=.ok O w.drew) (J:(Builtin.firstCells i.size n x).run P w.drew=.ok L w.drew)
  (hb:i.bytes≤1048576) (U:c+n≤1048576):
  ∃o rest,c+n≤o∧rest.size=(o-(c+n))*z.cells.size∧rest=Builtin.zeroCells z.cells (o-(c+n))∧(Builtin.append_ #[t,u] ty #[.slice j c g,x]).run P w=.ok (.slice (some ⟨w.heap.size,0,none⟩) (c+n) o) (w.drew.alloc (.cells (O++L++rest) e)):=by
 have v:¬(c+n≤g):=by omega
 have q:¬(9223372036854775807<((c:Int)+(n:Int))):=by omega
 have k:=nextslicecap_le C
 have R:Builtin.nextslicecap (c+n) g*i.bytes≤281474976710656:=by
  have:=Nat.mul_le_mul k hb
  have Z:2*(c+n)*1048576≤2*1048576*1048576:=by omega
  omega
 have y:¬(281474976710656<Builtin.nextslicecap (c+n) g*i.bytes):=by omega
 refine ⟨grownCap w (c+n) g e,Builtin.zeroCells z.cells (grownCap w (c+n) g e-(c+n)),?_,by simp [Builtin.zeroCells],rfl,?_⟩
 ·exact Nat.le_add_right _ _
 ·have X:=A
  rcases hd with ⟨e',rfl⟩|rfl<;>
   simp [Builtin.append_,run_underlying Q,run_underlying N,sizeOf,typeInfo,zeroValue,D,M,H,v,q,y,Question.forced,A,J,newRow,grownCap]
theorem Aw.drop (H:AO ρ μ h w) (b:Nat):Aw ρ μ h w μ (h.set b none) w:=
 have hs:∀c B,(h.set b none).get c=some B→h.get c=some B:=fun c B hc=>by
  rw [Al.Bq]at hc
  split at hc
  ·cases hc
  ·exact hc
 ⟨μ.le_refl,H.drop _ rfl rfl hs,Nat.le_refl _,fun r _ d=>⟨rfl,fun ⟨c,B,δ,hc,hm⟩=>d ⟨c,B,δ,hs c B hc,hm⟩⟩,rfl,rfl,Nat.le_refl _,fun _ _=>rfl,fun _ _ h=>.inl h,rfl⟩
theorem Aw.WT {w':World} (H:AO ρ μ h w) {b:Nat} {A:Block} {r:Nat} {M:Nat×Nat} (hb:h.get b=some A) (D:μ b=some (r,M)) (B:Block) (δ:Nat×Nat)
  (N:∀i,i≠r→w'.heap[i]?=w.heap[i]?) (Z:w'.heap.size=w.heap.size) (J:w'.os=w.os) (z:w'.output=w.output) (hB:∀O:Aq,μ.le O→CI ρ O B w'.heap[r]? δ):
  Aw ρ μ h w (μ.put h.next (r,δ)) ((h.set b none).add B) w':=by
 have x:μ.le (μ.put h.next (r,δ)):=Aq.QE (H.fresh _ (Nat.le_refl _))
 have q:∀c j s k,((h.set b none).add B).get c=some j→μ.put h.next (r,δ) c=some (s,k)→(c=h.next∧s=r∧j=B∧k=δ)∨(h.get c=some j∧μ c=some (s,k)∧c≠b):=fun c j s k hc d=>by
  rw [Al.JP,Al.Bq]at hc
  by_cases e:c=h.next
  ·subst e
   rw [Aq.BQ]at d
   simp only [oI,Prod.mk.injEq]at d
   rw [if_pos (Al.JF ..).symm]at hc
   simp only [oI]at hc
   exact .inl ⟨rfl,d.1.symm,hc.symm,d.2.symm⟩
  ·rw [if_neg (by rw [Al.JF];exact e)]at hc
   rw [Aq.Cl _ _ e]at d
   split at hc
   ·cases hc
   ·rename_i o
    exact .inr ⟨hc,d,o⟩
 have o:∀c j s k,h.get c=some j→μ c=some (s,k)→c≠b→s≠r:=fun c j s k hc d v e=>v (H.inj _ _ _ _ _ _ _ hc hb d (e▸D))
 have u:∀s,s<w.heap.size→¬AU μ h s→w'.heap[s]?=w.heap[s]?∧¬AU (μ.put h.next (r,δ)) ((h.set b none).add B) s:=fun s hs C=>by
  have y:s≠r:=fun e=>C ⟨b,A,M,hb,e▸D⟩
  refine ⟨N s y,?_⟩
  rintro ⟨c,j,k,hc,d⟩
  rcases q _ _ _ _ hc d with ⟨_,e,_,_⟩|⟨g,n,_⟩
  ·exact y e
  ·exact C ⟨c,j,k,g,n⟩
 refine ⟨x,⟨fun c hc=>?_,fun c j hc=>?_,fun c c' B1 B2 s δ1 δ2 X U Q R=>?_,H.Gr u⟩,by omega,u,J,z,Nat.le_succ _,fun b hb=>Aq.Cl _ _ (by omega),fun _ _ h=>.inl h,rfl⟩
 ·rw [Al.JG,Al.JF]at hc
  rw [Aq.Cl _ _ (by omega)]
  exact H.fresh c (by omega)
 ·by_cases e:c=h.next
  ·subst e
   refine ⟨r,δ,Aq.BQ _ _ _,?_⟩
   rcases q _ _ _ _ hc (Aq.BQ _ _ _)with ⟨_,_,rfl,_⟩|⟨hg,d,_⟩
   ·exact hB _ x
   ·rw [H.fresh _ (Nat.le_refl _)]at d;cases d
  ·have aa:=hc
   rw [Al.JP,Al.Bq,if_neg (by rw [Al.JF];exact e)]at hc
   split at hc
   ·cases hc
   ·rename_i v
    obtain ⟨s,k,d,P⟩:=H.blk c j hc
    refine ⟨s,k,by rw [Aq.Cl _ _ e];exact d,?_⟩
    rw [N s (o _ _ _ _ hc d v)]
    exact P.mono x
 ·rcases q _ _ _ _ X Q with ⟨e1,e2,_,_⟩|⟨g1,n1,c1⟩<;>rcases q _ _ _ _ U R with ⟨e3,e4,_,_⟩|⟨g2,n2,c2⟩
  ·rw [e1,e3]
  ·exact absurd e2 (o _ _ _ _ g2 n2 c2)
  ·exact absurd e4 (o _ _ _ _ g1 n1 c1)
  ·exact H.inj _ _ _ _ _ _ _ g1 g2 n1 n2
theorem O6 {old new:List Aa} {O L rest:Array Value} {e:TypeId} {m:Nat} (q:Ay ρ μ old O.toList) (k:Ay ρ μ new L.toList) (u:m≤(O++L++rest).size) (g:Aq) (c:μ.le g):
  CI ρ g (.cells (old++new)) (some (.cells (O++L++rest) e)) (0,m):=by
 refine ⟨_,e,rfl,by omega,fun i x hx=>?_⟩
 have j:=Ay.append q k
 obtain ⟨v,hv,hs,o⟩:=j.get hx
 refine ⟨v,?_,hs,o.mono c⟩
 rw [Nat.zero_add]
 have d:=(List.getElem?_eq_some_iff.1 hv).1
 rw [Array.getElem?_append_left (by simpa using d)]
 rw [←Array.toList_append]at hv
 rw [Array.getElem?_toList]at hv
 exact hv
theorem Gj {o:Oper} {c:Call} {t u e:TypeId} {d:TypeDesc} {x y:Operand} (ho:o.op=.call c) (bV:c.callee=.builtin .append) (bL:c.args=#[x,y]) (bX:c.argTypes=#[t,u])
  (H:AO ρ μ h w) (hT:Bf ρ μ tm a) (ht:P.underlying t=some (.slice e)) (hu:P.underlying u=some d) (hd:EM d) {i:TypeInfo} (hi:P.info? e=some i) (hb:i.bytes≤1048576) (hz:(i.zero.map fun v=>Nat.beq v.cells.size i.size).getD false=true)
  {n:Nat} {new:List Aa} (hs:∀w',w'=w∨w'=w.drew→(Builtin.lenOf (a.eval y)).run P w'=.ok n w'∧new.length=n*i.size∧∃L:Array Value,(Builtin.firstCells i.size n (a.eval y)).run P w'=.ok L w'∧Ay ρ μ new L.toList) {r:Aa×Al} (g:Iv h i.size (ev tm (AJ x)) n new=some r):EJ P ρ μ h a o w (.val r.1 r.2):=by
 have hx:=As hT x
 obtain ⟨z,hz,hzs⟩:∃z,i.zero=some z∧z.cells.size=i.size:=by
  cases e:i.zero with
  |none=>rw [e]at hz;simp at hz
  |some z=>rw [e]at hz;exact ⟨z,rfl,An.1 (by simpa using hz)⟩
 obtain ⟨aK,a9,L,hL,ae⟩:=hs w (.inl rfl)
 obtain ⟨_,_,L',bM,ay⟩:=hs w.drew (.inr rfl)
 have bc:(sizeOf e).run P w=.ok i.size w:=by simp [sizeOf,typeInfo,hi]
 have run:∀{v:Value} {wf:World},(Builtin.append_ #[t,u] o.type #[a.eval x,a.eval y]).run P w=.ok v wf→(execOp a.eval o).run P w=.ok (.value v) wf:=fun {v wf} aB=>by
  simp [execOp,ho,resolve,bV,bL,bX,invoke,builtin,aB]
 unfold Iv at g
 rw [AP]at g
 by_cases h0:n=0
 ·
  rw [if_pos h0]at g
  subst h0
  have aP:new=[]:=by
   have:new.length=0:=by simpa using a9
   exact List.eq_nil_of_length_eq_zero this
  subst aP
  have b6:L.toList=[]:=by simpa only [Ay]using ae
  have same:∀(D:Option Addr) (len cap:Nat),a.eval x=.slice D len cap→len≤cap→r=(ev tm (AJ x),h)→EJ P ρ μ h a o w (.val r.1 r.2):=fun D len cap M ab er=>by
   subst er
   refine ⟨.value (a.eval x),a.eval x,w,μ,run ?_,.inl rfl,Aw.refl H,hx⟩
   rw [M]
   refine C2 ht hu hd bc aK (by omega) hL ?_
   cases D with
   |none=>rfl
   |some p=>simp [b6,storeCells]
  unfold Xu at g
  split at g
  ·rename_i M
   have er:r=(ev tm (AJ x),h):=by rw [M];simpa using g.symm
   rw [M]at hx
   obtain ⟨p,c',N,ab,_⟩:=hx.Et
   exact same _ _ _ N ab er
  ·rename_i M
   have er:r=(ev tm (AJ x),h):=by rw [M];simpa using g.symm
   rw [M]at hx
   obtain ⟨r0,m0,k0,_,N,_,k1,k2⟩:=hx.vec
   exact same _ _ _ N (by omega) er
  ·rename_i M
   rw [M]at hx
   have N:a.eval x=.slice none 0 0:=by simpa only [Ag]using hx
   simp only [oI]at g
   exact same _ _ _ N (Nat.le_refl _) g.symm
  ·rename_i M
   rw [M]at hx
   obtain ⟨_,_,_,_,N,ab⟩:=hx.slice
   simp only [oI]at g
   exact same _ _ _ N ab g.symm
  ·rename_i M
   rw [M]at hx
   obtain ⟨_,_,_,_,_,N,ab,_⟩:=hx.gslice
   simp only [oI]at g
   exact same _ _ _ N ab g.symm
  ·cases g
 ·rw [if_neg h0]at g
  have fresh:∀(D:Option Addr) (len cap:Nat) (Z:Al) (old:List Aa) (O:Array Value),a.eval x=.slice D len cap→cap<len+n→len+n≤1048576→Aw ρ μ h w μ Z w→old.length=len*i.size→
    (Builtin.firstCells i.size len (.slice D len cap)).run P w.drew=.ok O w.drew→Ay ρ μ old O.toList→r=(.gslice Z.next 0 (len+n) i.size,Z.add (.cells (old++new)))→EJ P ρ μ h a o w (.val r.1 r.2):=fun D len cap Z old O M ah J ak al R ag er=>by
   subst er
   obtain ⟨nc,rest,bq,aN,_,aB⟩:=DV (P:=P) (ty:=o.type) (O:=O) (L:=L') ht hu hd hi hz aK ah R bM hb J
   have aW:O.size=len*i.size:=by have:=ag.length;simp at this;omega
   have aV:L'.size=n*i.size:=by have:=ay.length;simp at this;omega
   have bw:(O++L'++rest).size=nc*i.size:=by
    simp only [Array.size_append,aW,aV,aN,hzs]
    rw [←Nat.add_mul,←Nat.add_mul]
    congr 1;omega
   have a3:=Aw.add ak.rel.drew (.cells (old++new)) (.cells (O++L'++rest) e) (0,nc*i.size) (fun μ' ab=>O6 ag ay (by omega) μ' ab)
   refine ⟨.value _,_,_,_,run (by rw [M];exact aB),.inl rfl,(ak.trans (Aw.drew ak.rel)).trans a3,?_⟩
   simp only [Ag]
   exact ⟨_,_,_,nc,Aq.BQ _ _ _,by simp,by omega,by omega⟩
  have ap:∀(D:Option Addr) (len cap:Nat) (Z:Al) (U:ST×Block) (X:List (List PV)) (O:Array Value),a.eval x=.slice D len cap→cap<len+n→Aw ρ μ h w μ Z w→(∃(j:Nat) (A B:List (List PV)),U.2=.list j i.size∧U.1.den ρ=((ρ.lst j).length:Int)∧(ρ.lst j).length≤1048576∧ρ.lst j=A++B∧A=X∧B.length=n∧(∀p∈B,p.length=i.size)∧CP ρ (CU new) B.flatten)→X.length=len→(∀p∈X,p.length=i.size)→
    (Builtin.firstCells i.size len (.slice D len cap)).run P w.drew=.ok O w.drew→O.size=len*i.size→AW μ.Bg O 0 X.flatten→r=(.vec Z.next i.size U.1,Z.add U.2)→EJ P ρ μ h a o w (.val r.1 r.2):=fun D len cap Z U X O M ah ak an aL aq R aW hX er=>by
   subst er
   obtain ⟨j,A,B,eb,et,J,eA,hA,hB,ac,aj⟩:=an
   subst hA
   have aM:(ρ.lst j).length=len+n:=by rw [eA,lA];omega
   obtain ⟨nc,rest,bq,aN,_,aB⟩:=DV (P:=P) (ty:=o.type) (O:=O) (L:=L') ht hu hd hi hz aK ah R bM hb (by omega)
   have aV:L'.size=n*i.size:=by have:=ay.length;simp at this;omega
   have bw:(O++L'++rest).size=nc*i.size:=by
    simp only [Array.size_append,aW,aV,aN,hzs]
    rw [←Nat.add_mul,←Nat.add_mul]
    congr 1;omega
   have cu:A.flatten.length=len*i.size:=by rw [BN aq,aL]
   have b4:B.flatten.length=n*i.size:=by rw [BN ac,hB]
   have bk:AW μ.Bg L' 0 B.flatten:=Ay.freeze aj ay fun i v hv=>by simpa using hv
   have a0:BU μ.Bg i.size (O++L'++rest) 0 (ρ.lst j):=by
    rw [BB]
    refine ⟨fun p Q=>?_,?_⟩
    ·rw [eA,List.mem_append]at Q
     exact Q.elim (aq p) (ac p)
    ·rw [eA,List.flatten_append,AW.append_iff]
     refine ⟨AW.congr (fun k hk=>?_) hX,AW.congr (fun k hk=>?_) bk⟩
     ·rw [Array.append_assoc,Array.getElem?_append_left (by omega)]
     ·rw [Array.append_assoc,Array.getElem?_append_right (by omega),Array.getElem?_append_left (by omega)]
      congr 1;omega
   have a3:=Aw.add ak.rel.drew U.2 (.cells (O++L'++rest) e) (0,On (len+n) nc) (fun μ' ab=>by
    rw [eb]
    refine ⟨_,e,rfl,rfl,?_,?_,?_,?_,BU.mono ab.Bg a0⟩
    ·rw [B6 (by omega)];omega
    ·rw [B6 (by omega)];omega
    ·rw [B6 (by omega),BS (by omega)];exact bq
    ·rw [BS (by omega),bw];exact Nat.le_refl _)
   refine ⟨.value _,_,_,_,run (by rw [M];exact aB),.inl rfl,(ak.trans (Aw.drew ak.rel)).trans a3,?_⟩
   simp only [Ag]
   refine ⟨_,_,len+n,Aq.BQ _ _ _,?_,?_,?_,?_⟩
   ·rw [BS (by omega)]
   ·rw [et,aM]
   ·rw [B6 (by omega)];exact Nat.le_refl _
   ·rw [B6 (by omega),BS (by omega)];exact bq
  have aC:∀(D:Option Addr) (len cap:Nat) (Z:Al) (part:AR) (U:ST×Block) (X:List (List PV)) (O:Array Value),a.eval x=.slice D len cap→cap<len+n→Aw ρ μ h w μ Z w→Iu h i.size part n new=some U→(∀Y,FI ρ part Y→Y=X)→X.length=len→(∀p∈X,p.length=i.size)→
    (Builtin.firstCells i.size len (.slice D len cap)).run P w.drew=.ok O w.drew→O.size=len*i.size→AW μ.Bg O 0 X.flatten→r=(.vec Z.next i.size U.1,Z.add U.2)→EJ P ρ μ h a o w (.val r.1 r.2):=fun D len cap Z part U X O M ah ak ao aA aL aq R aW hX er=>by
   obtain ⟨j,A,B,eb,et,J,eA,hA,hB,ac,aj⟩:=Kd H.AY.facts ao
   exact ap D len cap Z U X O M ah ak ⟨j,A,B,eb,et,J,eA,aA A hA,hB,ac,aj⟩ aL aq R aW hX er
  unfold Xx at g
  split at g
  ·
   rename_i b es m M
   rw [M]at hx
   unfold Xv at g
   obtain ⟨⟨li,b1⟩,bP,g⟩:=Ac g
   obtain ⟨bT,bU⟩:=Ap g
   clear g
   obtain ⟨U,ao,bQ⟩:=Ac bU
   clear bU
   have aI:(Aa.vec h.next i.size U.1,(h.set b none).add U.2)=r:=by simpa using bQ
   clear bQ
   rw [aT,An,An]at bT
   obtain ⟨au,a7⟩:=bT
   have a7:b1=es:=a7
   subst a7
   subst au
   have ao:Iu h i.size (.take li m) n new=some U:=ao
   obtain ⟨r0,m0,k,hm,N,hk,cr,ba⟩:=hx.vec
   obtain ⟨r1,⟨δ1,m1⟩,af,c0,ty,aa,h0,Z,h2,h3,h4,h5⟩:=H.blk b _ (Df bP)
   rw [hm]at af
   simp only [oI,Prod.mk.injEq]at af
   obtain ⟨rfl,rfl,rfl⟩:=af
   have Z:(ρ.lst li).length≤BR m0:=Z
   have h4:Ca m0*i.size≤c0.size:=h4
   have h5:BU μ.Bg i.size c0 0 (ρ.lst li):=h5
   have bW:=ao
   obtain ⟨j,A,B,eb,et,J,eA,hA,hB,ac,aj⟩:=Kd H.AY.facts bW
   have ct:k≤(ρ.lst li).length:=by
    obtain ⟨_,q,_⟩:=hA
    rw [hk]at q;omega
   have aA:∀Y,FI ρ (.take li m) Y→Y=(ρ.lst li).take k:=fun Y hY=>by
    obtain ⟨_,_,q⟩:=hY
    rw [q,hk];rfl
   have aq:∀p∈(ρ.lst li).take k,p.length=i.size:=fun p Q=>(BB.1 h5).1 p (List.mem_of_mem_take Q)
   have aL:((ρ.lst li).take k).length=k:=by rw [lT'];omega
   have hX:AW μ.Bg c0 0 ((ρ.lst li).take k).flatten:=by
    have:=(BB.1 h5).2
    rw [←List.take_append_drop k (ρ.lst li),List.flatten_append,AW.append_iff]at this
    exact this.1
   have bO:((ρ.lst li).take k).flatten.length=k*i.size:=by rw [BN aq,aL]
   by_cases hfit:k+n≤Ca m0
   ·
    have:=aA A hA
    subst this
    have aM:(ρ.lst j).length=k+n:=by rw [eA,lA];omega
    have a1:(k+n)*i.size≤Ca m0*i.size:=Nat.mul_le_mul_right _ hfit
    rw [Nat.add_mul]at a1
    have aV:L.toList.length=n*i.size:=by rw [←ae.length];exact a9
    obtain ⟨c',aU,bv,bd⟩:=DU (P:=P) L.toList aa (p:=k*i.size) (by omega) ae.one
    have b4:B.flatten.length=n*i.size:=by rw [BN ac,hB]
    have bk:AW μ.Bg L 0 B.flatten:=Ay.freeze aj ae fun i v hv=>by simpa using hv
    have a0:BU μ.Bg i.size c' 0 (ρ.lst j):=by
     rw [BB]
     refine ⟨fun p Q=>?_,?_⟩
     ·rw [eA,List.mem_append]at Q
      exact Q.elim (aq p) (ac p)
     ·rw [eA,List.flatten_append,AW.append_iff]
      refine ⟨AW.congr (fun q hq=>?_) hX,AW.congr (fun q hq=>?_) bk⟩
      ·rw [bd,if_neg (by omega)]
      ·rw [bd,if_pos (by omega),←Array.getElem?_toList]
       congr 1;omega
    have bo:=Aw.WT (w':=w.setRow r0 c') H (Df bP) hm U.2 (0,On (k+n) (Ca m0)) (fun i hi=>setRow_other _ _ _ _ hi) (by simp) rfl rfl (fun μ' aO=>by
     rw [E8 _ _ _ _ _ _ aa,eb]
     refine ⟨c',ty,rfl,rfl,?_,?_,?_,?_,BU.mono aO.Bg a0⟩
     ·rw [B6 (by omega)];omega
     ·rw [B6 (by omega)];omega
     ·rw [B6 (by omega),BS (by omega)];exact hfit
     ·rw [BS (by omega)];omega)
    subst aI
    refine ⟨.value _,_,_,_,run (v:=.slice (some ⟨r0,0,none⟩) (k+n) (Ca m0)) ?_,.inl rfl,bo,?_⟩
    ·rw [N]
     refine C2 ht hu hd bc aK hfit hL ?_
     simp only [Addr.Bl,Nat.zero_add]
     exact aU
    ·simp only [Ag]
     refine ⟨_,_,k+n,Aq.BQ _ _ _,?_,?_,?_,?_⟩
     ·rw [BS (by omega)]
     ·rw [et,aM]
     ·rw [B6 (by omega)];exact Nat.le_refl _
     ·rw [B6 (by omega),BS (by omega)];exact hfit
   ·
    obtain ⟨l,av,a5,a2⟩:=hX.values
    have R:=run_loadCells_list (P:=P) (w:=w.drew) ⟨r0,0,none⟩ l (fun j v hv=>by
     rw [Addr.Bl]
     show w.cell? _=_
     rw [Cy aa];exact a5 j v hv)
    rw [av,bO]at R
    refine aC _ _ _ (h.set b none) _ U _ l.toArray N (by omega) (Aw.drop H b) ao aA aL aq (by simp [Builtin.firstCells,R]) (by simp [av,bO]) (AW.congr (fun q hq=>?_) hX) ?_
    ·have:=a2 q hq
     simpa using this.symm
    ·rw [←aI];rfl
  ·
   rename_i li es m M
   rw [M]at hx
   unfold X1 at g
   obtain ⟨au,g⟩:=Ap g
   obtain ⟨U,ao,aI⟩:=Ac g
   simp only [oI]at aI
   have au:=An.1 au
   subst au
   obtain ⟨cp,_,bE⟩:=hx.lst
   obtain ⟨p,N⟩:=bE rfl
   obtain ⟨p',c',bj,_,_,b0⟩:=hx.Et
   rw [N]at bj
   simp only [Value.slice.injEq,true_and]at bj
   obtain ⟨rfl,rfl⟩:=bj
   have ah:(ρ.lst li).length<(ρ.lst li).length+n:=by omega
   by_cases hz0:(ρ.lst li).length=0
   ·have aP:ρ.lst li=[]:=List.eq_nil_of_length_eq_zero hz0
    refine aC _ _ _ h _ U (ρ.lst li) #[] N ah (Aw.refl H) ao (fun Y hY=>hY) rfl (fun q hq=>by rw [aP]at hq;cases hq) ?_ (by simp [hz0]) (by rw [aP];simp only [List.flatten_nil,AW]) aI.symm
    rw [hz0]
    cases p<;>simp [Builtin.firstCells,loadCells,loadCellsFrom]
   ·obtain ⟨r0,δ,c0,ty,rfl,k1,k2⟩:=b0 hz0
    obtain ⟨_,k1⟩:=k1
    have aa:=(H.AY.Bg _ _ k1).1
    have aJ:=BB.1 k2
    obtain ⟨l,av,a5,a2⟩:=aJ.2.values
    have bS:=BN aJ.1
    have R:=run_loadCells_list (P:=P) (w:=w.drew) ⟨r0,δ,none⟩ l (fun j v hv=>by
     rw [Addr.Bl]
     show w.cell? _=_
     rw [Cy aa];exact a5 j v hv)
    rw [av,bS]at R
    refine aC _ _ _ h _ U (ρ.lst li) l.toArray N ah (Aw.refl H) ao (fun Y hY=>hY) rfl aJ.1 (by simp [Builtin.firstCells,R]) (by simp [av,bS]) (AW.congr (fun q hq=>?_) aJ.2) aI.symm
    have:=a2 q hq
    simpa using this.symm
  ·
   rename_i M
   rw [M]at hx
   have N:a.eval x=.slice none 0 0:=by simpa only [Ag]using hx
   obtain hE|g:=St g
   ·obtain ⟨p,j,t,A,B,Q,er,et,J,eA,hA,hB,ac,aj⟩:=Ke H.AY.facts hE
    have Q:([]:List AR)=p:=by simpa [PD]using Q
    subst Q
    have hA:A=[]:=hA
    exact ap none 0 0 h (t,.list j i.size) [] #[] N (by omega) (Aw.refl H) ⟨j,A,B,rfl,et,J,eA,hA,hB,ac,aj⟩ rfl (fun _ hq=>by cases hq) (by simp [Builtin.firstCells]) (by simp) (by simp only [List.flatten_nil,AW]) er
   unfold It at g
   obtain ⟨J,g⟩:=Ap g
   simp only [oI]at g
   exact fresh none 0 0 h [] #[] N (by omega) (AX.1 J) (Aw.refl H) (by simp) (by simp [Builtin.firstCells]) (by simp only [Ay]) g.symm
  ·
   rename_i b aD len cap M
   have bA:=hx
   rw [M]at hx
   obtain ⟨r0,δ,m,hm,N,ab⟩:=hx.slice
   cases hcap:Nat.ble (len+n) cap with
   |true=>
    rw [hcap]at g
    simp only [cond_true]at g
    unfold Tt at g
    obtain ⟨vs,bb,g⟩:=Ac g
    obtain ⟨cw,aJ,g⟩:=Ac g
    simp only [oI]at g
    subst g
    obtain ⟨r1,δ1,m1,af,w',aU,hg⟩:=Hs (P:=P) H bb ae aJ
    have hg:=hg _ (.inl rfl)
    rw [hm]at af
    simp only [oI,Prod.mk.injEq]at af
    obtain ⟨rfl,rfl,rfl⟩:=af
    refine ⟨.value _,_,w',μ,run (v:=.slice (some ⟨r0,δ+aD,none⟩) (len+n) cap) ?_,.inl rfl,hg,?_⟩
    ·rw [N]
     refine C2 ht hu hd bc aK (AX.1 hcap) hL ?_
     simp only [Addr.Bl,Nat.add_assoc]
     exact aU
    ·simp only [Ag]
     exact ⟨_,_,_,hm,rfl,AX.1 hcap⟩
   |false=>
    rw [hcap]at g
    simp only [cond_false]at g
    have ah:cap<len+n:=by
     rcases Nat.lt_or_ge cap (len+n)with h'|h'
     ·exact h'
     ·rw [AX.2 h']at hcap;cases hcap
    obtain hE|g:=St g
    ·obtain ⟨p,j,t,X0,B,Q,er,et,J,eA,be,hB,ac,aj⟩:=Ke H.AY.facts hE
     unfold PD at Q
     obtain ⟨bC,bN⟩:=Ap Q
     clear Q
     have ba:=An.1 bC
     clear bC
     subst ba
     have Q:=bN
     clear bN
     rw [AP]at Q
     split at Q
     ·rename_i bt
      subst bt
      simp only [oI]at Q
      subst Q
      have be:X0=[]:=be
      exact ap _ 0 0 h (t,.list j i.size) [] #[] N (by omega) (Aw.refl H) ⟨j,X0,B,rfl,et,J,eA,be,hB,ac,aj⟩ rfl (fun _ hq=>by cases hq) (by simp [Builtin.firstCells,loadCells,loadCellsFrom]) (by simp) (by simp only [List.flatten_nil,AW]) er
     ·rename_i bt
      obtain ⟨s,bl,Q⟩:=Ac Q
      obtain ⟨cq,Q⟩:=Ap Q
      obtain ⟨cs,bv,Q⟩:=Ac Q
      simp only [oI]at Q
      subst Q
      have cc:Eg ρ cs X0:=by
       obtain ⟨x,y,rfl,Z,h2⟩:=be
       have h2:y=[]:=h2
       subst h2
       rw [List.append_nil];exact Z
      obtain ⟨c1,c2,c3⟩:=DM bv
      obtain ⟨f1,f2,f3⟩:=Eg.flat cc
      have bm:J2 h i.size false (ev tm (AJ x))=some s:=by rw [M];exact bl
      obtain ⟨_,al,O,R,az⟩:=Dl (P:=P) (w:=w.drew) H.drew bA (n:=s.1) (cs:=s.2) bm
      have bn:s.1=len:=by
       have C:=bl
       unfold Mm at C
       rw [AP,if_neg bt]at C
       obtain ⟨_,_,C⟩:=Ac C
       obtain ⟨_,_,C⟩:=Ac C
       simp only [oI]at C;rw [←C]
      rw [bn]at al R
      rw [N]at R
      rw [c1]at f1
      refine ap _ _ _ h (t,.list j i.size) X0 O N ah (Aw.refl H) ⟨j,X0,B,rfl,et,J,eA,rfl,hB,ac,aj⟩ (by omega) (f3 _ c3) R ?_ ?_ er
      ·have:=az.length;simp at this;omega
      ·exact Ay.freeze f1 az fun q v hv=>by simpa using hv
    obtain ⟨old,ag,g⟩:=Ac g
    unfold It at g
    obtain ⟨J,g⟩:=Ap g
    simp only [oI]at g
    have bm:J2 h i.size false (ev tm (AJ x))=some old:=by rw [M];exact ag
    obtain ⟨_,al,O,R,az⟩:=Dl (P:=P) (w:=w.drew) H.drew bA bm
    have bn:old.1=len:=by
     have C:=ag
     unfold Mm at C
     rw [AP]at C
     split at C
     ·simp only [oI]at C;rw [←C];omega
     ·obtain ⟨_,_,C⟩:=Ac C
      obtain ⟨_,_,C⟩:=Ac C
      simp only [oI]at C;rw [←C]
    rw [bn]at al R
    rw [N]at R
    exact fresh _ _ _ h old.2 O N ah (AX.1 J) (Aw.refl H) al R az g.symm
  ·
   rename_i b aD len es M
   have bA:=hx
   rw [M]at hx
   obtain ⟨r0,δ,m,cap,hm,N,ab,cf⟩:=hx.gslice
   unfold Xw at g
   obtain ⟨vs,bb,g⟩:=Ac g
   obtain ⟨bf,g⟩:=Ap g
   obtain ⟨old,ag,g⟩:=Ac g
   simp only [oI]at g
   rw [aT,An,AX]at bf
   obtain ⟨au,J⟩:=bf
   obtain ⟨B0,b9⟩:=Ly bb
   obtain ⟨r1,δ1,m1,c1,e3,af,aa,cv,aR⟩:=H.cells bb
   rw [hm]at af
   simp only [oI,Prod.mk.injEq]at af
   obtain ⟨rfl,rfl,rfl⟩:=af
   by_cases hfit:len+n≤cap
   ·
    have a1:(len+n)*i.size≤cap*es:=by rw [←au];exact Nat.mul_le_mul_right _ hfit
    rw [Nat.add_mul]at a1
    have aV:L.toList.length=n*i.size:=by rw [←ae.length];exact a9
    obtain ⟨c',aU,bv,bd⟩:=DU (P:=P) L.toList aa (p:=δ+aD+len*i.size) (by omega) ae.one
    have an:=Ka ag
    have bo:=Aw.WT (w':=w.setRow r0 c') H b9 hm (.cells (old++new)) (δ+aD,m-aD) (fun i hi=>setRow_other _ _ _ _ hi) (by simp) rfl rfl (fun μ' aO=>by
     rw [E8 _ _ _ _ _ _ aa]
     refine ⟨c',e3,rfl,by omega,fun k v hk=>?_⟩
     rw [bd]
     by_cases hko:k<old.length
     ·rw [List.getElem?_append_left hko,an.2.2 k]at hk
      rw [an.1]at hko
      rw [if_pos hko]at hk
      obtain ⟨u',aQ,br,bx⟩:=aR _ _ hk
      refine ⟨u',?_,br,bx.mono aO⟩
      rw [if_neg (by omega),Nat.add_assoc]
      exact aQ
     ·rw [List.getElem?_append_right (by omega)]at hk
      obtain ⟨u',aQ,br,bx⟩:=ae.get hk
      refine ⟨u',?_,br,bx.mono aO⟩
      have b2:=(List.getElem?_eq_some_iff.1 aQ).1
      rw [an.1]at aQ b2 hko
      rw [if_pos (by omega),←aQ]
      congr 1
      omega)
    subst g
    refine ⟨.value _,_,_,_,run (v:=.slice (some ⟨r0,δ+aD,none⟩) (len+n) cap) ?_,.inl rfl,bo,?_⟩
    ·rw [N]
     refine C2 ht hu hd bc aK hfit hL ?_
     simp only [Addr.Bl]
     exact aU
    ·simp only [Ag]
     refine ⟨_,_,_,cap,Aq.BQ _ _ _,rfl,hfit,?_⟩
     rw [au];omega
   ·
    obtain ⟨l,av,bR,ba⟩:=DL aR ag
    have R:=run_loadCells_list (P:=P) (w:=w.drew) ⟨r0,δ+aD,none⟩ l (fun j v hv=>by
     rw [Addr.Bl]
     show w.cell? _=_
     rw [Cy aa];exact ba j v hv)
    rw [av]at R
    refine fresh _ _ _ (h.set b none) old l.toArray N (by omega) J (Aw.drop H b) ?_ ?_ (by simpa using bR) ?_
    ·rw [bR.length,av]
    ·simp [Builtin.firstCells,R]
    ·rw [←g];rfl
  ·cases g
theorem Lw {o:Oper} {c:Call} {t u e:TypeId} {d:TypeDesc} {x y:Operand} (J:o.op=.call c) (k:c.callee=.builtin .append) (g:c.args=#[x,y]) (j:c.argTypes=#[t,u])
  (H:AO ρ μ h w) (q:Bf ρ μ tm a) (O:P.underlying t=some (.slice e)) (N:P.underlying u=some d) (hd:EM d) {i:TypeInfo} (A:P.info? e=some i) (hb:i.bytes≤1048576) (M:(i.zero.map fun v=>Nat.beq v.cells.size i.size).getD false=true)
  {bytes:Bool} {s:Nat×List Aa} (hs:J2 h i.size bytes (ev tm (AJ y))=some s) {r:Aa×Al} (D:Iv h i.size (ev tm (AJ x)) s.1 s.2=some r):EJ P ρ μ h a o w (.val r.1 r.2):=by
 have z:=As q y
 refine Gj J k g j H q O N hd A hb M (fun w' C=>?_) D
 obtain ⟨n,new⟩:=s
 rcases C with rfl|rfl
 ·exact Dl (P:=P) H z hs
 ·exact Dl (P:=P) H.drew z hs
theorem Ay.take:∀{as:List Aa} {vs:List Value} (k:Nat),Ay ρ μ as vs→Ay ρ μ (as.take k) (vs.take k)
 |[],vs,k,e=>by simp only [Ay]at e;subst e;simp only [List.take_nil,Ay]
 |a::as,vs,k,e=>by
  simp only [Ay]at e
  obtain ⟨v,rest,rfl,d,c⟩:=e
  cases k with
  |zero=>simp only [List.take_zero,Ay]
  |succ k=>simp only [List.take_succ_cons,Ay];exact ⟨_,_,rfl,d,Ay.take k c⟩
theorem RR (H:AO ρ μ h w) {size n m:Nat} {bytes:Bool} {x:Aa} {u:Value} {cs:List Aa} (hx:Ag ρ μ x u) (hs:J2 h size bytes x=some (n,cs)) (M:m≤n):
  ∃L:Array Value,(Builtin.firstCells size m u).run P w=.ok L w∧Ay ρ μ (cs.take (m*size)) L.toList:=by
 have key:∀(b k len r δ R c:Nat),Mm h size b k len=some (n,cs)→μ b=some (r,δ,R)→u=.slice (some ⟨r,δ+k,none⟩) len c→
   ∃L:Array Value,(Builtin.firstCells size m u).run P w=.ok L w∧Ay ρ μ (cs.take (m*size)) L.toList:=fun b k len r δ R c hs y e=>by
  subst e
  unfold Mm at hs
  rw [AP]at hs
  by_cases D:len=0
  ·rw [if_pos D]at hs
   simp only [oI,Prod.mk.injEq]at hs
   obtain ⟨rfl,rfl⟩:=hs
   have:m=0:=by omega
   subst this
   exact ⟨#[],by simp [Builtin.firstCells,loadCells,loadCellsFrom],by simp only [List.take_nil,Ay]⟩
  ·rw [if_neg D]at hs
   obtain ⟨vs,Q,hs⟩:=Ac hs
   obtain ⟨r',O,hs⟩:=Ac hs
   simp only [oI,Prod.mk.injEq]at hs
   obtain ⟨rfl,rfl⟩:=hs
   obtain ⟨r2,Z,m2,c2,e2,A,N,_,hc⟩:=H.cells Q
   rw [y]at A
   simp only [oI,Prod.mk.injEq]at A
   obtain ⟨rfl,rfl,rfl⟩:=A
   obtain ⟨l,z,C,q⟩:=DL hc O
   have g:m*size≤l.length:=by rw [z];exact Nat.mul_le_mul_right _ M
   have d:=run_loadCells_list (P:=P) (w:=w) ⟨r,δ+k,none⟩ (l.take (m*size)) (fun j v hv=>by
    rw [List.getElem?_take]at hv
    split at hv
    ·rw [Addr.Bl,Cy N];exact q j v hv
    ·cases hv)
   rw [lT',Nat.min_eq_left g]at d
   exact ⟨(l.take (m*size)).toArray,by simp [Builtin.firstCells,d],by simpa using C.take (m*size)⟩
 unfold J2 at hs
 split at hs
 ·obtain ⟨X,⟨rfl,rfl,p,c,rfl⟩|⟨r,δ,c,ar,e,_,rfl,N,hc⟩⟩:=Pc H hx hs
  ·have D:m=0:=by omega
   subst D
   cases p
   ·exact ⟨#[],by simp [Builtin.firstCells],by simp only [List.take_nil,Ay]⟩
   ·exact ⟨#[],by simp [Builtin.firstCells,loadCells,loadCellsFrom],by simp only [List.take_nil,Ay]⟩
  ·obtain ⟨l,z,C,q⟩:=DL hc (Xi cs)
   have g:m*size≤l.length:=by rw [z,X];exact Nat.mul_le_mul_right _ M
   have d:=run_loadCells_list (P:=P) (w:=w) ⟨r,δ,none⟩ (l.take (m*size)) (fun j v hv=>by
    rw [List.getElem?_take]at hv
    split at hv
    ·rw [Addr.Bl,Cy N];simpa using q j v hv
    ·cases hv)
   rw [lT',Nat.min_eq_left g]at d
   exact ⟨(l.take (m*size)).toArray,by simp [Builtin.firstCells,d],by simpa using C.take (m*size)⟩
 ·simp only [oI,Prod.mk.injEq]at hs
  obtain ⟨rfl,rfl⟩:=hs
  have e:u=.slice none 0 0:=by simpa only [Ag]using hx
  subst e
  exact ⟨#[],by simp [Builtin.firstCells],by simp only [List.take_nil,Ay]⟩
 ·obtain ⟨r,δ,m,y,e,_⟩:=hx.slice
  exact key _ _ _ _ _ _ _ hs y e
 ·obtain ⟨r,δ,m,c,y,e,_⟩:=hx.gslice
  exact key _ _ _ _ _ _ _ hs y e
 ·rename_i s
  obtain ⟨o,J⟩:=Ap hs
  clear hs
  have o:=An.1 o
  subst o
  simp only [oI,Prod.mk.injEq]at J
  obtain ⟨rfl,rfl⟩:=J
  obtain ⟨b,rfl,rfl⟩:=hx.str
  refine ⟨((b.extract 0 m).data.map fun c=>.int .u8 c.toNat),by simp [Builtin.firstCells],?_⟩
  have hb:=(FT (ρ:=ρ) (μ:=μ) b.data.toList).take (m*1)
  have U:(b.extract 0 m).data.toList=b.data.toList.take m:=by
   obtain ⟨⟨l⟩⟩:=b
   have:=ByteArray.extract_mk l 0 m
   rw [show (⟨⟨l⟩⟩:ByteArray)=ByteArray.mk l.toArray from rfl,this]
   simp
  rw [Array.toList_map,U]
  unfold strOf
  simpa [List.map_take]using hb
 ·cases hs
theorem P5 {o:Oper} {c:Call} {t u e:TypeId} {x y:Operand} (ho:o.op=.call c) (U:c.callee=.builtin .copy) (Q:c.args=#[x,y]) (aa:c.argTypes=#[t,u])
  (H:AO ρ μ h w) (hT:Bf ρ μ tm a) (Z:P.underlying t=some (.slice e)) {size:Nat} (hn:Bj P e=some size)
  {bytes:Bool} {s:Nat×List Aa} (hs:J2 h size bytes (ev tm (AJ y))=some s) {r:Aa×Al} (d:AaW h size (ev tm (AJ x)) s.1 s.2=some r):EJ P ρ μ h a o w (.val r.1 r.2):=by
 have hx:=As hT x
 have hy:=As hT y
 have q:=B4 (w:=w) hn
 obtain ⟨n,src⟩:=s
 obtain ⟨J,am,_⟩:=Dl (P:=P) H hy hs
 have run:∀{v:Value} {X:World},(Builtin.copy_ #[t,u] o.type #[a.eval x,a.eval y]).run P w=.ok v X→(execOp a.eval o).run P w=.ok (.value v) X:=fun {v X} hrun=>by
  simp [execOp,ho,resolve,U,Q,aa,invoke,builtin,hrun]
 have key:∀(b C len:Nat) (N δ O cap:Nat),μ b=some (N,δ,O)→a.eval x=.slice (some ⟨N,δ+C,none⟩) len cap→
   Xj h size b C (bif Nat.ble n len then n else len) src=some r→EJ P ρ μ h a o w (.val r.1 r.2):=fun b C len N δ O cap A g d=>by
  have ab:(bif Nat.ble n len then n else len)=min n len:=by
   cases hb:Nat.ble n len with
   |true=>simp only [cond_true];have:=AX.1 hb;omega
   |false=>
    simp only [cond_false]
    have:¬n≤len:=fun h'=>by rw [AX.2 h']at hb;cases hb
    omega
  rw [ab]at d
  obtain ⟨L,z,j⟩:=RR (P:=P) H hy hs (Nat.min_le_left n len)
  unfold Xj at d
  rw [AP]at d
  by_cases k:min n len=0
  ·rw [if_pos k]at d
   simp only [oI]at d
   subst d
   rw [k]at j z
   simp only [Nat.zero_mul,List.take_zero,Ay]at j
   refine ⟨.value (goInt 0),goInt 0,w,μ,run ?_,.inl rfl,Aw.refl H,by simp only [lit,Ag,ST.den];rfl⟩
   have af:Nat.min n len=0:=k
   simp [Builtin.copy_,run_underlying Z,g,J,q,af,z,j,storeCells,goInt]
  ·rw [if_neg k]at d
   obtain ⟨vs,ag,d⟩:=Ac d
   obtain ⟨new,R,d⟩:=Ac d
   obtain ⟨an,ad,d⟩:=Ac d
   simp only [oI]at d
   subst d
   obtain ⟨rfl,_⟩:=Gq R
   obtain ⟨r1,δ1,m1,M,w',ai,hg⟩:=Hs (P:=P) H ag j ad
   have hg:=hg _ (.inl rfl)
   rw [A]at M
   simp only [oI,Prod.mk.injEq]at M
   obtain ⟨rfl,rfl,rfl⟩:=M
   refine ⟨.value (goInt (min n len:Nat)),_,w',μ,run ?_,.inl rfl,hg,by simp only [lit,Ag,ST.den];rfl⟩
   have ae:(Builtin.firstCells size (Nat.min n len) (a.eval y)).run P w=.ok L w:=z
   simp [Builtin.copy_,run_underlying Z,g,J,q,ae,ai,goInt]
 unfold AaW at d
 split at d
 ·rename_i D
  rw [D]at hx
  have g:a.eval x=.slice none 0 0:=by simpa only [Ag]using hx
  simp only [oI]at d
  subst d
  obtain ⟨L,z,j⟩:=RR (P:=P) H hy hs (Nat.zero_le n)
  refine ⟨.value (goInt 0),goInt 0,w,μ,run ?_,.inl rfl,Aw.refl H,by simp only [lit,Ag,ST.den];rfl⟩
  have k:Nat.min n 0=0:=Nat.min_zero n
  simp [Builtin.copy_,run_underlying Z,g,J,q,k,z,goInt]
 ·rename_i D
  rw [D]at hx
  obtain ⟨N,δ,O,A,g,_⟩:=hx.slice
  exact key _ _ _ _ _ _ _ A g d
 ·rename_i D
  rw [D]at hx
  obtain ⟨N,δ,O,cap,A,g,_⟩:=hx.gslice
  exact key _ _ _ _ _ _ _ A g d
 ·cases d
end
end Go.AM
end
section
namespace Go.AM
section
variable {P:Program} {Γ:Ao} {ρ:Env} {μ:Aq} {tm:Tr Aa} {a:Act} {w:World} {h:Al}
def FJ (L:List Value):Prop:=∀v∈L,∃x:UInt8,v=.int .u8 x.toNat
theorem Yc {v:Aa} (h:Adm v=true):∃n,v=.int .u8 (.lit (.ofNat n))∧n≤255:=by
 unfold Adm at h
 split at h
 ·exact ⟨_,rfl,AX.1 h⟩
 ·cases h
theorem LG:∀{cs:List Aa} {L:List Value},Ay ρ μ cs L→X2 cs=true→FJ L
 |[],L,h,_=>by simp only [Ay]at h;subst h;intro v hv;cases hv
 |c::cs,L,h,d=>by
  simp only [Ay]at h
  obtain ⟨v,rest,rfl,⟨_,hv⟩,k⟩:=h
  have d:(Adm c&&X2 cs)=true:=d
  rw [aT]at d
  intro u g
  cases g with
  |head=>
   obtain ⟨n,j,o⟩:=Yc d.1
   subst j
   have e:=hv.int
   refine ⟨UInt8.ofNat n,?_⟩
   rw [e]
   simp only [ST.den]
   have:(UInt8.ofNat n).toNat=n:=by simp;omega
   rw [this];rfl
  |tail _ hm=>exact LG k d.2 u hm
theorem Tw (l:List UInt8):FJ (l.map fun c=>.int .u8 (c.toNat:Int)):=fun v hv=>by
 obtain ⟨c,_,rfl⟩:=List.mem_map.1 hv
 exact ⟨c,rfl⟩
theorem Mn (H:AO ρ μ h w) {bytes:Bool} {y:Aa} {u:Value} {x n:Nat} (q:Ag ρ μ y u) (hs:AcL h bytes y=some (x,n)):
  ∃k,x≤k∧k≤n∧(Builtin.lenOf u).run P w=.ok k w∧∃L:Array Value,(Builtin.firstCells 1 k u).run P w=.ok L w∧L.size=k∧FJ L.toList:=by
 have str:∀b:ByteArray,u=.string b→(Builtin.lenOf u).run P w=.ok b.size w∧∃L:Array Value,(Builtin.firstCells 1 b.size u).run P w=.ok L w∧L.size=b.size∧FJ L.toList:=fun b e=>by
  subst e
  refine ⟨by simp [Builtin.lenOf],(b.data.map fun c=>.int .u8 c.toNat),?_,by rw [Array.size_map];rfl,?_⟩
  ·have:b.extract 0 b.size=b:=by
    obtain ⟨⟨l⟩⟩:=b
    have:=ByteArray.extract_mk l 0 l.length
    rw [show (⟨⟨l⟩⟩:ByteArray)=ByteArray.mk l.toArray from rfl]
    rw [show (ByteArray.mk l.toArray).size=l.length from by simp [ByteArray.size],this]
    simp
   simp [Builtin.firstCells,this]
  ·simpa using Tw b.data.toList
 have J:∀s,J2 h 1 false y=some s→X2 s.2=true→(s.1,s.1)=(x,n)→∃k,x≤k∧k≤n∧(Builtin.lenOf u).run P w=.ok k w∧∃L:Array Value,(Builtin.firstCells 1 k u).run P w=.ok L w∧L.size=k∧FJ L.toList:=fun s o j C=>by
  simp only [Prod.mk.injEq]at C
  obtain ⟨rfl,rfl⟩:=C
  obtain ⟨d,g,L,N,D⟩:=Dl (P:=P) H q o
  refine ⟨s.1,Nat.le_refl _,Nat.le_refl _,d,L,N,?_,LG D j⟩
  have:=D.length
  simp at this;omega
 unfold AcL at hs
 split at hs
 ·rename_i i
  obtain ⟨r,M,hs⟩:=Ac hs
  simp only [oI]at hs
  obtain ⟨b,e,A⟩:=q.svar
  obtain ⟨d,g⟩:=str b e
  obtain ⟨_,v,z⟩:=H.AY.facts.BA _ (K2 M)
  have v:r.2.1≤(ρ.str i).length:=v
  have z:(ρ.str i).length≤r.2.2:=z
  rw [hs,←A,BL]at v z
  exact ⟨b.size,v,z,d,g⟩
 ·rename_i s
  simp only [oI,Prod.mk.injEq]at hs
  obtain ⟨rfl,rfl⟩:=hs
  obtain ⟨b,e,rfl⟩:=q.str
  obtain ⟨d,g⟩:=str b e
  refine ⟨b.size,?_,?_,d,g⟩<;>rw [Dm,BL]<;>exact Nat.le_refl _
 ·rename_i m
  simp only [oI,Prod.mk.injEq]at hs
  obtain ⟨rfl,rfl⟩:=hs
  obtain ⟨b,e,o,j⟩:=q.anyStr
  obtain ⟨d,g⟩:=str b e
  exact ⟨b.size,o,j,d,g⟩
 ·obtain ⟨s,o,hs⟩:=Ac hs
  obtain ⟨j,hs⟩:=Ap hs
  simp only [oI]at hs
  exact J s o j hs
 ·cases hs
theorem YJ {e:TypeId} {size t:Nat} (h:u8T P e size=some t):t=e∧size=1∧P.underlying e=some (.int .u8)∧∃i,P.info? e=some i∧i.zero=some (.int .u8 0):=by
 unfold u8T at h
 split at h
 ·rename_i i g c
  split at h
  ·rename_i d
   split at h
   ·rename_i hs
    simp only [oI]at h
    exact ⟨h.symm,An.1 hs,g,i,c,d⟩
   ·cases h
  ·cases h
 ·cases h
theorem AO.bytes (H:AO ρ μ h w) {b n e:Nat} (hb:h.get b=some (.bytes n e)):∃r m c,μ b=some (r,0,m)∧w.heap[r]?=some (.cells c e (0,0))∧1≤BR m∧BR m≤n∧n≤1048576∧BR m≤Ca m∧Ca m≤c.size∧∀i,i<Ca m→∃x:UInt8,c[i]?=some (.int .u8 x.toNat):=by
 obtain ⟨r,⟨δ,m⟩,k,c,j,d,g⟩:=H.blk b _ hb
 subst d
 exact ⟨r,m,c,k,j,g⟩
theorem AO.sbytes (H:AO ρ μ h w) {b e:Nat} {n:ST} (hb:h.get b=some (.sbytes n e)):∃r m c,μ b=some (r,0,m)∧w.heap[r]?=some (.cells c e (0,0))∧1≤BR m∧(BR m:Int)≤n.den ρ∧n.den ρ≤1048576∧BR m≤Ca m∧Ca m≤c.size∧∀i,i<Ca m→∃x:UInt8,c[i]?=some (.int .u8 x.toNat):=by
 obtain ⟨r,⟨δ,m⟩,k,c,j,d,g⟩:=H.blk b _ hb
 subst d
 exact ⟨r,m,c,k,j,g⟩
theorem Od {o:Option Block} {m:ST×Nat} (h:H9 o=some m):o=some (.sbytes m.1 m.2):=by
 unfold H9 at h
 split at h
 ·simp only [oI]at h;rw [←h]
 ·cases h
theorem YD (k:Nat):FJ (Builtin.zeroCells (Value.int .u8 0).cells k).toList:=fun v hv=>by
 refine ⟨0,?_⟩
 have hc:(Value.int .u8 0).cells=#[.int .u8 0]:=rfl
 rw [hc]at hv
 unfold Builtin.zeroCells at hv
 simp only [Array.toList_map,List.mem_map]at hv
 obtain ⟨i,_,rfl⟩:=hv
 have:i%(#[Value.int .u8 0]:Array Value).size=0:=Nat.mod_one i
 rw [this];rfl
theorem FJ.append {x y:List Value} (hx:FJ x) (c:FJ y):FJ (x++y):=fun v hv=>by
 rcases List.mem_append.1 hv with h|h
 ·exact hx v h
 ·exact c v h
theorem FJ.get {x:Array Value} (hx:FJ x.toList) {i:Nat} (c:i<x.size):∃u:UInt8,x[i]?=some (.int .u8 u.toNat):=by
 obtain ⟨u,d⟩:=hx x[i] (by simp)
 exact ⟨u,by rw [Array.getElem?_eq_getElem c,d]⟩
theorem Rr {o:Oper} {c:Call} {t u e:TypeId} {d:TypeDesc} {x y:Operand} (ho:o.op=.call c) (aN:c.callee=.builtin .append) (aD:c.args=#[x,y]) (aY:c.argTypes=#[t,u])
  (H:AO ρ μ h w) (hT:Bf ρ μ tm a) (ht:P.underlying t=some (.slice e)) (hu:P.underlying u=some d) (hd:EM d) {i:TypeInfo} (hi:P.info? e=some i) (hb:i.bytes≤1048576) {X:Nat} (he:u8T P e i.size=some X)
  {bytes:Bool} {s:Nat×Nat} (hs:AcL h bytes (ev tm (AJ y))=some s) {r:Aa×Al} (A:R5 h X (ev tm (AJ x)) s.1 s.2=some r):EJ P ρ μ h a o w (.val r.1 r.2):=by
 have hx:=As hT x
 have hy:=As hT y
 obtain ⟨rfl,aw,_,i',ap,hz⟩:=YJ he
 rw [hi]at ap
 simp only [oI]at ap
 subst ap
 obtain ⟨lo,n⟩:=s
 obtain ⟨k,bH,bC,al,L,hL,aH,aI⟩:=Mn (P:=P) H hy hs
 obtain ⟨g,_,_,aX,L',a1,aM,aP⟩:=Mn (P:=P) H.drew hy hs
 have bf:g=k:=by
  have Q:(Builtin.lenOf (a.eval y)).run P w=.ok k w:=al
  have h2:(Builtin.lenOf (a.eval y)).run P w.drew=.ok g w.drew:=aX
  have:∀v:Value,∀k g:Nat,(Builtin.lenOf v).run P w=.ok k w→(Builtin.lenOf v).run P w.drew=.ok g w.drew→g=k:=fun v k g Q h2=>by
   cases v<;>simp [Builtin.lenOf,stuck]at Q h2<;>omega
  exact this _ _ _ Q h2
 subst bf
 have aF:(sizeOf X).run P w=.ok 1 w:=by simp [sizeOf,typeInfo,hi,aw]
 have run:∀{v:Value} {wf:World},(Builtin.append_ #[t,u] o.type #[a.eval x,a.eval y]).run P w=.ok v wf→(execOp a.eval o).run P w=.ok (.value v) wf:=fun {v wf} ah=>by
  simp [execOp,ho,resolve,aN,aD,aY,invoke,builtin,ah]
 have fresh:∀(ae:Option Addr) (len cap:Nat) (NB:Block) (Q:Al) (O:Array Value),a.eval x=.slice ae len cap→cap<len+g→len+g≤1048576→(∀(Z:Aq) (C:Array Value) (D:Nat),BR D=len+g→BR D≤Ca D→Ca D≤C.size→(∀i,i<Ca D→∃x:UInt8,C[i]?=some (.int .u8 x.toNat))→CI ρ Z NB (some (.cells C X (0,0))) (0,D))→1≤len+g→Aw ρ μ h w μ Q w→O.size=len→FJ O.toList→
   (Builtin.firstCells 1 len (.slice ae len cap)).run P w.drew=.ok O w.drew→r=(.gbytes Q.next,Q.add NB)→EJ P ρ μ h a o w (.val r.1 r.2):=fun ae len cap NB Q O e1 bg z ak bo aq bb be hO er=>by
  subst er
  obtain ⟨nc,rest,bG,ai,a6,ah⟩:=DV (P:=P) (ty:=o.type) (O:=O) (L:=L') ht hu hd hi hz al bg (by rw [aw];exact hO) (by rw [aw];exact a1) hb (by omega)
  have a5:(Value.int .u8 0).cells.size=1:=rfl
  rw [a5,Nat.mul_one]at ai
  have bt:(O++L'++rest).size=nc:=by simp only [Array.size_append,bb,aM,ai];omega
  have aL:FJ (O++L'++rest).toList:=by
   rw [Array.toList_append,Array.toList_append]
   exact (be.append aP).append (by rw [a6];exact YD _)
  have R:=B6 (len:=len+g) (cap:=nc) (by omega)
  have ag:=BS (len:=len+g) (cap:=nc) (by omega)
  have aU:=Aw.add aq.rel.drew NB (.cells (O++L'++rest) X) (0,On (len+g) nc) (fun Z bF=>ak Z _ _ R (by omega) (by omega) fun i hi=>aL.get (by omega))
  refine ⟨.value _,_,_,_,run (by rw [e1];exact ah),.inl rfl,(aq.trans (Aw.drew aq.rel)).trans aU,?_⟩
  simp only [Ag]
  exact ⟨_,_,Aq.BQ _ _ _,by rw [R,ag],by omega,by omega⟩
 unfold R5 at A
 split at A
 ·
  rename_i e1
  have aK:=hx
  rw [e1]at hx
  have e2:a.eval x=.slice none 0 0:=by simpa only [Ag]using hx
  simp only [AP]at A
  split at A
  ·split at A
   ·rename_i h0 Q
    have Q:n=0:=Q
    have hk:g=0:=by omega
    subst hk
    simp only [oI]at A
    subst A
    refine ⟨.value (a.eval x),a.eval x,w,μ,run ?_,.inl rfl,Aw.refl H,by rw [e1]at aK⊢;exact aK⟩
    rw [e2]
    exact C2 ht hu hd aF al (by omega) hL rfl
   ·cases A
  ·rename_i h0
   obtain ⟨z,A⟩:=Ap A
   simp only [oI]at A
   have z:=AX.1 z
   exact fresh none 0 0 (.bytes n X) h #[] e2 (by omega) (by omega) (fun Z C D q1 q2 q3 q4=>⟨C,rfl,rfl,by omega,by omega,by omega,q2,q3,q4⟩) (by omega) (Aw.refl H) rfl (fun v hv=>by cases hv) (by simp [Builtin.firstCells]) A.symm
 ·
  rename_i b e1
  rw [e1]at hx
  obtain ⟨r0,m,hm,e2,bD,bE⟩:=hx.gbytes
  have key:∀(B0 NB:Block) (U:Array Value),h.get b=some B0→w.heap[r0]?=some (.cells U X (0,0))→Ca m≤U.size→(∀i,i<Ca m→∃x:UInt8,U[i]?=some (.int .u8 x.toNat))→BR m+g≤1048576→
    (∀(Z:Aq) (C:Array Value) (D:Nat),BR D=BR m+g→BR D≤Ca D→Ca D≤C.size→(∀i,i<Ca D→∃x:UInt8,C[i]?=some (.int .u8 x.toNat))→CI ρ Z NB (some (.cells C X (0,0))) (0,D))→
    r=(.gbytes h.next,(h.set b none).add NB)→EJ P ρ μ h a o w (.val r.1 r.2):=fun B0 NB U M J aj ab z ak er=>by
   by_cases hfit:BR m+g≤Ca m
   ·
    obtain ⟨C,ba,bI,a9⟩:=DU (P:=P) L.toList J (p:=BR m) (by simp [aH];omega) (fun v hv=>by obtain ⟨x,rfl⟩:=aI v hv;rfl)
    have R:=B6 (len:=BR m+g) (cap:=Ca m) (by omega)
    have ag:=BS (len:=BR m+g) (cap:=Ca m) (by omega)
    have bi:=Aw.WT (w':=w.setRow r0 C) H M hm NB (0,On (BR m+g) (Ca m)) (fun i hi=>setRow_other _ _ _ _ hi) (by simp) rfl rfl (fun Z bq=>by
     rw [E8 _ _ _ _ _ _ J]
     refine ak Z C _ R (by omega) (by omega) fun j hj=>?_
     rw [a9]
     split
     ·rename_i a8
      simp only [Array.length_toList,aH]at a8
      obtain ⟨x,hx⟩:=aI.get (i:=j-BR m) (by omega)
      exact ⟨x,by rw [Array.getElem?_toList];exact hx⟩
     ·exact ab j (by omega))
    subst er
    refine ⟨.value _,_,_,_,run (v:=.slice (some ⟨r0,0,none⟩) (BR m+g) (Ca m)) ?_,.inl rfl,bi,?_⟩
    ·rw [e2]
     refine C2 ht hu hd aF al hfit hL ?_
     simp only [Addr.Bl,Nat.mul_one,Nat.zero_add]
     exact ba
    ·simp only [Ag]
     exact ⟨_,_,Aq.BQ _ _ _,by rw [R,ag],by omega,by omega⟩
   ·
    have hO:=run_loadCells_list (P:=P) (w:=w.drew) ⟨r0,0,none⟩ (U.toList.take (BR m)) (fun j v hv=>by
     rw [Addr.Bl]
     show w.cell? _=_
     rw [Cy J,Nat.zero_add]
     rw [List.getElem?_take]at hv
     split at hv
     ·rw [←Array.getElem?_toList];exact hv
     ·cases hv)
    have aJ:(U.toList.take (BR m)).length=BR m:=by simp;omega
    rw [aJ]at hO
    refine fresh _ _ _ NB (h.set b none) (U.toList.take (BR m)).toArray e2 (by omega) z ak (by omega) (Aw.drop H b) (by simpa using aJ) ?_ ?_ er
    ·intro v hv
     simp only at hv
     obtain ⟨j,hj⟩:=List.mem_iff_getElem?.1 hv
     rw [List.getElem?_take]at hj
     split at hj
     ·rename_i bJ
      obtain ⟨x,hx⟩:=ab j (by omega)
      rw [Array.getElem?_toList,hx]at hj
      simp only [oI]at hj
      exact ⟨x,hj.symm⟩
     ·cases hj
    ·simp [Builtin.firstCells,hO]
  unfold Xz at A
  split at A
  ·rename_i mm au
   obtain ⟨ad,ax⟩:=Ap A
   obtain ⟨t',bl,ac⟩:=Ac ax
   simp only [oI]at ac
   have ad:=An.1 ad
   have M:=Od au
   rw [ad]at M
   obtain ⟨r1,m1,U,N,J,bj,a0,a2,bc,aj,ab⟩:=H.sbytes M
   rw [hm]at N
   simp only [oI,Prod.mk.injEq,true_and]at N
   obtain ⟨rfl,rfl⟩:=N
   obtain ⟨q,aG,a7⟩:=Pj bl
   obtain ⟨b1,b2⟩:=H.AY.facts.CO _ a7
   have b1:mm.1.den ρ+(q:Int)≤t'.den ρ:=b1
   have b2:t'.den ρ≤1048576:=b2
   have aG:n≤q:=aG
   exact key _ (.sbytes t' X) U M J aj ab (by omega) (fun Z C D g1 g2 g3 g4=>⟨C,rfl,rfl,by omega,by omega,b2,g2,g3,g4⟩) ac.symm
  ·obtain ⟨mm,au,ax⟩:=Ac A
   obtain ⟨am,ac⟩:=Ap ax
   simp only [oI]at ac
   rw [aT,An,AX]at am
   obtain ⟨ad,z⟩:=am
   have M:=Kc au
   rw [ad]at M
   obtain ⟨r1,m1,U,N,J,bj,a0,a2,bc,aj,ab⟩:=H.bytes M
   rw [hm]at N
   simp only [oI,Prod.mk.injEq,true_and]at N
   obtain ⟨rfl,rfl⟩:=N
   have z:mm.1+n≤1048576:=z
   exact key _ (.bytes (mm.1+n) X) U M J aj ab (by omega) (fun Z C D g1 g2 g3 g4=>⟨C,rfl,rfl,by omega,by omega,z,g2,g3,g4⟩) ac.symm
 ·cases A
theorem Aw.lost {w':World} (H:AO ρ μ h w) {b:Nat} {v:Block} {r:Nat} {δ:Nat×Nat} (hb:h.get b=some v) (z:μ b=some (r,δ))
  (J:∀i,i≠r→w'.heap[i]?=w.heap[i]?) (P:w'.heap.size=w.heap.size) (A:w'.os=w.os) (u:w'.output=w.output):Aw ρ μ h w μ (h.set b none) w':=by
 have k:∀c g s q,(h.set b none).get c=some g→μ c=some (s,q)→h.get c=some g∧s≠r:=fun c g s q hc d=>by
  rw [Al.Bq]at hc
  split at hc
  ·cases hc
  ·rename_i y
   exact ⟨hc,fun e=>y (H.inj _ _ _ _ _ _ _ hc hb d (e▸z))⟩
 have j:∀s,s<w.heap.size→¬AU μ h s→w'.heap[s]?=w.heap[s]?∧¬AU μ (h.set b none) s:=fun s hs x=>by
  refine ⟨J s fun e=>x ⟨b,v,δ,hb,e▸z⟩,?_⟩
  rintro ⟨c,g,q,hc,d⟩
  exact x ⟨c,g,q,(k _ _ _ _ hc d).1,d⟩
 refine ⟨μ.le_refl,⟨fun c hc=>H.fresh c hc,fun c g hc=>?_,fun c X U R s Z Q O N C D=>?_,H.Gr j⟩,by omega,j,A,u,Nat.le_refl _,fun _ _=>rfl,fun _ _ h=>.inl h,rfl⟩
 ·have o:=hc
  rw [Al.Bq]at o
  split at o
  ·cases o
  ·obtain ⟨s,q,d,M⟩:=H.blk c g o
   exact ⟨s,q,d,by rw [J s (k _ _ _ _ hc d).2];exact M⟩
 ·exact H.inj _ _ _ _ _ _ _ (k _ _ _ _ O C).1 (k _ _ _ _ N D).1 C D
theorem Rc (w:World) (r i n:Nat) (c:i≠r):(w.freeze ⟨r,0,none⟩ n).heap[i]?=w.heap[i]?:=by
 unfold World.freeze
 split
 ·rfl
 ·simp only [Array.getElem?_modify]
  rw [if_neg (Ne.symm c)]
theorem SU (w:World) (p:Addr) (n:Nat):(w.freeze p n).heap.size=w.heap.size:=by
 unfold World.freeze
 split<;>simp
theorem Pu (w:World) (p:Addr) (n:Nat):(w.freeze p n).os=w.os∧(w.freeze p n).output=w.output:=by
 unfold World.freeze
 split<;>exact ⟨rfl,rfl⟩
theorem Yp {o:Oper} {c:Call} {pt it e:TypeId} {p n:Operand} (ho:o.op=.call c) (ak:c.callee=.builtin .unsafeString) (ag:c.args=#[p,n]) (au:c.argTypes=#[pt,it])
  (H:AO ρ μ h w) (hT:Bf ρ μ tm a) (hp:P.underlying pt=some (.pointer e)) (hc:P.cellsOf e=1) {r:Hl} (z:YH h e (ev tm (AJ p)) (ev tm (AJ n))=some r):EJ P ρ μ h a o w r:=by
 have hx:=As hT p
 have hy:=As hT n
 have run:∀{v:Value} {wf:World},(Builtin.unsafeString_ #[pt,it] o.type #[a.eval p,a.eval n]).run P w=.ok v wf→(execOp a.eval o).run P w=.ok (.value v) wf:=fun {v wf} N=>by
  simp [execOp,ho,resolve,ak,ag,au,invoke,builtin,N]
 unfold YH at z
 split at z
 ·rename_i e1 e2
  rw [e1]at hx
  rw [e2]at hy
  have f1:a.eval p=.pointer none:=by simpa only [Ag]using hx
  have f2:a.eval n=.int .i64 0:=by have:=hy.int;simpa [ST.den]using this
  simp only [oI]at z
  subst z
  refine ⟨.value (.string .empty),.string .empty,w,μ,run ?_,.inl rfl,Aw.refl H,by simp only [Ag];exact ⟨_,rfl,rfl⟩⟩
  rw [f1,f2]
  exact Lib.run_unsafeString_none w pt it o.type none
 ·rename_i b k e1 e2
  rw [e1]at hx
  rw [e2]at hy
  obtain ⟨ab,U⟩:=Ap z
  clear z
  have ab:=An.1 ab
  subst ab
  obtain ⟨nn,blk,d,rfl,M,g,J,C,u,aa,O,ad,R,Z,X⟩:∃(nn:Nat) (blk:Block),h.get b=some blk∧r=.val (.anyStr nn) (h.set b none)∧∃M g J,μ b=some (M,0,g)∧w.heap[M]?=some (.cells J e (0,0))∧1≤BR g∧BR g≤nn∧nn≤1048576∧BR g≤Ca g∧Ca g≤J.size∧∀i,i<Ca g→∃x:UInt8,J[i]?=some (.int .u8 x.toNat):=by
   unfold AdC at U
   split at U
   ·rename_i sm Q
    obtain ⟨A,z⟩:=Ap U
    have A:=An.1 A
    simp only [oI]at z
    have d:h.get b=some (.sbytes sm.1 sm.2):=by
     unfold H9 at Q
     split at Q
     ·rename_i t' e' hb
      simp only [oI]at Q
      rw [hb,←Q]
     ·cases Q
    rw [A]at d
    obtain ⟨M,⟨δ1,g⟩,C,J,u,h0,aa,O,ad,R,Z,X⟩:=H.blk b _ d
    have h0:δ1=0:=h0
    subst h0
    have O:(BR g:Int)≤sm.1.den ρ:=O
    exact ⟨1048576,_,d,z.symm,M,g,J,C,u,aa,by omega,Nat.le_refl _,R,Z,X⟩
   ·obtain ⟨m,hm,ai⟩:=Ac U
    unfold AdD at ai
    obtain ⟨A,z⟩:=Ap ai
    have A:=An.1 A
    simp only [oI]at z
    have d:=Kc hm
    rw [A]at d
    obtain ⟨M,g,J,C,u,aa,O,ad,R,Z,X⟩:=H.bytes d
    exact ⟨m.1,_,d,z.symm,M,g,J,C,u,aa,O,ad,R,Z,X⟩
  clear U
  obtain ⟨r2,δ2,m2,ae,f1⟩:=hx.ptr
  rw [C]at ae
  simp only [oI,Prod.mk.injEq]at ae
  obtain ⟨rfl,rfl,rfl⟩:=ae
  obtain ⟨r3,m3,ac,f2⟩:=hy.glen
  rw [C]at ac
  simp only [oI,Prod.mk.injEq,true_and]at ac
  obtain ⟨rfl,rfl⟩:=ac
  obtain ⟨l,hl1,hl2⟩:∃l:List UInt8,l.length=BR g∧∀(j:Nat) (x:UInt8),l[j]?=some x→J[j]?=some (Value.int .u8 (x.toNat:Int)):=by
   have:∀q,q≤Ca g→∃l:List UInt8,l.length=q∧∀(j:Nat) (x:UInt8),l[j]?=some x→J[j]?=some (Value.int .u8 (x.toNat:Int)):=fun q=>by
    induction q with
    |zero=>exact fun _=>⟨[],rfl,fun j x D=>by simp at D⟩
    |succ q ih=>
     intro hq
     obtain ⟨l,h1,h2⟩:=ih (by omega)
     obtain ⟨x,hx⟩:=X q (by omega)
     refine ⟨l++[x],by simp [h1],fun j y D=>?_⟩
     rw [List.getElem?_append]at D
     split at D
     ·exact h2 j y D
     ·rename_i aE
      have av:j=q:=by
       have:=(List.getElem?_eq_some_iff.1 D).1
       simp at this;omega
      subst av
      rw [h1]at D
      simp at D
      subst D
      exact hx
   exact this _ R
  have N:=Lib.run_unsafeString_row (P:=P) w pt it o.type e hp hc M J.size (by simp [World.shape?,u]) l (by rintro rfl;simp at hl1;omega) (by omega) (by omega) (fun j x D=>by
   rw [Addr.Bl,Cy u,Nat.zero_add]
   exact hl2 j x D)
  rw [hl1]at N
  have hg:Aw ρ μ h w μ (h.set b none) (w.freeze ⟨M,0,none⟩ (BR g)):=Aw.lost H d C (fun i hi=>Rc w M i _ hi) (SU w _ _) (Pu w _ _).1 (Pu w _ _).2
  refine ⟨.value (.string ⟨l.toArray⟩),_,_,μ,run ?_,.inl rfl,hg,?_⟩
  ·rw [f1,f2];exact N
  ·simp only [Ag]
   exact ⟨_,rfl,by simp [ByteArray.size,hl1];omega,by simp [ByteArray.size,hl1];omega⟩
 ·cases z
end
end Go.AM
end
section
namespace Go.AM
section
variable {P:Program} {Γ:Ao} {ρ:Env} {μ:Aq} {tm:Tr Aa} {a:Act} {w:World} {h:Al}
theorem I0.one {Bg:Nat→Option Obj} {p:PV} {v:Value} (h:I0 Bg p v):v.oneCell'=true:=by
 cases p<;>simp only [I0]at h
 case bool|int|nilp=>subst h;rfl
 case str=>obtain ⟨_,rfl,_⟩:=h;rfl
 case list=>
  obtain ⟨_,_,⟨_,_,rfl⟩|⟨_,_,_,_,rfl,_⟩⟩:=h<;>rfl
theorem AW.one {Bg:Nat→Option Obj} {c:Array Value}:∀{ps:List PV} {δ:Nat},AW Bg c δ ps→∀k v,k<ps.length→c[δ+k]?=some v→v.oneCell'=true
 |[],_,_,k,v,hk,_=>by simp at hk
 |p::ps,δ,h,k,v,hk,hv=>by
  simp only [AW]at h
  obtain ⟨⟨u,g,d⟩,j⟩:=h
  cases k with
  |zero=>
   rw [Nat.add_zero,g]at hv
   simp only [oI]at hv
   subst hv
   exact d.one
  |succ k=>exact AW.one j k v (by simpa using hk) (by rw [show δ+1+k=δ+(k+1) by omega];exact hv)
theorem QA (H:AO ρ μ h w) {f:Bool} {i g:Nat} {t:ST} {u:Value} (hx:Ag ρ μ (.lst f i g t) u):
  (Builtin.lenOf u).run P w=.ok (ρ.lst i).length w∧∃L:Array Value,(Builtin.firstCells g (ρ.lst i).length u).run P w=.ok L w∧AW μ.Bg L 0 (ρ.lst i).flatten∧((ρ.lst i).length≠0→(∀p∈ρ.lst i,p.length=g)∧L.size=(ρ.lst i).length*g):=by
 obtain ⟨p,c,rfl,_,_,J⟩:=hx.Et
 refine ⟨by simp [Builtin.lenOf],?_⟩
 by_cases hz:(ρ.lst i).length=0
 ·have C:ρ.lst i=[]:=List.eq_nil_of_length_eq_zero hz
  refine ⟨#[],?_,by rw [C];simp only [List.flatten_nil,AW],fun h=>absurd hz h⟩
  rw [hz]
  cases p<;>simp [Builtin.firstCells,loadCells,loadCellsFrom]
 ·obtain ⟨r,δ,a,e,rfl,x,N⟩:=J hz
  obtain ⟨_,x⟩:=x
  have y:=(H.AY.Bg _ _ x).1
  have d:=BB.1 N
  obtain ⟨l,k,A,z⟩:=d.2.values
  have o:=BN d.1
  have D:=run_loadCells_list (P:=P) (w:=w) ⟨r,δ,none⟩ l (fun j v hv=>by
   rw [Addr.Bl]
   show w.cell? _=_
   rw [Cy y];exact A j v hv)
  rw [k,o]at D
  refine ⟨l.toArray,by simp [Builtin.firstCells,D],AW.congr (fun q M=>?_) d.2,fun _=>⟨d.1,by simp [k,o]⟩⟩
  have:=z q M
  simpa using this.symm
theorem B8.split:∀{p q:List AR} {l:List (List PV)},B8 ρ (p++q) l→∃x y,l=x++y∧B8 ρ p x∧B8 ρ q y
 |[],q,l,h=>⟨[],l,rfl,rfl,h⟩
 |z::p,q,l,h=>by
  obtain ⟨x,y,rfl,j,g⟩:=h
  obtain ⟨c,o,rfl,k,d⟩:=B8.split g
  exact ⟨x++c,o,(List.append_assoc _ _ _).symm,⟨x,c,rfl,j,k⟩,d⟩
theorem B8.single {p:AR} {l:List (List PV)} (h:B8 ρ [p] l):FI ρ p l:=by
 obtain ⟨x,y,rfl,d,c⟩:=h
 have c:y=[]:=c
 subst c
 rw [List.append_nil];exact d
theorem Um {y:Aa} {bytes:Bool} {l:Nat×Nat×ST} (h:WN y bytes=some l):∃f,y=.lst f l.1 l.2.1 l.2.2:=by
 unfold WN at h
 split at h
 ·cases h
 ·simp only [oI]at h
  subst h
  exact ⟨_,rfl⟩
 ·cases h
theorem Rp {o:Oper} {c:Call} {t u e:TypeId} {d:TypeDesc} {x y:Operand} (ho:o.op=.call c) (bq:c.callee=.builtin .append) (aW:c.args=#[x,y]) (bv:c.argTypes=#[t,u])
  (H:AO ρ μ h w) (hT:Bf ρ μ tm a) (ht:P.underlying t=some (.slice e)) (hu:P.underlying u=some d) (hd:EM d) {i:TypeInfo} (hi:P.info? e=some i) (hb:i.bytes≤1048576) (hz:(i.zero.map fun v=>Nat.beq v.cells.size i.size).getD false=true)
  {bytes:Bool} {l:Nat×Nat×ST} (hs:WN (ev tm (AJ y)) bytes=some l) {r:Aa×Al} (hr:LX h i.size (ev tm (AJ x)) l.1 l.2.1 l.2.2=some r):EJ P ρ μ h a o w (.val r.1 r.2):=by
 have hx:=As hT x
 have hy:=As hT y
 obtain ⟨z,hz,hzs⟩:∃z,i.zero=some z∧z.cells.size=i.size:=by
  cases e:i.zero with
  |none=>rw [e]at hz;simp at hz
  |some z=>rw [e]at hz;exact ⟨z,rfl,An.1 (by simpa using hz)⟩
 obtain ⟨li,es,nt⟩:=l
 obtain ⟨f,e0⟩:=Um hs
 have e0:ev tm (AJ y)=.lst f li es nt:=e0
 rw [e0]at hy
 have hr:LX h i.size (ev tm (AJ x)) li es nt=some r:=hr
 unfold LX at hr
 obtain ⟨hc,be⟩:=Ap hr
 obtain ⟨p,g,bh⟩:=Ac be
 obtain ⟨j,hj,bf⟩:=Ac bh
 obtain ⟨tt,bQ,a0⟩:=Ac bf
 obtain ⟨aA,C⟩:=Ap a0
 simp only [oI]at C
 clear hr be bh bf a0
 rw [aT,An]at hc
 obtain ⟨U,br⟩:=hc
 have hΓ:=H.AY.facts
 have bF:nt.den ρ=((ρ.lst li).length:Int):=hy.lst.2.1
 have bj:0<(ρ.lst li).length:=by
  have:=U2 hΓ br
  simp only [ST.den,Int.ofNat_eq_natCast]at this
  omega
 have b9:tt.den ρ≤1048576:=by
  have:=GA hΓ aA
  simpa [ST.den]using this
 have bc:tt.den ρ=((ρ.lst j).length:Int):=hΓ.Ad _ (CE bQ)
 obtain ⟨J,Y0,ba,M,a4⟩:=B8.split (hΓ.defs _ (Fc hj))
 have bI:Y0=ρ.lst li:=B8.single a4
 clear a4
 subst bI
 have ej:ρ.lst j=J++ρ.lst li:=ba
 clear ba
 subst U
 obtain ⟨az,L,hL,aD,bb⟩:=QA (P:=P) H hy
 obtain ⟨ad,a8⟩:=bb (by omega)
 obtain ⟨_,L',a5,aG,aH⟩:=QA (P:=P) H.drew hy
 obtain ⟨_,aC⟩:=aH (by omega)
 clear bb aH
 generalize hBg:ρ.lst li=B at bj bF ej az hL aD ad a8 a5 aG aC
 have bU:(sizeOf e).run P w=.ok i.size w:=by simp [sizeOf,typeInfo,hi]
 have run:∀{v:Value} {wf:World},(Builtin.append_ #[t,u] o.type #[a.eval x,a.eval y]).run P w=.ok v wf→(execOp a.eval o).run P w=.ok (.value v) wf:=fun {v wf} af=>by
  simp [execOp,ho,resolve,bq,aW,bv,invoke,builtin,af]
 have D:∀(ah:Option Addr) (len cap:Nat) (h1:Al) (X:List (List PV)) (O:Array Value),a.eval x=.slice ah len cap→cap<len+B.length→Aw ρ μ h w μ h1 w→J=X→X.length=len→(∀p∈X,p.length=i.size)→
   (Builtin.firstCells i.size len (.slice ah len cap)).run P w.drew=.ok O w.drew→O.size=len*i.size→AW μ.Bg O 0 X.flatten→r=(.vec h1.next i.size tt,h1.add (.list j i.size))→EJ P ρ μ h a o w (.val r.1 r.2):=fun ah len cap h1 X O Z bZ ax bX ao aa R bO hX er=>by
  subst er
  subst bX
  have ac:(ρ.lst j).length=len+B.length:=by rw [ej,lA];omega
  obtain ⟨nc,rest,aZ,aK,_,af⟩:=DV (P:=P) (ty:=o.type) (O:=O) (L:=L') ht hu hd hi hz az bZ R a5 hb (by omega)
  have bo:(O++L'++rest).size=nc*i.size:=by
   simp only [Array.size_append,bO,aC,aK,hzs]
   rw [←Nat.add_mul,←Nat.add_mul]
   congr 1;omega
  have ce:J.flatten.length=len*i.size:=by rw [BN aa,ao]
  have bV:B.flatten.length=B.length*i.size:=BN ad
  have aj:BU μ.Bg i.size (O++L'++rest) 0 (ρ.lst j):=by
   rw [BB]
   refine ⟨fun p g=>?_,?_⟩
   ·rw [ej,List.mem_append]at g
    exact g.elim (aa p) (ad p)
   ·rw [ej,List.flatten_append,AW.append_iff]
    refine ⟨AW.congr (fun k hk=>?_) hX,AW.congr (fun k hk=>?_) aG⟩
    ·rw [Array.append_assoc,Array.getElem?_append_left (by omega)]
    ·rw [Array.append_assoc,Array.getElem?_append_right (by omega),Array.getElem?_append_left (by omega)]
     congr 1;omega
  have bt:=Aw.add ax.rel.drew (.list j i.size) (.cells (O++L'++rest) e) (0,On (len+B.length) nc) (fun μ' aA=>by
   refine ⟨_,e,rfl,rfl,?_,?_,?_,?_,BU.mono aA.Bg aj⟩
   ·rw [B6 (by omega)];omega
   ·rw [B6 (by omega)];omega
   ·rw [B6 (by omega),BS (by omega)];exact aZ
   ·rw [BS (by omega),bo];exact Nat.le_refl _)
  refine ⟨.value _,_,_,_,run (by rw [Z];exact af),.inl rfl,(ax.trans (Aw.drew ax.rel)).trans bt,?_⟩
  simp only [Ag]
  refine ⟨_,_,len+B.length,Aq.BQ _ _ _,?_,?_,?_,?_⟩
  ·rw [BS (by omega)]
  ·rw [bc,ac]
  ·rw [B6 (by omega)];exact Nat.le_refl _
  ·rw [B6 (by omega),BS (by omega)];exact aZ
 unfold PD at g
 split at g
 ·
  rename_i Z
  simp only [oI]at g
  subst g
  have M:J=[]:=M
  rw [Z]at hx C
  have Q:a.eval x=.slice none 0 0:=by simpa only [Ag]using hx
  exact D none 0 0 h [] #[] Q (by omega) (Aw.refl H) M rfl (fun _ N=>by cases N) (by simp [Builtin.firstCells]) (by simp) (by simp only [List.flatten_nil,AW]) C.symm
 ·
  rename_i b cf len cap Z
  obtain ⟨aI,a7⟩:=Ap g
  clear g
  have aY:=An.1 aI
  clear aI
  subst aY
  have g:=a7
  clear a7
  have b0:=hx
  rw [Z]at hx C
  obtain ⟨r0,δ,m,hm,Q,_⟩:=hx.slice
  rw [AP]at g
  split at g
  ·rename_i aF
   subst aF
   simp only [oI]at g
   subst g
   have M:J=[]:=M
   exact D _ 0 0 h [] #[] Q (by omega) (Aw.refl H) M rfl (fun _ N=>by cases N) (by simp [Builtin.firstCells,loadCells,loadCellsFrom]) (by simp) (by simp only [List.flatten_nil,AW]) C.symm
  ·rename_i aF
   obtain ⟨s,ay,g⟩:=Ac g
   obtain ⟨cb,g⟩:=Ap g
   obtain ⟨cs,a2,g⟩:=Ac g
   simp only [oI]at g
   subst g
   have ab:Eg ρ cs J:=B8.single M
   obtain ⟨c1,c2,c3⟩:=DM a2
   obtain ⟨f1,f2,f3⟩:=Eg.flat ab
   have bP:J2 h i.size false (ev tm (AJ x))=some s:=by rw [Z];exact ay
   obtain ⟨_,aN,O,R,an⟩:=Dl (P:=P) (w:=w.drew) H.drew b0 (n:=s.1) (cs:=s.2) bP
   have bS:s.1=len:=by
    have A:=ay
    unfold Mm at A
    rw [AP,if_neg aF]at A
    obtain ⟨_,_,A⟩:=Ac A
    obtain ⟨_,_,A⟩:=Ac A
    simp only [oI]at A;rw [←A]
   rw [bS]at aN R
   rw [Q]at R
   rw [c1]at f1
   refine D _ _ _ h J O Q (by omega) (Aw.refl H) rfl (by omega) (f3 _ c3) R ?_ ?_ C.symm
   ·have:=an.length;simp at this;omega
   ·exact Ay.freeze f1 an fun q v hv=>by simpa using hv
 ·
  rename_i k aX m Z
  obtain ⟨U,g⟩:=Ap g
  simp only [oI]at g
  subst g
  have U:=An.1 U
  subst U
  have ab:J=ρ.lst k:=B8.single M
  rw [Z]at hx C
  obtain ⟨_,_,aJ⟩:=hx.lst
  obtain ⟨q,Q⟩:=aJ rfl
  obtain ⟨_,O,R,bR,bK⟩:=QA (P:=P) H.drew hx
  rw [Q]at R
  by_cases hz0:(ρ.lst k).length=0
  ·have aB:ρ.lst k=[]:=List.eq_nil_of_length_eq_zero hz0
   refine D _ _ _ h (ρ.lst k) #[] Q (by omega) (Aw.refl H) ab rfl (fun q N=>by rw [aB]at N;cases N) ?_ (by simp [hz0]) (by rw [aB];simp only [List.flatten_nil,AW]) C.symm
   rw [hz0]
   cases q<;>simp [Builtin.firstCells,loadCells,loadCellsFrom]
  ·obtain ⟨h2,h3⟩:=bK hz0
   exact D _ _ _ h (ρ.lst k) O Q (by omega) (Aw.refl H) ab rfl h2 R h3 bR C.symm
 ·
  rename_i b aX m Z
  obtain ⟨⟨bi,bH⟩,bd,g⟩:=Ac g
  obtain ⟨bg,g⟩:=Ap g
  simp only [oI]at g
  subst g
  rw [aT,An,An]at bg
  obtain ⟨U,ag⟩:=bg
  have ag:bH=aX:=ag
  subst ag
  subst U
  have ab:FI ρ (.take bi m) J:=B8.single M
  rw [Z]at hx C
  have C:(Aa.vec h.next i.size tt,(h.set b none).add (.list j i.size))=r:=C
  obtain ⟨r0,m0,k,hm,Q,hk,cc,aY⟩:=hx.vec
  obtain ⟨r1,⟨δ1,m1⟩,aw,c0,ty,am,h0,h1,h2,h3,h4,h5⟩:=H.blk b _ (Df bd)
  rw [hm]at aw
  simp only [oI,Prod.mk.injEq]at aw
  obtain ⟨rfl,rfl,rfl⟩:=aw
  have h1:(ρ.lst bi).length≤BR m0:=h1
  have h4:Ca m0*i.size≤c0.size:=h4
  have h5:BU μ.Bg i.size c0 0 (ρ.lst bi):=h5
  obtain ⟨_,a9,ae⟩:=ab
  have a9:k≤(ρ.lst bi).length:=by rw [hk]at a9;omega
  have ae:J=(ρ.lst bi).take k:=by rw [ae,hk];rfl
  have aa:∀p∈J,p.length=i.size:=fun p g=>(BB.1 h5).1 p (List.mem_of_mem_take (by rw [ae]at g;exact g))
  have ao:J.length=k:=by rw [ae,lT'];omega
  have hX:AW μ.Bg c0 0 J.flatten:=by
   have:=(BB.1 h5).2
   rw [←List.take_append_drop k (ρ.lst bi),List.flatten_append,AW.append_iff]at this
   rw [ae];exact this.1
  have a6:J.flatten.length=k*i.size:=by rw [BN aa,ao]
  by_cases hfit:k+B.length≤Ca m0
  ·
   have ac:(ρ.lst j).length=k+B.length:=by rw [ej,lA];omega
   have bk:(k+B.length)*i.size≤Ca m0*i.size:=Nat.mul_le_mul_right _ hfit
   rw [Nat.add_mul]at bk
   have bV:B.flatten.length=B.length*i.size:=BN ad
   have cg:L.toList.length=B.length*i.size:=by simpa using a8
   have bA:∀v∈L.toList,v.oneCell'=true:=fun v hv=>by
    obtain ⟨q,N⟩:=List.mem_iff_getElem?.1 hv
    have cd:=(List.getElem?_eq_some_iff.1 N).1
    exact aD.one q v (by omega) (by rw [Nat.zero_add,←Array.getElem?_toList];exact N)
   obtain ⟨c',bC,a2,a1⟩:=DU (P:=P) L.toList am (p:=k*i.size) (by omega) bA
   have aj:BU μ.Bg i.size c' 0 (ρ.lst j):=by
    rw [BB]
    refine ⟨fun p g=>?_,?_⟩
    ·rw [ej,List.mem_append]at g
     exact g.elim (aa p) (ad p)
    ·rw [ej,List.flatten_append,AW.append_iff]
     refine ⟨AW.congr (fun q N=>?_) hX,AW.congr (fun q N=>?_) aD⟩
     ·rw [a1,if_neg (by omega)]
     ·rw [a1,if_pos (by omega),←Array.getElem?_toList]
      congr 1;omega
   have bT:=Aw.WT (w':=w.setRow r0 c') H (Df bd) hm (.list j i.size) (0,On (k+B.length) (Ca m0)) (fun i hi=>setRow_other _ _ _ _ hi) (by simp) rfl rfl (fun μ' bm=>by
    rw [E8 _ _ _ _ _ _ am]
    refine ⟨c',ty,rfl,rfl,?_,?_,?_,?_,BU.mono bm.Bg aj⟩
    ·rw [B6 (by omega)];omega
    ·rw [B6 (by omega)];omega
    ·rw [B6 (by omega),BS (by omega)];exact hfit
    ·rw [BS (by omega)];omega)
   subst C
   refine ⟨.value _,_,_,_,run (v:=.slice (some ⟨r0,0,none⟩) (k+B.length) (Ca m0)) ?_,.inl rfl,bT,?_⟩
   ·rw [Q]
    refine C2 ht hu hd bU az hfit hL ?_
    simp only [Addr.Bl,Nat.zero_add]
    exact bC
   ·simp only [Ag]
    refine ⟨_,_,k+B.length,Aq.BQ _ _ _,?_,?_,?_,?_⟩
    ·rw [BS (by omega)]
    ·rw [bc,ac]
    ·rw [B6 (by omega)];exact Nat.le_refl _
    ·rw [B6 (by omega),BS (by omega)];exact hfit
  ·
   obtain ⟨l,a3,bn,bl⟩:=hX.values
   have R:=run_loadCells_list (P:=P) (w:=w.drew) ⟨r0,0,none⟩ l (fun j v hv=>by
    rw [Addr.Bl]
    show w.cell? _=_
    rw [Cy am];exact bn j v hv)
   rw [a3,a6]at R
   refine D _ _ _ (h.set b none) J l.toArray Q (by omega) (Aw.drop H b) rfl ao aa (by simp [Builtin.firstCells,R]) (by simp [a3,a6]) (AW.congr (fun q N=>?_) hX) ?_
   ·have:=bl q N
    simpa using this.symm
   ·rw [←C];rfl
 ·cases g
end
end Go.AM
end
section
namespace Go.AM
theorem Iq (b off len es j:Nat) (v:Aa) (r:List Aa):LO b off len es j (v::r)=UK b off len es j v::LO b off len es j r:=rfl
theorem Nd {b off len es j:Nat}:∀{l:List Aa} {i:Nat},(LO b off len es j l)[i]?=(l[i]?).map (UK b off len es j)
 |[],i=>by show ([]:List Aa)[i]?=_;simp
 |v::r,i=>by
  rw [Iq]
  cases i with
  |zero=>simp
  |succ i=>simpa using Nd (l:=r) (i:=i)
def Aq.Ey (μ:Aq) (r:Nat) (o:Option Obj):Aq:=⟨μ.spot,fun g=>if g=r then o else μ.Bg g⟩
section
variable {ρ:Env} {μ:Aq} {w:World} {h:Al} {b off len es j:Nat}
theorem Aq.JK {r:Nat} {o:Option Obj} (c:∀x,μ.Bg r=some x→o=some x):μ.le (μ.Ey r o):=
 ⟨fun _ _ e=>e,fun g x e=>by
  show (if g=r then o else μ.Bg g)=some x
  by_cases hg:g=r
  ·subst hg;rw [if_pos rfl];exact c x e
  ·rw [if_neg hg];exact e⟩
structure Frz (ρ:Env) (μ:Aq) (b off len es j r δ m:Nat) (c:Array Value) (e:TypeId):Prop where
 spot:μ b=some (r,δ,m)
 len:(ρ.lst j).length=len
 Bg:μ.Bg r=some (.cells c e (0,0))
 rep:BU μ.Bg es c (δ+off) (ρ.lst j)
theorem HI {r δ m:Nat} {c:Array Value} {e:TypeId} (F:Frz ρ μ b off len es j r δ m c e) {v:Aa} {u:Value} (hv:Ag ρ μ v u):Ag ρ μ (UK b off len es j v) u∧(UK b off len es j v).single=v.single:=by
 have key:∀(cap:Nat),u=.slice (some ⟨r,δ+off,none⟩) len cap→len≤cap→Ag ρ μ (.lst false j es (.lit (.ofNat len))) u:=fun cap D hc=>by
  simp only [Ag,I0]
  refine ⟨⟨cap,by rw [F.len];exact hc,.inr ⟨r,δ+off,c,e,by rw [F.len];exact D,⟨_,F.Bg⟩,F.rep⟩⟩,?_,fun e=>by cases e⟩
  rw [F.len];rfl
 unfold UK
 split
 ·rename_i x g d cap
  cases hc:Nat.beq b x&&(Nat.beq off g&&Nat.beq len d)with
  |false=>exact ⟨hv,rfl⟩
  |true=>
   rw [aT,aT,An,An,An]at hc
   obtain ⟨rfl,rfl,rfl⟩:=hc
   obtain ⟨A,z,C,k,o,q⟩:=hv.slice
   rw [F.spot]at k
   simp only [oI,Prod.mk.injEq]at k
   obtain ⟨rfl,rfl,rfl⟩:=k
   refine ⟨?_,rfl⟩
   have y:=key cap o q
   simp only [Ag]at y⊢
   obtain ⟨H,J,_⟩:=y
   refine ⟨H,J,fun e=>?_⟩
   have e:=An.1 e
   exact ⟨_,by rw [F.len];rw [o,e]⟩
 ·rename_i x g d M
  cases hc:Nat.beq b x&&(Nat.beq off g&&Nat.beq len d)with
  |false=>exact ⟨hv,rfl⟩
  |true=>
   rw [aT,aT,An,An,An]at hc
   obtain ⟨rfl,rfl,rfl⟩:=hc
   obtain ⟨A,z,C,cap,k,o,q,_⟩:=hv.gslice
   rw [F.spot]at k
   simp only [oI,Prod.mk.injEq]at k
   obtain ⟨rfl,rfl,rfl⟩:=k
   exact ⟨key cap o q,rfl⟩
 ·exact ⟨hv,rfl⟩
theorem Rb {r δ m:Nat} {c:Array Value} {e:TypeId} (F:Frz ρ μ b off len es j r δ m c e):∀{l:List Aa} {us:List Value},Ay ρ μ l us→Ay ρ μ (LO b off len es j l) us
 |[],us,h=>h
 |v::l,us,h=>by
  rw [Iq]
  simp only [Ay]at h⊢
  obtain ⟨u,rest,rfl,⟨g,d⟩,k⟩:=h
  obtain ⟨q,o⟩:=HI F d
  exact ⟨u,rest,rfl,⟨by rw [o];exact g,q⟩,Rb F k⟩
theorem FC {o:Option Bool}:Ds o=true↔o=some true:=by
 unfold Ds
 split
 ·simp
 ·rename_i h
  constructor
  ·intro e;cases e
  ·intro e;exact absurd e h
theorem Nc {Γ:Ao} (z:Γ.AL ρ) {vs:List Aa} (q:Pt Γ off len es j vs=true):∃cs,cut vs off (len*es)=some cs∧(ρ.lst j).length=len∧(∀p∈ρ.lst j,p.length=es)∧CP ρ (CU cs) (ρ.lst j).flatten:=by
 unfold Pt at q
 obtain ⟨cs,v,x⟩:=Ac (FC.1 q)
 obtain ⟨_,o⟩:=Ap x
 obtain ⟨E,J,y⟩:=Ac o
 obtain ⟨j',k,c⟩:=Ac y
 simp only [oI]at c
 have c:=An.1 c
 subst c
 obtain ⟨H,N,D⟩:=DM J
 obtain ⟨A,B,d,C,g⟩:=z.defs _ (Fc k)
 have g:B=[]:=g
 subst g
 rw [List.append_nil]at d
 have d:ρ.lst j'=A:=d
 subst d
 obtain ⟨u,O,M⟩:=Eg.flat C
 exact ⟨cs,v,by omega,M es D,by rw [H]at u;exact u⟩
theorem N3 {vs cs:List Aa} {c:Array Value} {δ n:Nat} (hc:∀(i:Nat) (x:Aa),vs[i]?=some x→∃v,c[δ+i]?=some v∧x.single=true∧Ag ρ μ x v) (d:cut vs off n=some cs) {ps:List PV} (hd:CP ρ (CU cs) ps):AW μ.Bg c (δ+off) ps:=by
 obtain ⟨l,k,g,j⟩:=DL hc d
 exact Ay.freeze hd g fun i v hv=>j i v hv
theorem Yq (H:AO ρ μ h w) {R:Block} {r:Nat} {M:Nat×Nat} (hb:h.get b=some R) (N:μ b=some (r,M)):
  AO ρ (μ.Ey r w.heap[r]?) (h.set b none) w∧Aw ρ μ h w (μ.Ey r w.heap[r]?) (h.set b none) w:=by
 have k:AU μ h r:=⟨b,_,M,hb,N⟩
 have C:∀x,μ.Bg r=some x→w.heap[r]?=some x:=fun x hx=>absurd k (H.AY.Bg r x hx).2
 have y:μ.le (μ.Ey r w.heap[r]?):=Aq.JK C
 have j:∀d B,(h.set b none).get d=some B→h.get d=some B∧d≠b:=fun d B hd=>by
  have hd:(Tr.set h.DP b none).get d=some B:=hd
  rw [Tr.Bq]at hd
  by_cases e:d=b
  ·rw [if_pos e]at hd;cases hd
  ·rw [if_neg e]at hd;exact ⟨hd,e⟩
 have c:∀s,AU (μ.Ey r w.heap[r]?) (h.set b none) s→AU μ h s∧s≠r:=fun s ⟨d,B,x,D,v⟩=>by
  obtain ⟨u,J⟩:=j d B D
  exact ⟨⟨d,B,x,u,v⟩,fun e=>J (H.inj _ _ _ _ _ _ _ u hb v (e▸N))⟩
 have O:AO ρ (μ.Ey r w.heap[r]?) (h.set b none) w:=by
  refine ⟨fun d hd=>H.fresh d hd,fun d B hd=>?_,fun d Z B B' s x x' D v X P=>?_,⟨fun g o hg=>?_,fun g o hg=>?_,H.AY.facts⟩⟩
  ·obtain ⟨u,J⟩:=j d B hd
   obtain ⟨s,x,U,Q⟩:=H.blk d B u
   exact ⟨s,x,U,Q.mono y⟩
  ·exact H.inj _ _ _ _ _ _ _ (j _ _ D).1 (j _ _ v).1 X P
  ·obtain ⟨z,A⟩:=H.AY.AY g o hg
   exact ⟨z,fun e=>A (c g e).1⟩
  ·have hg:(if g=r then w.heap[r]? else μ.Bg g)=some o:=hg
   by_cases e:g=r
   ·subst e
    rw [if_pos rfl]at hg
    exact ⟨hg,fun q=>(c _ q).2 rfl⟩
   ·rw [if_neg e]at hg
    obtain ⟨z,A⟩:=H.AY.Bg g o hg
    exact ⟨z,fun q=>A (c g q).1⟩
 refine ⟨O,⟨y,O,Nat.le_refl _,fun s _ hs=>⟨rfl,fun q=>hs (c s q).1⟩,rfl,rfl,Nat.le_refl _,fun _ _=>rfl,fun g o hg=>?_,rfl⟩⟩
 have hg:(if g=r then w.heap[r]? else μ.Bg g)=some o:=hg
 by_cases e:g=r
 ·subst e;exact .inr (.inl k)
 ·rw [if_neg e]at hg;exact .inl hg
theorem NA (H:AO ρ μ h w) (z:Nat×Nat×Nat×Nat×Nat) (new:List Aa):
  ∃d,AO ρ d (Ft h z new).1 w∧Aw ρ μ h w d (Ft h z new).1 w∧∀us,Ay ρ μ new us→Ay ρ d (Ft h z new).2 us:=by
 have same:∃d,AO ρ d h w∧Aw ρ μ h w d h w∧∀us,Ay ρ μ new us→Ay ρ d new us:=⟨μ,H,Aw.refl H,fun _ h=>h⟩
 unfold Ft
 split
 case h_2=>exact same
 rename_i vs hb
 cases hk:Pt h.fx z.2.1 z.2.2.1 z.2.2.2.1 z.2.2.2.2 vs with
 |false=>exact same
 |true=>
 simp only [cond_true]
 obtain ⟨b,off,len,es,j⟩:=z
 simp only at hb hk⊢
 obtain ⟨cs,v,k,q,hd⟩:=Nc H.AY.facts hk
 obtain ⟨r,⟨δ,m⟩,y,c,t,C,J,hc⟩:=H.blk b _ hb
 obtain ⟨D,A⟩:=Yq H hb y
 have u:AU μ h r:=⟨b,_,(δ,m),hb,y⟩
 have g:μ.le (μ.Ey r w.heap[r]?):=Aq.JK fun x hx=>absurd u (H.AY.Bg r x hx).2
 have o:AW μ.Bg c (δ+off) (ρ.lst j).flatten:=N3 hc v hd
 have Z:Frz ρ (μ.Ey r w.heap[r]?) b off len es j r δ m c t:=by
  refine ⟨y,k,?_,?_⟩
  ·show (if r=r then w.heap[r]? else μ.Bg r)=_
   rw [if_pos rfl];exact C
  ·exact BU.mono g.Bg (BB.2 ⟨q,o⟩)
 exact ⟨_,D,A,fun us h=>Rb Z (h.mono g)⟩
theorem HX:∀(l:List (Nat×Nat×Nat×Nat×Nat)) {μ:Aq} {h:Al} (new:List Aa),AO ρ μ h w→
  ∃c,AO ρ c (Gl l h new).1 w∧Aw ρ μ h w c (Gl l h new).1 w∧∀us,Ay ρ μ new us→Ay ρ c (Gl l h new).2 us
 |[],μ,h,new,H=>⟨μ,H,Aw.refl H,fun _ h=>h⟩
 |z::l,μ,h,new,H=>by
  obtain ⟨u,o,g1,q⟩:=NA H z new
  obtain ⟨d,j,g2,g⟩:=HX l (Ft h z new).2 o
  exact ⟨d,j,g1.trans g2,fun us k=>g us (q us k)⟩
end
section
variable {P:Program} {ρ:Env} {μ:Aq} {tm:Tr Aa} {a:Act} {w:World} {h:Al}
theorem Rq {o:Oper} {c:Call} {t u e:TypeId} {d:TypeDesc} {x y:Operand} (J:o.op=.call c) (k:c.callee=.builtin .append) (j:c.args=#[x,y]) (q:c.argTypes=#[t,u])
  (H:AO ρ μ h w) (A:Bf ρ μ tm a) (M:P.underlying t=some (.slice e)) (R:P.underlying u=some d) (hd:EM d) {i:TypeInfo} (N:P.info? e=some i) (hb:i.bytes≤1048576) (Q:(i.zero.map fun v=>Nat.beq v.cells.size i.size).getD false=true)
  {bytes:Bool} {s:Nat×List Aa} (hs:J2 h i.size bytes (ev tm (AJ y))=some s) {r:Aa×Al} (g:R4 h i.size (ev tm (AJ x)) s.1 s.2=some r):EJ P ρ μ h a o w (.val r.1 r.2):=by
 unfold R4 at g
 split at g
 ·rename_i b es m U
  rw [←U]at g
  cases hden:Rt s.2 with
  |true=>rw [hden]at g;exact Lw J k j q H A M R hd N hb Q hs g
  |false=>
   rw [hden]at g
   simp only [cond_false]at g
   obtain ⟨n,new⟩:=s
   have X:=As A y
   obtain ⟨μ1,H1,g1,O⟩:=HX h.fx.BJ new H
   obtain ⟨q1,q2,L1,Z,C⟩:=Dl (P:=P) H X hs
   obtain ⟨p1,p2,L2,p3,p4⟩:=Dl (P:=P) H.drew X hs
   have z:(Gl h.fx.BJ h new).2.length=n*i.size:=by
    have U:=(O _ C).length
    have e2:=C.length
    omega
   have D:=Gj (P:=P) J k j q H1 (A.mono g1.le) M R hd N hb Q (n:=n) (new:=(Gl h.fx.BJ h new).2) (fun w' hw=>by
    rcases hw with rfl|rfl
    ·exact ⟨q1,z,L1,Z,O _ C⟩
    ·exact ⟨p1,z,L2,p3,O _ p4⟩) g
   obtain ⟨nx,v,w',μ',d1,d2,d3,d4⟩:=D
   exact ⟨nx,v,w',μ',d1,d2,g1.trans d3,d4⟩
 ·exact Lw J k j q H A M R hd N hb Q hs g
end
end Go.AM
end
section
namespace Go.AM
section
variable {P:Program} {Γ:Ao} {ρ:Env} {μ:Aq} {tm:Tr Aa} {a:Act} {w:World} {h:Al}
theorem Li (H:AO ρ μ h w) (C:Bf ρ μ tm a) {pl:List C3} {o:Oper} {q:MOp} (hc:D6 P pl o=some (.m q)) {r:Hl} (A:Kx tm h q=some r):EJ P ρ μ h a o w r:=by
 cases hop:o.op<;>simp only [D6,hop,reduceCtorEq,oI]at hc
 case store t x y=>
  obtain ⟨n,v,e⟩:=mS hc
  simp only [DO.m.injEq]at e
  subst e
  obtain ⟨h',hs,e⟩:=Ac A
  simp only [oI]at e
  subst e
  exact UY hop H C v hs
 case insert t m k x=>
  split at hc
  ·rename_i kt e D
   obtain ⟨kk,Z,e⟩:=mS hc
   simp only [DO.m.injEq]at e
   subst e
   obtain ⟨h',hs,e⟩:=Ac A
   simp only [oI]at e
   subst e
   exact N2 (.inr hop) H C D Z hs
  ·cases hc
 case mapUpdate t m k x=>
  split at hc
  ·rename_i kt e D
   obtain ⟨kk,Z,e⟩:=mS hc
   simp only [DO.m.injEq]at e
   subst e
   obtain ⟨h',hs,e⟩:=Ac A
   simp only [oI]at e
   subst e
   exact N2 (.inl hop) H C D Z hs
  ·cases hc
 case panic x=>
  simp only [DO.m.injEq]at hc
  subst hc
  exact UZ hop C A
 case call c=>
  unfold Fq at hc
  split at hc
  ·rename_i f hf
   split at hc
   ·rename_i fn X
    split at hc
    ·simp only [oI,DO.m.injEq]at hc
     subst hc
     simp only [Kx]at A
     obtain ⟨p,g,e⟩:=Ac A
     simp only [oI]at e
     subst e
     exact P6 hop hf C g
    ·rename_i hb
     split at hc
     ·rename_i v
      split at hc
      ·rename_i x N
       have J:c.args=#[x]:=by rw [←Array.toList_inj];simpa using N
       simp only [oI,DO.m.injEq]at hc
       subst hc
       rw [aT,beq_iff_eq,beq_iff_eq]at v
       exact Vc hop hf J X (by simpa using hb) v.1 v.2 H C A
      ·cases hc
     ·split at hc
      ·rename_i v
       split at hc
       ·rename_i x N
        have J:c.args=#[x]:=by rw [←Array.toList_inj];simpa using N
        simp only [oI,DO.m.injEq]at hc
        subst hc
        rw [aT,beq_iff_eq,beq_iff_eq]at v
        exact Va hop hf J X (by simpa using hb) v.1 v.2 H C A
       ·cases hc
      ·cases hc
   ·cases hc
  ·rename_i f _ hf
   simp only [oI,DO.m.injEq]at hc
   subst hc
   obtain ⟨p,g,e⟩:=Ac A
   simp only [oI]at e
   subst e
   exact P6 hop hf C g
  ·cases hc
  ·rename_i b hb
   split at hc
   ·split at hc<;>simp at hc
   ·rename_i x y t u N Q
    have J:c.args=#[x,y]:=by rw [←Array.toList_inj];simpa using N
    have O:c.argTypes=#[t,u]:=by rw [←Array.toList_inj];simpa using Q
    have app:∀{e:TypeId} {bytes:Bool} {d:TypeDesc},P.underlying t=some (.slice e)→P.underlying u=some d→EM d→EX P e bytes x y=some (.m q)→EJ P ρ μ h a o w r:=fun {e bytes d} M D hd hc=>by
     unfold EX at hc
     split at hc
     ·rename_i i R
      split at hc
      ·rename_i j
       rw [aT,decide_eq_true_eq]at j
       simp only [oI,DO.m.injEq]at hc
       subst hc
       obtain ⟨p,g,e⟩:=Ac A
       simp only [oI]at e
       subst e
       unfold Tq at g
       split at g
       ·rename_i e' h8 hh
        obtain ⟨s,hs,g⟩:=Ac g
        exact Rr hop hb J O H C M D hd R j.1 h8 hs g
       ·unfold Xy at g
        split at g
        ·rename_i l hl
         exact Rp hop hb J O H C M D hd R j.1 j.2 hl g
        ·obtain ⟨s,hs,g⟩:=Ac g
         exact Rq hop hb J O H C M D hd R j.1 j.2 hs g
      ·cases hc
     ·cases hc
    split at hc
    ·rename_i M D
     exact app M D (.inl ⟨_,rfl⟩) hc
    ·rename_i M D
     exact app M D (.inr rfl) hc
    ·cases hc
   ·rename_i x y t u N Q
    have J:c.args=#[x,y]:=by rw [←Array.toList_inj];simpa using N
    have O:c.argTypes=#[t,u]:=by rw [←Array.toList_inj];simpa using Q
    split at hc
    ·rename_i M D
     obtain ⟨n,v,e⟩:=mS hc
     simp only [DO.m.injEq]at e
     subst e
     obtain ⟨s,hs,U⟩:=Ac A
     obtain ⟨p,g,e⟩:=Ac U
     simp only [oI]at e
     subst e
     exact P5 hop hb J O H C M v hs g
    ·rename_i M D
     obtain ⟨n,v,e⟩:=mS hc
     simp only [DO.m.injEq]at e
     subst e
     obtain ⟨s,hs,U⟩:=Ac A
     obtain ⟨p,g,e⟩:=Ac U
     simp only [oI]at e
     subst e
     exact P5 hop hb J O H C M v hs g
    ·cases hc
   ·simp at hc
   ·simp at hc
   ·simp only [oI,DO.m.injEq]at hc
    subst hc
    cases A
   ·simp at hc
   ·rename_i p n pt it N Q
    have J:c.args=#[p,n]:=by rw [←Array.toList_inj];simpa using N
    have O:c.argTypes=#[pt,it]:=by rw [←Array.toList_inj];simpa using Q
    split at hc
    ·rename_i e g
     split at hc
     ·rename_i ab
      simp only [oI,DO.m.injEq]at hc
      subst hc
      exact Yp hop hb J O H C g (An.1 ab) A
     ·cases hc
    ·cases hc
   ·cases hc
 case convert s d x=>
  rcases CT hc with ⟨k0,k,hs,hd,e⟩|⟨hs,hd,e⟩|⟨t,n,hs,hd,v,e⟩|⟨u,n,hs,hd,v,e⟩|⟨el,hs,he,hd,e⟩<;>cases e
 case typeAssert x xt t ok=>
  obtain ⟨d,i,z,D,hd,R,hz,e⟩:=Cu hc
  cases e
 case defer c=>
  obtain ⟨ac,args,af⟩:=c
  cases ac<;>simp at hc
  subst hc
  obtain ⟨p,g,e⟩:=Ac A
  simp only [oI]at e
  subst e
  exact Vb hop rfl C g
 case makeFunc fn x c=>cases fn<;>simp at hc
 case binOp op t x y yt=>obtain ⟨_,_,e⟩:=mS hc;cases e
 case slice t x lo R mx=>
  exfalso
  split at hc
  ·simp at hc
  ·obtain ⟨_,_,e⟩:=mS hc;cases e
  ·split at hc
   ·obtain ⟨_,_,e⟩:=mS hc;cases e
   ·cases hc
  ·cases hc
 case build t parts=>
  exfalso
  split at hc
  ·split at hc
   ·obtain ⟨_,_,e⟩:=mS hc;cases e
   ·cases hc
  ·obtain ⟨_,_,hc⟩:=Option.bind_eq_some_iff.1 hc
   obtain ⟨_,_,e⟩:=mS hc;cases e
  ·cases hc
 case fieldAddr t x f=>
  exfalso
  split at hc
  ·obtain ⟨_,_,hc⟩:=Option.bind_eq_some_iff.1 hc
   split at hc<;>simp at hc
  ·cases hc
 case field t x f=>
  exfalso
  split at hc
  ·obtain ⟨_,_,hc⟩:=Option.bind_eq_some_iff.1 hc
   obtain ⟨_,_,e⟩:=mS hc;cases e
  ·cases hc
 all_goals
  exfalso
  first
   |(cases hc;done)
   |(split at hc<;>first|(cases hc;done) |(simp at hc;done) |(obtain ⟨_,_,e⟩:=mS hc;cases e;done) |(split at hc<;>first|(cases hc;done) |(simp at hc;done) |(obtain ⟨_,_,e⟩:=mS hc;cases e;done) |(split at hc<;>first|(cases hc;done) |(simp at hc;done) |(obtain ⟨_,_,e⟩:=mS hc;cases e;done))))
   |(obtain ⟨_,_,e⟩:=mS hc;cases e;done)
end
end Go.AM
end
