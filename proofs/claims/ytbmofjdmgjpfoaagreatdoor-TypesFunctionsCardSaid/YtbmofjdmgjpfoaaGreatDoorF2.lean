/- Part 2 of TypesFunctions. -/
import Derived.Test.YtbmofjdmgjpfoaaGreatDoorF1
import Derived.Laws.Rows
import Derived.Laws.Cells
import Derived.Laws.CopyRow
import Derived.Laws.Append
import Derived.KernelRfl
import Derived.Lib.UnsafeStr
set_option linter.all false
namespace Go.AM
section
section
variable {P:Program} {Γ:Ao} {ρ:Env} {μ:As} {tm:Tr Ab} {a:Act} {w:World}
section
variable {t e kt:TypeId} (d:Nat)
theorem JC (j:P.underlying t=some (.pointer e)) (q:Option Addr):(Op.equalIn (d+1) t (.pointer none) (.pointer q)).run P w=.ok q.isNone w:=by
 simp only [Op.equalIn,Sem.run_bind,run_underlying j,Result.andThen_ok,Sem.run_pure]
theorem Oj (j:P.underlying t=some (.pointer e)) (q:Addr):(Op.equalIn (d+1) t (.pointer (some q)) (.pointer none)).run P w=.ok false w:=by
 simp only [Op.equalIn,Sem.run_bind,run_underlying j,Result.andThen_ok,Sem.run_pure]
theorem Ol (j:P.underlying t=some (.pointer e)) {n:Nat} (v:AU P e=some n) (q:Addr):(Op.equalIn (d+1) t (.pointer (some q)) (.pointer (some q))).run P w=.ok true w:=by
 have hs:=Bm (w:=w) v
 by_cases h:n=0<;>simp [Op.equalIn,run_underlying j,hs,sameAddr,h]
theorem EU (j:P.underlying t=some (.slice e)) (q:Option Addr) (n m:Nat):(Op.equalIn (d+1) t (.slice none 0 0) (.slice q n m)).run P w=.ok q.isNone w:=by
 simp only [Op.equalIn,Sem.run_bind,run_underlying j,Result.andThen_ok,Sem.run_pure]
theorem GG (j:P.underlying t=some (.slice e)) (q:Addr) (n m:Nat):(Op.equalIn (d+1) t (.slice (some q) n m) (.slice none 0 0)).run P w=.ok false w:=by
 simp only [Op.equalIn,Sem.run_bind,run_underlying j,Result.andThen_ok,Sem.run_pure]
theorem JD (j:P.underlying t=some (.map kt e)) (q:Option Nat):(Op.equalIn (d+1) t (.map none) (.map q)).run P w=.ok q.isNone w:=by
 simp only [Op.equalIn,Sem.run_bind,run_underlying j,Result.andThen_ok,Sem.run_pure]
theorem Om (j:P.underlying t=some (.map kt e)) (q:Nat):(Op.equalIn (d+1) t (.map (some q)) (.map none)).run P w=.ok false w:=by
 simp only [Op.equalIn,Sem.run_bind,run_underlying j,Result.andThen_ok,Sem.run_pure]
variable {ps rs:Array TypeId} {va:Bool}
theorem Oq (j:P.underlying t=some (.func ps rs va)):(Op.equalIn (d+1) t .nilFunc .nilFunc).run P w=.ok true w:=by
 simp only [Op.equalIn,Sem.run_bind,run_underlying j,Result.andThen_ok,Sem.run_pure]
theorem SR (j:P.underlying t=some (.func ps rs va)) (f:Fn) (x y:Array Value):(Op.equalIn (d+1) t (.func f x y) .nilFunc).run P w=.ok false w:=by
 simp only [Op.equalIn,Sem.run_bind,run_underlying j,Result.andThen_ok,Sem.run_pure]
theorem SQ (j:P.underlying t=some (.func ps rs va)) (f:Fn) (x y:Array Value):(Op.equalIn (d+1) t .nilFunc (.func f x y)).run P w=.ok false w:=by
 simp only [Op.equalIn,Sem.run_bind,run_underlying j,Result.andThen_ok,Sem.run_pure]
variable {ms:Array (String×TypeId)}
theorem Nl (j:P.underlying t=some (.interface ms)):(Op.equalIn (d+1) t .nilIface .nilIface).run P w=.ok true w:=by
 simp only [Op.equalIn,Sem.run_bind,run_underlying j,Result.andThen_ok,Sem.run_pure]
theorem Rm (j:P.underlying t=some (.interface ms)) (u:TypeId) (v:Value):(Op.equalIn (d+1) t (.iface u v) .nilIface).run P w=.ok false w:=by
 simp only [Op.equalIn,Sem.run_bind,run_underlying j,Result.andThen_ok,Sem.run_pure]
theorem Rk (j:P.underlying t=some (.interface ms)) (u:TypeId) (v:Value):(Op.equalIn (d+1) t .nilIface (.iface u v)).run P w=.ok false w:=by
 simp only [Op.equalIn,Sem.run_bind,run_underlying j,Result.andThen_ok,Sem.run_pure]
theorem On (x:P.underlying t=some (.interface ms)) {u j:TypeId} (h:u≠j) (v q:Value):(Op.equalIn (d+1) t (.iface u v) (.iface j q)).run P w=.ok false w:=by
 simp only [Op.equalIn,Sem.run_bind,run_underlying x,Result.andThen_ok]
 rw [if_pos h]
 rfl
theorem Oo (q:P.underlying t=some (.interface ms)) {u:TypeId} {i:TypeInfo} (x:P.info? u=some i) (hc:i.comparable=true) (v j:Value):(Op.equalIn (d+1) t (.iface u v) (.iface u j)).run P w=(Op.equalIn d u v j).run P w:=by
 simp only [Op.equalIn,Sem.run_bind,run_underlying q,Result.andThen_ok,ne_eq,not_true_eq_false,if_false,typeInfo,run_program,x,Sem.run_pure,hc,Bool.not_true,Bool.false_eq_true]
theorem Od (j:P.underlying t=some (.interface ms)):(Op.eqGuardIn (d+1) t .nilIface .nilIface).run P w=.ok (!ms.isEmpty) w:=by
 simp only [Op.eqGuardIn,Sem.run_bind,run_underlying j,Result.andThen_ok,Sem.run_pure]
end
theorem Qn (j:Bool) (t:TypeId) (u v:Value) (b:Bool) (hc:∀s,u≠.string s) (x:∀k n,u≠.int k n) (hf:∀k n,u≠.float k n) (q:∀k n m,u≠.complex k n m)
  (h:(Op.equalIn 10000 t u v).run P w=.ok b w):(binOp (if j then .neq else .eql) t u v).run P w=.ok (.bool (if j then !b else b)) w:=by
 cases j
 ·simp only [Bool.false_eq_true,if_false]
  unfold binOp
  cases u<;>first|(exact absurd rfl (hc _)) |(exact absurd rfl (x _ _)) |(exact absurd rfl (hf _ _)) |(exact absurd rfl (q _ _ _)) |(simp [Op.equal,Op.maxDepth,h])
 ·simp only [if_true]
  unfold binOp
  cases u<;>first|(exact absurd rfl (hc _)) |(exact absurd rfl (x _ _)) |(exact absurd rfl (hf _ _)) |(exact absurd rfl (q _ _ _)) |(simp [Op.equal,Op.maxDepth,h])
theorem AZ {o:Oper} {j:Bool} {t q:TypeId} {x y:Operand} (B:o.op=.binOp (if j then .neq else .eql) t x y q) {b:Bool} {v:Ab} (A:v=.bool (.lit (bif j then !b else b)))
  (hg:(eqGuard (if j then .neq else .eql) t x y (a.eval x) (a.eval y)).run P w=.ok () w)
  (hc:∀s,a.eval x≠.string s) (z:∀k n,a.eval x≠.int k n) (hf:∀k n,a.eval x≠.float k n) (C:∀k n m,a.eval x≠.complex k n m)
  (h:(Op.equalIn 10000 t (a.eval x) (a.eval y)).run P w=.ok b w):Bf P ρ μ a o w v:=by
 refine ⟨.bool (if j then !b else b),?_,?_⟩
 ·simp only [execOp,B,Sem.run_bind,hg,Result.andThen_ok,Qn j t _ _ b hc z hf C h]
  simp
 ·subst A
  simp only [Ah,SB.den]
  cases j<;>rfl
theorem Kt {t:Nat}:∀{l:List Co} {r:Co},Abc t l=some r->r∈l/\r.t=t
 |[],r,h=>by have h:none=some r:=h;cases h
 |x::l,r,h=>by
  have h:(bif Nat.beq x.t t then some x else Abc t l)=some r:=h
  cases e:Nat.beq x.t t with
  |true=>
   rw [e]at h
   simp only [cond_true,oI]at h
   subst h
   exact ⟨List.mem_cons_self,An.1 e⟩
  |false=>
   rw [e]at h
   exact ⟨List.mem_cons_of_mem _ (Kt h).1,(Kt h).2⟩
theorem Ir:∀{x y:List (Nat×LK)},DW x y=true->x=y
 |[],[],_=>rfl
 |[],_::_,h=>by simp [DW]at h
 |_::_,[],h=>by simp [DW]at h
 |(a,k)::x,(b,j)::y,h=>by
  simp only [DW,aT]at h
  rw [An.1 h.1.1,Ir h.2]
  have:=An.1 h.1.2
  cases k<;>cases j<;>first|rfl|(simp [LK.no]at this)
theorem S9 {pl:List Co} (h:QK P pl=true) {x:Co} (z:x∈pl):
  leaves P 6 x.t=some x.Sz/\(∃i,P.info? x.t=some i/\i.comparable=true)/\Ky P x.t=x.agg:=by
 unfold QK at h
 have:=List.all_eq_true.1 h _ z
 simp only [aT]at this
 obtain ⟨⟨q,j⟩,v⟩:=this
 refine ⟨?_,?_,?_⟩
 ·split at q
  ·rename_i A e
   rw [e,Ir q]
  ·cases q
 ·cases e:P.info? x.t with
  |none=>rw [e]at j;simp at j
  |some i=>rw [e]at j;exact ⟨i,rfl,by simpa using j⟩
 ·rw [beq_eq]at v;simpa using v
theorem SO (hΓ:Γ.AB ρ) {t:TypeId} {l:List (Nat×LK)} (hl:leaves P 6 t=some l) {x y:Ab} {u v:Value} {cs ds:List Ab} (z:Ah ρ μ x u) (B:Ah ρ μ y v) (q:x.cells=some cs) (j:y.cells=some ds)
  {b:Bool} (h:CV Γ cs ds l=some b) (hb:Acx P u.cells v.cells 0 t u v) {k:Nat} (A:6<=k):
  (Op.equalIn k t u v).run P w=.ok b w:=
 Gj hΓ (z.cells q) (B.cells j) 6 t l hl k 0 u v b A hb (by
  have:Cp 0 l=l:=by unfold Cp;simp
  rw [this];exact h)
theorem Ho {o:Oper} {A:Bool} {t N:TypeId} {x y:Operand} (O:o.op=.binOp (if A then .neq else .eql) t x y N) (hΓ:Γ.AB ρ) (H:AP ρ μ tm a) {l:List (Nat×LK)}
  (z:(∃fs,P.underlying t=some (.struct fs))∨∃k e,P.underlying t=some (.array k e)) (hl:leaves P 6 t=some l) (L:P.eqGuardType P.depth t=false) {v:Ab}
  (h:IK Γ A (.plain l) (ev tm (A8 x)) (ev tm (A8 y))=some v):Bf P ρ μ a o w v:=by
 unfold IK at h
 obtain ⟨b,hb,h⟩:=Ac h
 simp only [oI]at h
 have hb:Rj Γ l (ev tm (A8 x)) (ev tm (A8 y))=some b:=hb
 have C:=Au H x
 have B:=Au H y
 unfold Rj at hb
 split at hb
 ·rename_i V Z Q R
  rw [Q]at C
  rw [R]at B
  have J:=C
  have M:=B
  obtain ⟨X,j,hX⟩:=C.agg
  obtain ⟨Y,I,hY⟩:=B.agg
  have q:Acx P (a.eval x).cells (a.eval y).cells 0 t (a.eval x) (a.eval y):=by
   rw [j,I]
   refine ⟨fun n U=>⟨X,Y,rfl,rfl,XW.whole _ _,XW.whole _ _⟩,fun h=>?_⟩
   exfalso
   unfold DR at h
   rcases z with ⟨fs,z⟩|⟨k,e,z⟩<;>rw [z]at h<;>cases ei:P.info? t<;>rw [ei]at h<;>simp at h
  refine AZ O h.symm ?_ (by simp [j]) (by simp [j]) (by simp [j]) (by simp [j]) (SO hΓ hl J M rfl rfl hb q (by omega))
  rw [j,I]
  exact run_eqGuard_agg w _ t x y X Y L
 ·cases hb
theorem MV {o:Oper} {A J:Bool} {t yt:TypeId} {x y:Operand} (Y:o.op=.binOp (if A then .neq else .eql) t x y yt) (hΓ:Γ.AB ρ) (hT:AP ρ μ tm a) {pl:List Co}
  {ms:Array (String×TypeId)} (O:P.underlying t=some (.interface ms)) (aq:QK P pl=true) (hn:J=(ms.isEmpty||Ea x||Ea y)) {v:Ab}
  (h:IK Γ A (.iface J pl) (ev tm (A8 x)) (ev tm (A8 y))=some v):Bf P ρ μ a o w v:=by
 unfold IK at h
 obtain ⟨b,hb,h⟩:=Ac h
 simp only [oI]at h
 have hb:Rn Γ J pl (ev tm (A8 x)) (ev tm (A8 y))=some b:=hb
 have I:=Au hT x
 have H:=Au hT y
 unfold Rn at hb
 split at hb
 ·rename_i d p d' q L M
  rw [L]at I
  rw [M]at H
  obtain ⟨u,j,hX⟩:=I.iface
  obtain ⟨u',B,hY⟩:=H.iface
  refine AZ Y h.symm ?_ (by simp [j]) (by simp [j]) (by simp [j]) (by simp [j]) ?_
  ·rw [j,B];cases A<;>simp [eqGuard]
  ·rw [j,B]
   unfold Ab5 at hb
   cases ed:Nat.beq d d' with
   |false=>
    rw [ed]at hb
    simp only [cond_false,oI]at hb
    have al:d≠d':=fun e=>by rw [An.2 e]at ed;cases ed
    rw [<-hb]
    exact On 9999 O al _ _
   |true=>
    rw [ed]at hb
    simp only [cond_true]at hb
    obtain ⟨hd,hl,hb⟩:=Ac hb
    unfold WB at hb
    obtain ⟨C,hb⟩:=Ap hb
    obtain ⟨cs,Z,hb⟩:=Ac hb
    obtain ⟨ds,ab,hb⟩:=Ac hb
    have:=An.1 ed
    subst this
    obtain ⟨af,ao⟩:=Kt hl
    obtain ⟨ac,⟨i,hi,ag⟩,R⟩:=S9 aq af
    rw [ao]at ac hi R
    rw [aT,beq_eq,beq_eq,beq_iff_eq,beq_iff_eq]at C
    refine (Oo 9999 O hi ag _ _).trans ?_
    have X:Acx P u.cells u'.cells 0 d u u':=by
     refine ⟨fun n hn=>?_,fun h1=>?_⟩
     ·have ha:Ky P d=true:=by unfold Ky;rw [hn]
      rw [<-R,ha]at C
      cases p<;>simp [Kx]at C
      cases q<;>simp [Kx]at C
      obtain ⟨U,rfl,_⟩:=hX.agg
      obtain ⟨V,rfl,_⟩:=hY.agg
      exact ⟨U,V,rfl,rfl,XW.whole _ _,XW.whole _ _⟩
     ·have ha:Ky P d=false:=by unfold Ky;rw [h1]
      rw [<-R,ha]at C
      have Q:∀{z:Ab} {v:Value} {zs:List Ab},z.cells=some zs->Kx z=false->Ah ρ μ z v->v.cells[0]?=some v:=fun {z v zs} hz hza hv=>by
       have h1:=hv.Q1 (by cases z<;>first|rfl|(simp [Ab.cells]at hz;done) |(simp [Kx]at hza;done))
       cases v<;>first|rfl|(simp [Value.oneCell']at h1)
      exact ⟨Q Z C.1 hX,Q ab C.2 hY⟩
    exact SO hΓ ac hX hY Z ab hb X (by omega)
 ·rename_i L M
  rw [L]at I
  rw [M]at H
  have j:a.eval x=.nilIface:=by simpa only [Ah]using I
  have B:a.eval y=.nilIface:=by simpa only [Ah]using H
  obtain ⟨N,hb⟩:=Ap hb
  simp only [oI]at hb
  subst hb
  refine AZ Y h.symm ?_ (by simp [j]) (by simp [j]) (by simp [j]) (by simp [j]) ?_
  ·rw [j,B]
   subst hn
   have aa:(Op.eqGuardIn Op.maxDepth t .nilIface .nilIface).run P w=.ok (!ms.isEmpty) w:=Od 9999 O
   simp only [Bool.or_eq_true]at N
   rcases N with (hms|hcx) |hcy
   ·rw [hms]at aa
    cases A<;>cases x<;>cases y<;>simp [eqGuard,aa]
   ·have:∃c,x=.const c:=by
     cases x<;>simp [Ea]at hcx
     exact ⟨_,rfl⟩
    obtain ⟨c,rfl⟩:=this
    cases A<;>simp [eqGuard]
   ·have:∃c,y=.const c:=by
     cases y<;>simp [Ea]at hcy
     exact ⟨_,rfl⟩
    obtain ⟨c,rfl⟩:=this
    cases A<;>cases x<;>simp [eqGuard]
  ·rw [j,B];exact Nl 9999 O
 ·rename_i d p L M
  rw [L]at I
  rw [M]at H
  have j:a.eval x=.nilIface:=by simpa only [Ah]using I
  obtain ⟨u,B,_⟩:=H.iface
  simp only [oI]at hb
  subst hb
  refine AZ Y h.symm ?_ (by simp [j]) (by simp [j]) (by simp [j]) (by simp [j]) ?_
  ·rw [j,B];cases A<;>simp [eqGuard]
  ·rw [j,B];exact Rk 9999 O _ _
 ·rename_i d p L M
  rw [L]at I
  rw [M]at H
  have B:a.eval y=.nilIface:=by simpa only [Ah]using H
  obtain ⟨u,j,_⟩:=I.iface
  simp only [oI]at hb
  subst hb
  refine AZ Y h.symm ?_ (by simp [j]) (by simp [j]) (by simp [j]) (by simp [j]) ?_
  ·rw [j,B];cases A<;>simp [eqGuard]
  ·rw [j,B];exact Rm 9999 O _ _
 ·cases hb
theorem QN {o:Oper} {z:Bool} {t V e:TypeId} {x y:Operand} (L:o.op=.binOp (if z then .neq else .eql) t x y V) (O:AP ρ μ tm a) (M:P.underlying t=some (.pointer e)) {n:Nat} (U:AU P e=some n) {v:Ab}
  (h:IK Γ z .ptr (ev tm (A8 x)) (ev tm (A8 y))=some v):Bf P ρ μ a o w v:=by
 unfold IK at h
 obtain ⟨b,hb,h⟩:=Ac h
 simp only [oI]at h
 have hb:Ab3 (ev tm (A8 x)) (ev tm (A8 y))=some b:=hb
 have B:=Au O x
 have A:=Au O y
 unfold Ab3 at hb
 split at hb
 ·rename_i C H
  rw [C]at B
  rw [H]at A
  have j:a.eval x=.pointer none:=by simpa only [Ah]using B
  have q:a.eval y=.pointer none:=by simpa only [Ah]using A
  simp only [oI]at hb
  subst hb
  refine AZ L h.symm ?_ (by simp [j]) (by simp [j]) (by simp [j]) (by simp [j]) ?_
  ·rw [j,q];cases z<;>simp [eqGuard]
  ·rw [j,q];exact JC 9999 M none
 ·rename_i Y N C H
  rw [C]at B
  rw [H]at A
  have j:a.eval x=.pointer none:=by simpa only [Ah]using B
  obtain ⟨r,δ,_,_,q⟩:=A.ptr
  simp only [oI]at hb
  subst hb
  refine AZ L h.symm ?_ (by simp [j]) (by simp [j]) (by simp [j]) (by simp [j]) ?_
  ·rw [j,q];cases z<;>simp [eqGuard]
  ·rw [j,q];exact JC 9999 M _
 ·rename_i Y N C H
  rw [C]at B
  rw [H]at A
  have q:a.eval y=.pointer none:=by simpa only [Ah]using A
  obtain ⟨r,δ,_,_,j⟩:=B.ptr
  simp only [oI]at hb
  subst hb
  refine AZ L h.symm ?_ (by simp [j]) (by simp [j]) (by simp [j]) (by simp [j]) ?_
  ·rw [j,q];cases z<;>simp [eqGuard]
  ·rw [j,q];exact Oj 9999 M _
 ·rename_i b1 o1 b2 o2 C H
  rw [C]at B
  rw [H]at A
  obtain ⟨hc,I⟩:=Ap hb
  rw [aT]at hc
  have R:=An.1 hc.1
  have X:=An.1 hc.2
  subst R X
  obtain ⟨r,δ,m,Q,j⟩:=B.ptr
  obtain ⟨Z,δ',m',J,q⟩:=A.ptr
  rw [Q]at J
  simp only [oI,Prod.mk.injEq]at J
  obtain ⟨rfl,rfl,rfl⟩:=J
  have I:true=b:=by simpa using I
  subst I
  refine AZ L h.symm ?_ (by simp [j]) (by simp [j]) (by simp [j]) (by simp [j]) ?_
  ·rw [j,q];cases z<;>simp [eqGuard]
  ·rw [j,q];exact Ol 9999 M U _
 ·cases hb
theorem MU {o:Oper} {z:Bool} {t O e:TypeId} {x y:Operand} (J:o.op=.binOp (if z then .neq else .eql) t x y O) (N:AP ρ μ tm a) (L:P.underlying t=some (.slice e)) {v:Ab}
  (h:IK Γ z .slice (ev tm (A8 x)) (ev tm (A8 y))=some v):Bf P ρ μ a o w v:=by
 unfold IK at h
 obtain ⟨b,hb,h⟩:=Ac h
 simp only [oI]at h
 have hb:Rh (ev tm (A8 x)) (ev tm (A8 y))=some b:=hb
 have A:=Au N x
 have B:=Au N y
 unfold Rh at hb
 split at hb
 ·rename_i C H
  rw [C]at A
  rw [H]at B
  have j:a.eval x=.slice none 0 0:=by simpa only [Ah]using A
  have q:a.eval y=.slice none 0 0:=by simpa only [Ah]using B
  simp only [oI]at hb
  subst hb
  refine AZ J h.symm ?_ (by simp [j]) (by simp [j]) (by simp [j]) (by simp [j]) ?_
  ·rw [j,q];cases z<;>simp [eqGuard]
  ·rw [j,q];exact EU 9999 L none 0 0
 ·rename_i M I len cap C H
  rw [C]at A
  rw [H]at B
  have q:a.eval y=.slice none 0 0:=by simpa only [Ah]using B
  obtain ⟨r,δ,m,_,j,_⟩:=A.slice
  simp only [oI]at hb
  subst hb
  refine AZ J h.symm ?_ (by simp [j]) (by simp [j]) (by simp [j]) (by simp [j]) ?_
  ·rw [j,q];cases z<;>simp [eqGuard]
  ·rw [j,q];exact GG 9999 L _ _ _
 ·rename_i M I len cap C H
  rw [C]at A
  rw [H]at B
  have j:a.eval x=.slice none 0 0:=by simpa only [Ah]using A
  obtain ⟨r,δ,m,_,q,_⟩:=B.slice
  simp only [oI]at hb
  subst hb
  refine AZ J h.symm ?_ (by simp [j]) (by simp [j]) (by simp [j]) (by simp [j]) ?_
  ·rw [j,q];cases z<;>simp [eqGuard]
  ·rw [j,q];exact EU 9999 L _ _ _
 ·rename_i M I len cap C H
  rw [C]at A
  rw [H]at B
  have q:a.eval y=.slice none 0 0:=by simpa only [Ah]using B
  obtain ⟨r,δ,m,c,_,j,_⟩:=A.gslice
  simp only [oI]at hb
  subst hb
  refine AZ J h.symm ?_ (by simp [j]) (by simp [j]) (by simp [j]) (by simp [j]) ?_
  ·rw [j,q];cases z<;>simp [eqGuard]
  ·rw [j,q];exact GG 9999 L _ _ _
 ·rename_i M I len cap C H
  rw [C]at A
  rw [H]at B
  have j:a.eval x=.slice none 0 0:=by simpa only [Ah]using A
  obtain ⟨r,δ,m,c,_,q,_⟩:=B.gslice
  simp only [oI]at hb
  subst hb
  refine AZ J h.symm ?_ (by simp [j]) (by simp [j]) (by simp [j]) (by simp [j]) ?_
  ·rw [j,q];cases z<;>simp [eqGuard]
  ·rw [j,q];exact EU 9999 L _ _ _
 ·cases hb
theorem QO {o:Oper} {z:Bool} {t N k e:TypeId} {x y:Operand} (I:o.op=.binOp (if z then .neq else .eql) t x y N) (L:AP ρ μ tm a) (J:P.underlying t=some (.map k e)) {v:Ab}
  (h:IK Γ z .map (ev tm (A8 x)) (ev tm (A8 y))=some v):Bf P ρ μ a o w v:=by
 unfold IK at h
 obtain ⟨b,hb,h⟩:=Ac h
 simp only [oI]at h
 have hb:Ab4 (ev tm (A8 x)) (ev tm (A8 y))=some b:=hb
 have A:=Au L x
 have B:=Au L y
 unfold Ab4 at hb
 split at hb
 ·rename_i C H
  rw [C]at A
  rw [H]at B
  have j:a.eval x=.map none:=by simpa only [Ah]using A
  have q:a.eval y=.map none:=by simpa only [Ah]using B
  simp only [oI]at hb
  subst hb
  refine AZ I h.symm ?_ (by simp [j]) (by simp [j]) (by simp [j]) (by simp [j]) ?_
  ·rw [j,q];cases z<;>simp [eqGuard]
  ·rw [j,q];exact JD 9999 J none
 ·rename_i M C H
  rw [C]at A
  rw [H]at B
  have q:a.eval y=.map none:=by simpa only [Ah]using B
  obtain ⟨r,_,j⟩:=A.NX
  simp only [oI]at hb
  subst hb
  refine AZ I h.symm ?_ (by simp [j]) (by simp [j]) (by simp [j]) (by simp [j]) ?_
  ·rw [j,q];cases z<;>simp [eqGuard]
  ·rw [j,q];exact Om 9999 J _
 ·rename_i M C H
  rw [C]at A
  rw [H]at B
  have j:a.eval x=.map none:=by simpa only [Ah]using A
  obtain ⟨r,_,q⟩:=B.NX
  simp only [oI]at hb
  subst hb
  refine AZ I h.symm ?_ (by simp [j]) (by simp [j]) (by simp [j]) (by simp [j]) ?_
  ·rw [j,q];cases z<;>simp [eqGuard]
  ·rw [j,q];exact JD 9999 J _
 ·cases hb
theorem Of {o:Oper} {A:Bool} {t N:TypeId} {ps rs:Array TypeId} {va:Bool} {x y:Operand} (J:o.op=.binOp (if A then .neq else .eql) t x y N) (M:AP ρ μ tm a) (L:P.underlying t=some (.func ps rs va)) {v:Ab}
  (h:IK Γ A .func (ev tm (A8 x)) (ev tm (A8 y))=some v):Bf P ρ μ a o w v:=by
 unfold IK at h
 obtain ⟨b,hb,h⟩:=Ac h
 simp only [oI]at h
 have hb:UX (ev tm (A8 x)) (ev tm (A8 y))=some b:=hb
 have B:=Au M x
 have C:=Au M y
 unfold UX at hb
 split at hb
 ·rename_i H I
  rw [H]at B
  rw [I]at C
  have j:a.eval x=.nilFunc:=by simpa only [Ah]using B
  have z:a.eval y=.nilFunc:=by simpa only [Ah]using C
  simp only [oI]at hb
  subst hb
  refine AZ J h.symm ?_ (by simp [j]) (by simp [j]) (by simp [j]) (by simp [j]) ?_
  ·rw [j,z];cases A<;>simp [eqGuard]
  ·rw [j,z];exact Oq 9999 L
 ·rename_i f p q H I
  rw [H]at B
  rw [I]at C
  have z:a.eval y=.nilFunc:=by simpa only [Ah]using C
  obtain ⟨_,_,j,_⟩:=B.func
  simp only [oI]at hb
  subst hb
  refine AZ J h.symm ?_ (by simp [j]) (by simp [j]) (by simp [j]) (by simp [j]) ?_
  ·rw [j,z];cases A<;>simp [eqGuard]
  ·rw [j,z];exact SR 9999 L _ _ _
 ·rename_i f p q H I
  rw [H]at B
  rw [I]at C
  have j:a.eval x=.nilFunc:=by simpa only [Ah]using B
  obtain ⟨_,_,z,_⟩:=C.func
  simp only [oI]at hb
  subst hb
  refine AZ J h.symm ?_ (by simp [j]) (by simp [j]) (by simp [j]) (by simp [j]) ?_
  ·rw [j,z];cases A<;>simp [eqGuard]
  ·rw [j,z];exact SQ 9999 L _ _ _
 ·cases hb
theorem Og {o:Oper} {z:Bool} {t M:TypeId} {x y:Operand} (I:o.op=.binOp (if z then .neq else .eql) t x y M) (B:AP ρ μ tm a) (J:P.underlying t=some .bool) {v:Ab}
  (h:IK Γ z .bool (ev tm (A8 x)) (ev tm (A8 y))=some v):Bf P ρ μ a o w v:=by
 unfold IK at h
 obtain ⟨b,hb,h⟩:=Ac h
 simp only [oI]at h
 have hb:UY (ev tm (A8 x)) (ev tm (A8 y))=some b:=hb
 have C:=Au B x
 have H:=Au B y
 unfold UY at hb
 split at hb
 ·rename_i p q L N
  rw [L]at C
  rw [N]at H
  have j:=C.bool
  have A:=H.bool
  simp only [SB.den]at j A
  simp only [oI]at hb
  refine AZ I h.symm ?_ (by simp [j]) (by simp [j]) (by simp [j]) (by simp [j]) ?_
  ·rw [j,A];cases z<;>simp [eqGuard]
  ·rw [j,A,run_equalIn_bool' w 9999 t p q J,<-hb,beq_eq]
 ·cases hb
end
end
section
section
variable {P:Program} {Γ:Ao} {ρ:Env} {μ:As} {tm:Tr Ab} {a:Act} {w:World}
theorem Gf (j:AP ρ μ tm a) {d n:Nat} {x:Option Operand} (h:Ce tm d (x.map A8)=some n):(x=none/\n=d)∨∃y k,x=some y/\a.eval y=.int k (n:Int):=by
 cases x with
 |none=>have h:some d=some n:=h;simp only [oI]at h;exact .inl ⟨rfl,h.symm⟩
 |some y=>
  have h:C4 (ev tm (A8 y))=some n:=h
  obtain ⟨k,e⟩:=Ch h (Au j y)
  exact .inr ⟨y,k,rfl,e⟩
theorem BV {k:IntKind} {n y:Nat} {j:BoundsCode} (h:n<=y):(Instr.sliceBound (.int k (n:Int)) y j).run P w=.ok n w:=by
 rw [run_sliceBound w k _ y j (by omega) (by omega)];simp
theorem Gd (j:AP ρ μ tm a) {sl:Bool} {len cap l h:Nat} {lo x:Option Operand} (hl:Ce tm 0 (lo.map A8)=some l) (z:Ce tm len (x.map A8)=some h) (v:l<=h) (q:h<=cap):
  (Instr.sliceBounds sl len cap (lo.map a.eval) (x.map a.eval) none).run P w=.ok (l,h,cap) w:=by
 rcases Gf j hl with ⟨rfl,rfl⟩|⟨y,k,rfl,e⟩<;>rcases Gf j z with ⟨rfl,rfl⟩|⟨y',k',rfl,e'⟩
 ·simp [Instr.sliceBounds]
 ·simp [Instr.sliceBounds,e',BV q]
 ·simp [Instr.sliceBounds,e,BV v]
 ·simp [Instr.sliceBounds,e,e',BV v,BV q]
theorem Mt (j:AP ρ μ tm a) {sl:Bool} {len cap l h m:Nat} {lo:Option Operand} {v q:Operand} (hl:Ce tm 0 (lo.map A8)=some l) (H:C4 (ev tm (A8 v))=some h) (C:C4 (ev tm (A8 q))=some m)
  (I:l<=h) (B:h<=m) (z:m<=cap):
  (Instr.sliceBounds sl len cap (lo.map a.eval) (some (a.eval v)) (some (a.eval q))).run P w=.ok (l,h,m) w:=by
 obtain ⟨k1,x⟩:=Ch H (Au j v)
 obtain ⟨J,A⟩:=Ch C (Au j q)
 rcases Gf j hl with ⟨rfl,rfl⟩|⟨y,k,rfl,e⟩
 ·simp [Instr.sliceBounds,x,A,BV B,BV z]
 ·simp [Instr.sliceBounds,e,x,A,BV I,BV B,BV z]
theorem UC {o:Oper} {t:TypeId} {x:Operand} {lo H:Option Operand} (I:o.op=.slice t x lo H none) (q:AP ρ μ tm a) (z:P.underlying t=some .string) {v:Ab}
  (h:Z4 (ev tm (A8 x)) (Ce tm 0 (lo.map A8)) (fun d=>Ce tm d (H.map A8))=some v):Bf P ρ μ a o w v:=by
 have B:=Au q x
 unfold Z4 at h
 split at h
 ·rename_i s J
  rw [J]at B
  obtain ⟨l,hl,h⟩:=Ac h
  obtain ⟨j,A,h⟩:=Ac h
  obtain ⟨b,N,rfl⟩:=B.str
  unfold AdI at h
  obtain ⟨hc,h⟩:=Ap h
  rw [aT,AI,AI]at hc
  obtain ⟨r,M,h⟩:=Ac h
  simp only [oI]at h
  subst h
  simp only [Db,B6]at A hc
  have hb:=Gd (P:=P) (w:=w) (sl:=false) q hl A hc.1 hc.2
  refine ⟨.string (b.extract l j),?_,?_⟩
  ·simp only [execOp,I,Option.map_none,Sem.run_bind,run_sliceAt_string w t _ _ _ _ z,N]
   simp [Instr.slice,run_underlying z,hb]
  ·simp only [Ah]
   refine ⟨_,rfl,?_⟩
   have:=KU M
   rw [KV]at this
   rw [this]
   unfold strOf
   have C:(b.extract l j).data.toList=(b.data.toList.drop l).take (j-l):=by
    obtain ⟨⟨L⟩⟩:=b
    have:=ByteArray.extract_mk L l j
    rw [show (⟨⟨L⟩⟩:ByteArray)=ByteArray.mk L.toArray from rfl,this]
   rw [C,List.map_take,List.map_drop]
 ·cases h
theorem HS (r p l h m size:Nat):sliced (some ⟨r,p,none⟩) l h m size=.slice (some ⟨r,p+(if m=l then 0 else l*size),none⟩) (h-l) (m-l):=by
 unfold sliced
 by_cases e:m=l
 ·rw [if_pos e,if_pos e];rfl
 ·rw [if_neg e,if_neg e]
  simp [Addr.AW]
theorem Oe {o:Oper} {t e:TypeId} {x:Operand} {lo V:Option Operand} {n:Nat} (R:o.op=.slice t x lo V none) (M:AP ρ μ tm a) (Y:P.underlying t=some (.slice e)) (Z:AU P e=some n) {v:Ab}
  (h:FJ n (ev tm (A8 x)) (Ce tm 0 (lo.map A8)) (fun d=>Ce tm d (V.map A8)) none=some v):Bf P ρ μ a o w v:=by
 have C:=Au M x
 have A:P.elem t=e:=by simp [Program.elem,Y]
 have j:P.underlying t=some (.slice (P.elem t)):=by rw [A];exact Y
 have hs:=Bm (w:=w) Z
 unfold FJ at h
 split at h
 ·rename_i b q len c J _
  rw [J]at C
  obtain ⟨l,hl,h⟩:=Ac h
  obtain ⟨B,H,h⟩:=Ac h
  obtain ⟨r,δ,m,N,I,X⟩:=C.slice
  unfold Sm at h
  obtain ⟨hc,h⟩:=Ap h
  rw [aT,AI,AI]at hc
  simp only [oI]at h
  subst h
  have hb:=Gd (P:=P) (w:=w) (sl:=true) M hl H hc.1 hc.2
  refine ⟨sliced (some ⟨r,δ+q,none⟩) l B c n,?_,?_⟩
  ·simp only [execOp,R,Option.map_none,Sem.run_bind,run_sliceAt_slice w t _ _ _ _ j,I,run_slice_any w t _ _ _ j,hb,Result.andThen_ok,A,hs]
   simp
  ·rw [HS]
   simp only [Ah,AA]
   refine ⟨r,δ,m,N,?_,by omega⟩
   by_cases e:c=l<;>simp [e,Nat.add_assoc]
 ·rename_i b q len es J _
  rw [J]at C
  obtain ⟨l,hl,h⟩:=Ac h
  obtain ⟨B,H,h⟩:=Ac h
  obtain ⟨r,δ,m,z,N,I,X,O⟩:=C.gslice
  unfold Sk at h
  obtain ⟨hc,h⟩:=Ap h
  rw [aT,aT,AI,AI,An]at hc
  have U:=hc.2
  have hb:=Gd (P:=P) (w:=w) (sl:=true) (cap:=z) M hl H hc.1.1 (by omega)
  refine ⟨sliced (some ⟨r,δ+q,none⟩) l B z n,?_,?_⟩
  ·simp only [execOp,R,Option.map_none,Sem.run_bind,run_sliceAt_slice w t _ _ _ _ j,I,run_slice_any w t _ _ _ j,hb,Result.andThen_ok,A,hs]
   simp
  ·rw [AA]at h
   rw [HS]
   by_cases e0:l=0
   ·rw [if_pos e0]at h
    simp only [oI]at h
    subst h
    simp only [Ah]
    refine ⟨r,δ,m,z,N,?_,by omega,O⟩
    subst e0
    have:δ+q+(if z=0 then 0 else 0*n)=δ+q:=by split<;>omega
    rw [this];simp
   ·rw [if_neg e0]at h
    obtain ⟨Q,h⟩:=Ap h
    have Q:=Ib.1 Q
    simp only [oI]at h
    subst h
    simp only [Ah]
    refine ⟨r,δ,m,z-l,N,?_,by omega,?_⟩
    ·rw [if_neg (by omega)];simp [Nat.add_assoc]
    ·subst U
     have:(z-l)*n+l*n=z*n:=by rw [<-Nat.add_mul];congr 1;omega
     omega
 ·rename_i L
  simp at L
 ·rename_i L
  simp at L
 ·rename_i J _
  rw [J]at C
  have I:a.eval x=.slice none 0 0:=by simpa only [Ah]using C
  obtain ⟨l,hl,h⟩:=Ac h
  obtain ⟨B,H,h⟩:=Ac h
  obtain ⟨hc,h⟩:=Ap h
  rw [aT,An,An]at hc
  simp only [oI]at h
  subst h
  obtain ⟨rfl,rfl⟩:=hc
  have hb:=Gd (P:=P) (w:=w) (sl:=true) (cap:=0) M hl H (Nat.le_refl _) (Nat.le_refl _)
  refine ⟨sliced none 0 0 0 n,?_,by simp [sliced,Ah]⟩
  simp only [execOp,R,Option.map_none,Sem.run_bind,run_sliceAt_slice w t _ _ _ _ j,I,run_slice_any w t _ _ _ j,hb,Result.andThen_ok,A,hs]
  rfl
 ·cases h
theorem D6 {x:Option Operand} (h:Lv tm (x.map A8)=none):x=none:=by
 cases x with
 |none=>rfl
 |some x=>cases h
theorem Xx {x:Option Operand} {v:Ab} (j:AP ρ μ tm a) (h:Lv tm (x.map A8)=some v):∃y,x=some y/\ev tm (A8 y)=v/\Ah ρ μ v (a.eval y):=by
 cases x with
 |none=>cases h
 |some y=>
  have h:some (ev tm (A8 y))=some v:=h
  simp only [oI]at h
  exact ⟨y,rfl,h,h▸Au j y⟩
theorem Sh {sl:Bool} {lo j:Option Operand} {l h cap len:Nat} (hl:(lo=none/\l=0)∨∃x k,lo=some x/\a.eval x=.int k (l:Int)) (z:(j=none/\h=len)∨∃x k,j=some x/\a.eval x=.int k (h:Int)) (v:l<=h) (q:h<=cap):
  (Instr.sliceBounds sl len cap (lo.map a.eval) (j.map a.eval) none).run P w=.ok (l,h,cap) w:=by
 rcases hl with ⟨rfl,rfl⟩|⟨y,k,rfl,e⟩<;>rcases z with ⟨rfl,rfl⟩|⟨y',k',rfl,e'⟩
 ·simp [Instr.sliceBounds]
 ·simp [Instr.sliceBounds,e',BV q]
 ·simp [Instr.sliceBounds,e,BV v]
 ·simp [Instr.sliceBounds,e,e',BV v,BV q]
theorem Dz (p:Option Addr) (h c n:Nat):sliced p 0 h c n=.slice p h c:=by
 have e:p.map (·.add (0*n))=p:=by
  cases p with
  |none=>rfl
  |some p=>simp [Addr.add]
 unfold sliced
 rw [e]
 simp
theorem MR (hΓ:Γ.AB ρ) {o:Oper} {t e:TypeId} {x:Operand} {lo Z:Option Operand} {n:Nat} (ho:o.op=.slice t x lo Z none) (hT:AP ρ μ tm a) (hu:P.underlying t=some (.slice e)) (hn:AU P e=some n) {v:Ab}
  (h:Mu Γ n (ev tm (A8 x)) (Lv tm (lo.map A8)) (Lv tm (Z.map A8))=some v):Bf P ρ μ a o w v:=by
 have hx:=Au hT x
 have aj:P.elem t=e:=by simp [Program.elem,hu]
 have ac:P.underlying t=some (.slice (P.elem t)):=by rw [aj];exact hu
 have hs:=Bm (w:=w) hn
 have key:∀(p:Option Addr) (len cap l h':Nat),a.eval x=.slice p len cap->((lo=none/\l=0)∨∃x k,lo=some x/\a.eval x=.int k (l:Int))->((Z=none/\h'=len)∨∃x k,Z=some x/\a.eval x=.int k (h':Int))->l<=h'->h'<=cap->Ah ρ μ v (sliced p l h' cap n)->Bf P ρ μ a o w v:=fun p len cap l h' I hl hh M h2 hv=>by
  have hb:=Sh (P:=P) (w:=w) (sl:=true) hl hh M h2
  refine ⟨_,?_,hv⟩
  simp only [execOp,ho,Option.map_none,Sem.run_bind,run_sliceAt_slice w t _ _ _ _ ac,I,run_slice_any w t _ _ _ ac,hb,Result.andThen_ok,aj,hs]
  simp
 have num:∀{y:Option Operand} {k:IntKind} {t:ST},Lv tm (y.map A8)=some (.int k t)->∃z,y=some z/\a.eval z=.int k (t.den ρ):=fun {y k t} e=>by
  obtain ⟨z,M,_,h3⟩:=Xx hT e
  exact ⟨z,M,h3.int⟩
 unfold Mu at h
 split at h
 ·rename_i f i es len e1
  obtain ⟨J,h⟩:=Ap h
  have J:=An.1 J
  subst J
  rw [e1]at hx
  have U:=hx
  obtain ⟨p,cap,I,aa,ap,hp⟩:=hx.D7
  have take:∀(u:ST) (j:Nat),((Z=none/\u.den ρ=((ρ.lst i).length:Int))∨∃z k,Z=some z/\a.eval z=.int k (u.den ρ))->((lo=none)∨∃z k,lo=some z/\a.eval z=.int k 0)->Jy [.take i u] Γ.defs=some j->v=.lst false j n u->Bf P ρ μ a o w v:=fun u j hh hl hj hv=>by
   subst hv
   obtain ⟨A,B,O,⟨q2,q3,q4⟩,Y⟩:=hΓ.defs _ (EJ hj)
   have Y:B=[]:=Y
   subst Y
   rw [List.append_nil]at O
   have O:ρ.lst j=A:=O
   subst O
   obtain ⟨m,L⟩:∃m:Nat,u.den ρ=(m:Int):=⟨(u.den ρ).toNat,by omega⟩
   have R:(ρ.lst j).length=m:=by rw [q4,lT',L];simp;omega
   refine key p _ cap 0 m I ?_ ?_ (Nat.zero_le _) (by omega) ?_
   ·rcases hl with rfl|⟨z,k,rfl,e⟩
    ·exact .inl ⟨rfl,rfl⟩
    ·exact .inr ⟨z,k,rfl,e⟩
   ·rcases hh with ⟨rfl,e⟩|⟨z,k,rfl,e⟩
    ·exact .inl ⟨rfl,by omega⟩
    ·exact .inr ⟨z,k,rfl,by rw [e,L]⟩
   ·rw [Dz]
    simp only [Ah,Ij]
    refine ⟨⟨cap,by omega,?_⟩,by rw [R,L],fun e=>by cases e⟩
    by_cases h0:m=0
    ·exact .inl ⟨List.eq_nil_of_length_eq_zero (by omega),p,by rw [h0]⟩
    ·obtain ⟨r,δ,c,ty,rfl,k1,Q⟩:=hp (by omega)
     refine .inr ⟨r,δ,c,ty,by rw [R],k1,?_⟩
     rw [q4]
     rw [Bx]at Q⊢
     refine ⟨fun ps V=>Q.1 ps (List.mem_of_mem_take V),?_⟩
     have:=Q.2
     rw [<-List.take_append_drop (u.den ρ).toNat (ρ.lst i),List.flatten_append,AG.append_iff]at this
     exact this.1
  have ad:∀(ai:Option Ab),Lv tm (lo.map A8)=ai->Jr Γ i n len ai (Lv tm (Z.map A8))=some v->Bf P ρ μ a o w v:=fun ai ah h=>by
   unfold Jr at h
   split at h
   ·rename_i k u H
    obtain ⟨j,hj,h⟩:=Ac h
    simp only [oI]at h
    obtain ⟨z,N,C⟩:=num H
    exact take u j (.inr ⟨z,k,N,C⟩) (.inl (D6 ah)) hj h.symm
   ·rename_i k0 k u H
    obtain ⟨j,hj,h⟩:=Ac h
    simp only [oI]at h
    obtain ⟨z,N,C⟩:=num H
    obtain ⟨z0,au,al⟩:=num ah
    exact take u j (.inr ⟨z,k,N,C⟩) (.inr ⟨z0,k0,au,al⟩) hj h.symm
   ·rename_i _ k u H
    obtain ⟨j,hj,h⟩:=Ac h
    obtain ⟨u',ac,h⟩:=Ac h
    simp only [oI]at h
    subst h
    obtain ⟨z,N,C⟩:=num ah
    obtain ⟨A,B,O,⟨q2,q3,q4⟩,Y⟩:=hΓ.defs _ (EJ hj)
    have Y:B=[]:=Y
    subst Y
    rw [List.append_nil]at O
    have O:ρ.lst j=A:=O
    subst O
    have aA:u'.den ρ=((ρ.lst j).length:Int):=hΓ.Br _ (Cw ac)
    obtain ⟨m,L⟩:∃m:Nat,u.den ρ=(m:Int):=⟨(u.den ρ).toNat,by omega⟩
    have ay:m<=(ρ.lst i).length:=by omega
    have R:(ρ.lst j).length=(ρ.lst i).length-m:=by rw [q4,List.length_drop,L];rfl
    refine key p _ cap m (ρ.lst i).length I (.inr ⟨z,k,N,by rw [C,L]⟩) (.inl ⟨D6 H,rfl⟩) ay aa ?_
    simp only [Ah]
    refine ⟨?_,aA,fun e=>by cases e⟩
    by_cases h0:m=0
    ·subst h0
     rw [Dz]
     have e:ρ.lst j=ρ.lst i:=by rw [q4,L];rfl
     rw [e,<-I]
     exact U.lst.1
    ·obtain ⟨r,δ,c,ty,rfl,k1,Q⟩:=hp (by omega)
     rw [HS]
     simp only [Ij]
     refine ⟨cap-m,by omega,?_⟩
     by_cases M:(ρ.lst j).length=0
     ·exact .inl ⟨List.eq_nil_of_length_eq_zero M,_,by rw [<-R,M]⟩
     ·refine .inr ⟨r,δ+m*n,c,ty,?_,k1,?_⟩
      ·rw [if_neg (by omega),R]
      ·rw [q4,L]
       rw [Bx]at Q⊢
       refine ⟨fun ps V=>Q.1 ps (List.mem_of_mem_drop V),?_⟩
       have:=Q.2
       rw [<-List.take_append_drop m (ρ.lst i),List.flatten_append,AG.append_iff]at this
       have aB:((ρ.lst i).take m).flatten.length=m*n:=by
        rw [B9 fun ps V=>Q.1 ps (List.mem_of_mem_take V),lT'];congr 1;omega
       rw [aB]at this
       exact this.2
   ·cases h
  unfold Sl at h
  split at h
  ·rename_i H X
   simp only [oI]at h
   subst h
   exact key p _ cap 0 _ I (.inl ⟨D6 H,rfl⟩) (.inl ⟨D6 X,rfl⟩) (Nat.zero_le _) aa (by rw [Dz,<-I];exact U)
  ·rename_i k u H X
   cases hc:u.eq len with
   |true=>
    rw [hc]at h
    simp only [cond_true,oI]at h
    subst h
    obtain ⟨z,N,C⟩:=num X
    have hc:=ST.AV hc
    subst hc
    refine key p _ cap 0 _ I (.inl ⟨D6 H,rfl⟩) (.inr ⟨z,k,N,by rw [C,ap]⟩) (Nat.zero_le _) aa (by rw [Dz,<-I];exact U)
   |false=>
    rw [hc]at h
    simp only [cond_false]at h
    exact ad none H (by rw [X];exact h)
  ·exact ad _ rfl h
 ·rename_i b es len e1
  obtain ⟨J,h⟩:=Ap h
  have J:=An.1 J
  subst J
  rw [e1]at hx
  have U:=hx
  obtain ⟨r,m,k,L,I,hk,aK,aw⟩:=hx.vec
  unfold Sj at h
  split at h
  ·rename_i H X
   simp only [oI]at h
   subst h
   exact key _ _ _ 0 _ I (.inl ⟨D6 H,rfl⟩) (.inl ⟨D6 X,rfl⟩) (Nat.zero_le _) (by omega) (by rw [Dz,<-I];exact U)
  ·rename_i kk u H X
   obtain ⟨hc,h⟩:=Ap h
   simp only [oI]at h
   subst h
   rw [aT]at hc
   have M:=IE hΓ hc.1
   have h2:=ER hΓ hc.2
   have M:0<=u.den ρ:=M
   obtain ⟨q,hq⟩:∃q:Nat,u.den ρ=(q:Int):=⟨(u.den ρ).toNat,by omega⟩
   obtain ⟨z,N,C⟩:=num X
   refine key _ _ _ 0 q I (.inl ⟨D6 H,rfl⟩) (.inr ⟨z,kk,N,by rw [C,hq]⟩) (Nat.zero_le _) (by omega) ?_
   rw [Dz]
   simp only [Ah]
   exact ⟨r,m,q,L,rfl,hq,by omega,aw⟩
  ·cases h
 ·cases h
theorem MT {o:Oper} {t e:TypeId} {x O N:Operand} {lo:Option Operand} {n:Nat} (ho:o.op=.slice t x lo (some O) (some N)) (R:AP ρ μ tm a) (V:P.underlying t=some (.slice e)) (Z:AU P e=some n) {v:Ab}
  (h:FJ n (ev tm (A8 x)) (Ce tm 0 (lo.map A8)) (fun d=>Ce tm d (some (A8 O))) (some (C4 (ev tm (A8 N))))=some v):Bf P ρ μ a o w v:=by
 have J:=Au R x
 have L:P.elem t=e:=by simp [Program.elem,V]
 have M:P.underlying t=some (.slice (P.elem t)):=by rw [L];exact V
 have hs:=Bm (w:=w) Z
 have key:∀(b j len r δ B H:Nat),(A6 (Ce tm 0 (lo.map A8)) fun l=>A6 (C4 (ev tm (A8 O))) fun h=>A6 (C4 (ev tm (A8 N))) fun m=>Jq n b j len l h m)=some v->
   μ b=some (r,δ,B)->a.eval x=.slice (some ⟨r,δ+j,none⟩) len H->len<=H->Bf P ρ μ a o w v:=fun b j len r δ B H h A C z=>by
  obtain ⟨l,hl,h⟩:=Ac h
  obtain ⟨X,Y,h⟩:=Ac h
  obtain ⟨m,U,h⟩:=Ac h
  unfold Jq at h
  obtain ⟨hc,h⟩:=Ap h
  rw [aT,aT,AI,AI,AI]at hc
  simp only [oI]at h
  subst h
  have hb:=Mt (P:=P) (w:=w) (sl:=true) (len:=len) (cap:=H) R hl Y U hc.1.1 hc.1.2 (by omega)
  refine ⟨sliced (some ⟨r,δ+j,none⟩) l X m n,?_,?_⟩
  ·simp only [execOp,ho,Option.map_some,Sem.run_bind,run_sliceAt_slice w t _ _ _ _ M,C,run_slice_any w t _ _ _ M,hb,Result.andThen_ok,L,hs]
   simp
  ·rw [HS]
   simp only [Ah,AA]
   refine ⟨r,δ,B,A,?_,by omega⟩
   by_cases e:m=l<;>simp [e,Nat.add_assoc]
 unfold FJ at h
 split at h
 ·rename_i q;simp at q
 ·rename_i q;simp at q
 ·rename_i b j len cap m' Q I
  rw [Q]at J
  simp only [oI]at I
  subst I
  obtain ⟨r,δ,B,A,C,z⟩:=J.slice
  exact key _ _ _ _ _ _ _ h A C z
 ·rename_i b j len cap m' Q I
  rw [Q]at J
  simp only [oI]at I
  subst I
  obtain ⟨r,δ,B,H,A,C,z,_⟩:=J.gslice
  exact key _ _ _ _ _ _ _ h A C z
 ·rename_i q;simp at q
 ·cases h
theorem ME {α:Type} {o:Option α} {f:α->POp} {q:POp} (h:(o.map fun x=>DD.p (f x))=some (.p q)):∃x,o=some x/\q=f x:=by
 obtain ⟨x,j,e⟩:=mS h
 simp only [DD.p.injEq]at e
 exact ⟨x,j,e.symm⟩
theorem Tb {t:TypeId} {d:TypeDesc} (h:P.underlying t=some d) (hd:∀ms,d≠.interface ms):P.concrete t=true:=by
 unfold Program.concrete
 rw [h]
 cases d<;>first|rfl|(exact absurd rfl (hd _))
theorem QS {o:Oper} {x:Operand} {Z t:TypeId} {ok:Bool} (M:o.op=.typeAssert x Z t ok) (X:AP ρ μ tm a) {d:TypeDesc} (N:P.underlying t=some d) (hd:∀ms,d≠.interface ms) {i:TypeInfo} (U:P.info? t=some i)
  {z:Option Ab} (H:if ok then∃j,i.zero=some j/\z=some (GA j)else z=none) {v:Ab} (h:R4 t z (ev tm (A8 x))=some v):Bf P ρ μ a o w v:=by
 have q:=Au X x
 unfold R4 at h
 split at h
 ·rename_i u y I
  have V:ok=false:=by
   cases ok
   ·rfl
   ·obtain ⟨_,_,e⟩:=H;cases e
  subst V
  obtain ⟨hc,Q⟩:=Ap h
  have hc:=An.1 hc
  subst hc
  have Q:y=v:=by simpa using Q
  subst Q
  rw [I]at q
  obtain ⟨R,A,O⟩:=q.iface
  refine ⟨R,?_,O⟩
  cases d<;>first|exact absurd rfl (hd _) |simp [execOp,M,Instr.typeAssert,run_underlying N,A]
 ·rename_i u y Y I
  have B:ok=true:=by
   cases ok
   ·cases H
   ·rfl
  subst B
  obtain ⟨j,C,L⟩:=H
  simp only [oI]at L
  subst L
  simp only [oI]at h
  rw [I]at q
  obtain ⟨R,A,O⟩:=q.iface
  rw [AA]at h
  by_cases hut:u=t
  ·rw [if_pos hut]at h
   subst h
   refine ⟨.tuple #[R,.bool true],?_,?_⟩
   ·cases d<;>first|exact absurd rfl (hd _) |simp [execOp,M,Instr.typeAssert,run_underlying N,A,hut]
   ·simp only [Ah]
    exact ⟨_,rfl,by simp only [A4];exact ⟨_,_,rfl,O,_,_,rfl,rfl,rfl⟩⟩
  ·rw [if_neg hut]at h
   subst h
   have J:(zeroValue t).run P w=.ok j w:=by simp [zeroValue,typeInfo,U,C]
   refine ⟨.tuple #[j,.bool false],?_,?_⟩
   ·cases d<;>first|exact absurd rfl (hd _) |simp [execOp,M,Instr.typeAssert,run_underlying N,A,hut,J]
   ·simp only [Ah]
    exact ⟨_,rfl,by simp only [A4];exact ⟨_,_,rfl,CX j,_,_,rfl,rfl,rfl⟩⟩
 ·rename_i Y I
  have B:ok=true:=by
   cases ok
   ·cases H
   ·rfl
  subst B
  obtain ⟨j,C,L⟩:=H
  simp only [oI]at L
  subst L
  simp only [oI]at h
  subst h
  rw [I]at q
  have A:a.eval x=.nilIface:=by simpa only [Ah]using q
  have J:(zeroValue t).run P w=.ok j w:=by simp [zeroValue,typeInfo,U,C]
  refine ⟨.tuple #[j,.bool false],?_,?_⟩
  ·cases d<;>first|exact absurd rfl (hd _) |simp [execOp,M,Instr.typeAssert,run_underlying N,A,J]
  ·simp only [Ah]
   exact ⟨_,rfl,by simp only [A4];exact ⟨_,_,rfl,CX j,_,_,rfl,rfl,rfl⟩⟩
 ·cases h
theorem Cf {t:TypeId} {ok:Bool} {x:Operand} {q:DD} (h:IP P t ok x=some q):
  ∃d i z,P.underlying t=some d/\(∀ms,d≠.interface ms)/\P.info? t=some i/\(if ok then∃v,i.zero=some v/\z=some (GA v)else z=none)/\q=.p (.assert t z (A8 x)):=by
 unfold IP at h
 split at h
 ·cases h
 ·rename_i d i B A C
  have hd:∀ms,d≠.interface ms:=fun ms e=>B ms e
  split at h
  ·rename_i j
   obtain ⟨v,H,e⟩:=mS h
   subst j
   exact ⟨d,i,some (GA v),A,hd,C,by simp only [if_true];exact ⟨v,H,rfl⟩,e.symm⟩
  ·rename_i j
   simp only [oI]at h
   exact ⟨d,i,none,A,hd,C,by rw [if_neg j],h.symm⟩
 ·cases h
theorem CC {s d:TypeId} {x:Operand} {q:DD} (h:Nx P s d x=some q):
  (∃k0 k,P.underlying s=some (.int k0)/\P.underlying d=some (.int k)/\q=.p (.conv k (A8 x)))∨(P.underlying s=some .string/\P.underlying d=some .string/\q=.p (.same (A8 x)))∨
  (∃t n,P.underlying s=some (.pointer t)/\P.underlying d=some .unsafePointer/\AU P t=some (n+1)/\q=.r (.uptr (GS P fun _ _=>true) (A8 x)))∨
  (∃u n,P.underlying s=some .unsafePointer/\P.underlying d=some (.pointer u)/\AU P u=some n/\q=.r (.uptr (GS P fun e n=>liesAt P P.depth e (n/P.cellsOf e) 0 u 1) (A8 x)))∨
  (∃e,P.underlying s=some (.slice e)/\P.underlying e=some (.int .u8)/\P.underlying d=some .string/\q=.r (.bstr (A8 x))):=by
 unfold Nx at h
 split at h
 ·rename_i k0 k hs hd
  simp only [oI]at h
  exact .inl ⟨k0,k,hs,hd,h.symm⟩
 ·rename_i hs hd
  simp only [oI]at h
  exact .inr (.inl ⟨hs,hd,h.symm⟩)
 ·rename_i e hs hd
  split at h
  ·rename_i v
   simp only [oI]at h
   exact .inr (.inr (.inr (.inr ⟨e,hs,v,hd,h.symm⟩)))
  ·cases h
 ·rename_i t hs hd
  split at h
  ·rename_i n j
   simp only [oI]at h
   exact .inr (.inr (.inl ⟨t,n,hs,hd,j,h.symm⟩))
  ·cases h
 ·rename_i u hs hd
  obtain ⟨n,j,h⟩:=mS h
  exact .inr (.inr (.inr (.inl ⟨u,n,hs,hd,j,h.symm⟩)))
 ·cases h
theorem M1 (hΓ:Γ.AB ρ) (A:AP ρ μ tm a) {pl:List Co} {o:Oper} {q:POp} (hc:Dq P pl o=some (.p q)) {v:Ab} (h:Is Γ tm q=some v):Bf P ρ μ a o w v:=by
 cases hop:o.op<;>simp only [Dq,hop,reduceCtorEq,oI,DD.p.injEq]at hc
 case move x=>subst hc;simp only [Is,oI]at h;subst h;exact SG (.inl hop) A
 case assign x=>subst hc;simp only [Is,oI]at h;subst h;exact SG (.inr hop) A
 case pick c x y=>subst hc;exact UE hop A h
 case alloc t=>obtain ⟨_,_,e⟩:=mS hc;cases e
 case build t parts=>
  split at hc
  ·rename_i fs z j N
   split at hc
   ·rename_i V
    obtain ⟨ps,Q,rfl⟩:=ME hc
    exact IF hop A j N V Q h
   ·cases hc
  ·rename_i k e z j N
   obtain ⟨n,C,hc⟩:=Option.bind_eq_some_iff.1 hc
   obtain ⟨ps,Q,rfl⟩:=ME hc
   exact J4 hop A j N C Q h
  ·cases hc
 case nilCheck x=>subst hc;exact UF hop A h
 case binOp op t x y yt=>
  obtain ⟨q',H,e⟩:=mS hc
  simp only [DD.p.injEq]at e
  subst e
  have eqs:∀J:Bool,op=(if J then .neq else .eql)->Rw P pl J t x y=some q'->Bf P ρ μ a o w v:=fun J O B=>by
   clear H hc
   subst O
   unfold Rw at B
   split at B
   ·rename_i j;simp only [oI]at B;subst B;exact Og hop A j h
   ·rename_i j
    obtain ⟨n,C,B⟩:=Option.bind_eq_some_iff.1 B
    simp only [oI]at B;subst B;exact QN hop A j C h
   ·rename_i j;simp only [oI]at B;subst B;exact MU hop A j h
   ·rename_i j;simp only [oI]at B;subst B;exact QO hop A j h
   ·rename_i j;simp only [oI]at B;subst B;exact Of hop A j h
   ·rename_i fs j
    split at B
    ·rename_i l hl
     split at B
     ·cases B
     ·rename_i M
      simp only [oI]at B;subst B
      exact Ho hop hΓ A (.inl ⟨_,j⟩) hl (by simpa using M) h
    ·cases B
   ·rename_i k e j
    split at B
    ·rename_i l hl
     split at B
     ·cases B
     ·rename_i M
      simp only [oI]at B;subst B
      exact Ho hop hΓ A (.inr ⟨_,_,j⟩) hl (by simpa using M) h
    ·cases B
   ·rename_i ms j
    split at B
    ·rename_i Y
     simp only [oI]at B;subst B
     exact MV hop hΓ A j Y rfl h
    ·cases B
   ·cases B
  unfold WI at H
  split at H
  ·simp only [oI]at H;subst H;exact OY hop hΓ A h
  ·simp only [oI]at H;subst H;exact OY hop hΓ A h
  ·exact eqs false rfl H
  ·exact eqs true rfl H
  ·cases H
 case unOp op t x=>subst hc;exact Abq hop hΓ A h
 case convert s d x=>
  rcases CC hc with ⟨k0,k,hs,hd,e⟩|⟨hs,hd,e⟩|⟨_,_,_,_,_,e⟩|⟨_,_,_,_,_,e⟩|⟨_,_,_,_,e⟩
  ·simp only [DD.p.injEq]at e;subst e
   exact UL hop hΓ A hs hd h
  ·simp only [DD.p.injEq]at e;subst e
   exact UD hop A hs hd h
  ·cases e
  ·cases e
  ·cases e
 case typeAssert x xt t ok=>
  obtain ⟨d,i,z,j,hd,I,N,e⟩:=Cf hc
  simp only [DD.p.injEq]at e;subst e
  exact QS hop A j hd I N h
 case makeInterface t x=>
  split at hc
  ·cases hc
  ·rename_i d Z hd
   simp only [oI,DD.p.injEq]at hc;subst hc
   simp only [Is,oI]at h;subst h
   exact SH hop A (Tb hd fun ms e=>Z ms (by rw [e]))
  ·cases hc
 case makeFunc fn x c=>
  cases fn<;>simp only [reduceCtorEq,oI,DD.p.injEq]at hc
  subst hc
  simp only [Is,oI]at h;subst h
  exact UK hop A
 case slice t x lo I mx=>
  split at hc
  ·rename_i j
   simp only [oI,DD.p.injEq]at hc;subst hc
   exact UC hop A j h
  ·rename_i e j
   obtain ⟨n,C,rfl⟩:=ME hc
   have h:FI Γ tm n (ev tm (A8 x)) (lo.map A8) (I.map A8) none=some v:=h
   unfold FI at h
   split at h
   ·exact MR hΓ hop A j C h
   ·exact Oe hop A j C h
  ·rename_i e m j
   split at hc
   ·rename_i X
    obtain ⟨n,C,rfl⟩:=ME hc
    obtain ⟨I,rfl⟩:=Option.isSome_iff_exists.1 X
    have h:FJ n (ev tm (A8 x)) (Ce tm 0 (lo.map A8)) (fun d=>Ce tm d (some (A8 I))) (some (C4 (ev tm (A8 m))))=some v:=by
     have h:FI Γ tm n (ev tm (A8 x)) (lo.map A8) (some (A8 I)) (some (A8 m))=some v:=h
     unfold FI at h
     split at h
     ·rename_i e;simp at e
     ·exact h
    exact MT hop A j C h
   ·cases hc
  ·cases hc
 case fieldAddr t x f=>
  split at hc
  ·rename_i fs j
   obtain ⟨g,hg,hc⟩:=Option.bind_eq_some_iff.1 hc
   split at hc
   ·rename_i n C
    simp only [oI,DD.p.injEq]at hc;subst hc
    exact QM hop A j hg C h
   ·cases hc
  ·cases hc
 case field t x f=>
  split at hc
  ·rename_i fs j
   obtain ⟨g,hg,hc⟩:=Option.bind_eq_some_iff.1 hc
   obtain ⟨n,C,rfl⟩:=ME hc
   exact SI hop A j hg C h
  ·cases hc
 case indexAddr t x i=>
  split at hc
  ·rename_i e j
   obtain ⟨n,C,rfl⟩:=ME hc
   exact UJ hΓ hop A j C h
  ·rename_i len e j
   obtain ⟨n,C,rfl⟩:=ME hc
   exact QL hop A j C h
  ·cases hc
 case index t x i=>
  split at hc
  ·rename_i len e j
   split at hc
   ·rename_i n ag C ha
    simp only [oI,DD.p.injEq]at hc;subst hc
    exact XB hop A j C ha h
   ·cases hc
  ·rename_i j
   simp only [oI,DD.p.injEq]at hc;subst hc
   exact UI hop A j h
  ·cases hc
 case extract x i=>subst hc;exact XC hop A h
 case call c=>
  unfold EV at hc
  split at hc
  ·split at hc
   ·split at hc
    ·simp at hc
    ·split at hc
     ·split at hc<;>simp at hc
     ·split at hc
      ·split at hc<;>simp at hc
      ·cases hc
   ·cases hc
  ·simp at hc
  ·cases hc
  ·rename_i b hb
   split at hc
   ·rename_i x t R e2
    have L:c.args=#[x]:=by rw [<-Array.toList_inj];simpa using R
    have U:c.argTypes=#[t]:=by rw [<-Array.toList_inj];simpa using e2
    split at hc
    ·rename_i j
     simp only [oI,DD.p.injEq]at hc;subst hc
     exact UG hΓ hop hb L U A j h
    ·rename_i e j
     simp only [oI,DD.p.injEq]at hc;subst hc
     exact UH hop hb L U A j h
    ·rename_i n e j
     simp only [oI,DD.p.injEq]at hc;subst hc
     have h:some (lit .i64 (.ofNat n))=some v:=h
     simp only [oI]at h
     subst h
     exact ⟨.int .i64 n,by simp [execOp,hop,resolve,hb,L,U,invoke,builtin,Builtin.len_,run_underlying j,goInt],by simp only [lit,Ah,ST.den];rfl⟩
    ·simp at hc
    ·cases hc
   ·exfalso
    unfold EE at hc
    split at hc<;>first|cases hc|skip
    all_goals (split at hc<;>first|(cases hc;done) |(split at hc<;>simp at hc))
   ·exfalso
    split at hc<;>first|(cases hc;done) |(obtain ⟨_,_,e⟩:=mS hc;cases e)
   ·simp only [oI,DD.p.injEq]at hc;subst hc
    exact OZ hΓ (most:=true) hop hb rfl A h
   ·simp only [oI,DD.p.injEq]at hc;subst hc
    exact OZ hΓ (most:=false) hop hb rfl A h
   ·simp at hc
   ·rename_i x R
    have L:c.args=#[x]:=by rw [<-Array.toList_inj];simpa using R
    simp only [oI,DD.p.injEq]at hc;subst hc
    exact SE hop hb L A h
   ·exfalso
    split at hc
    ·split at hc<;>simp at hc
    ·cases hc
   ·cases hc
 case defer c=>
  obtain ⟨aa,args,ad⟩:=c
  cases aa<;>simp at hc
 all_goals
  exfalso
  first
   |(cases hc;done)
   |(split at hc<;>first|(cases hc;done) |(simp at hc;done) |(obtain ⟨_,_,e⟩:=mS hc;cases e;done) |(split at hc<;>first|(cases hc;done) |(simp at hc;done) |(split at hc<;>first|(cases hc;done) |(simp at hc;done) |(obtain ⟨_,_,e⟩:=mS hc;cases e;done))))
   |(obtain ⟨_,_,e⟩:=mS hc;cases e;done)
end
end
section
section
variable {P:Program} {Γ:Ao} {ρ:Env} {μ:As} {tm:Tr Ab} {a:Act} {w:World} {h:Al}
theorem EF {o:Option Block} {vs:List Ab} (h:cellsOf o=some vs):o=some (.cells vs)∨∃e,o=some (.typed e vs):=by
 unfold cellsOf at h
 split at h
 ·simp only [oI]at h;rw [h];exact .inl rfl
 ·simp only [oI]at h;rw [h];exact .inr ⟨_,rfl⟩
 ·cases h
theorem JK {o:Option Block} {m:Nat×Nat} (h:bytesOf o=some m):o=some (.bytes m.1 m.2):=by
 unfold bytesOf at h
 split at h
 ·simp only [oI]at h;rw [<-h]
 ·cases h
theorem Dw {o:Option Block} {m:List Entry×Nat} (h:mapOf o=some m):o=some (.map m.1 m.2):=by
 unfold mapOf at h
 split at h
 ·simp only [oI]at h;rw [<-h]
 ·cases h
theorem AD.cells (H:AD ρ μ h w) {b:Nat} {vs:List Ab} (hb:cellsOf (h.get b)=some vs):∃r δ m c e,μ b=some (r,δ,m)/\w.heap[r]?=some (.cells c e (0,0))/\δ+m<=c.size/\
  ∀(i:Nat) (x:Ab),vs[i]?=some x->∃v,c[δ+i]?=some v/\x.single=true/\Ah ρ μ x v:=by
 rcases EF hb with hb|⟨t,hb⟩
 ·obtain ⟨r,⟨δ,m⟩,z,c,e,q,j,hc⟩:=H.blk b _ hb
  exact ⟨r,δ,m,c,e,z,q,j,hc⟩
 ·obtain ⟨r,⟨δ,m⟩,z,c,q,_,j,hc⟩:=H.blk b _ hb
  exact ⟨r,δ,m,c,_,z,q,j,hc⟩
theorem Lj {o:Option Block} {vs:List Ab} (h:cellsOf o=some vs):∃B,o=some B:=by
 rcases EF h with h|⟨_,h⟩<;>exact ⟨_,h⟩
theorem AD.map (H:AD ρ μ h w) {b:Nat} {j:List Entry} {k:Nat} (hb:h.get b=some (.map j k)):∃r ms,μ b=some (r,0,0)/\w.heap[r]?=some (.map ms k)/\BN ρ μ j ms.toList:=by
 obtain ⟨r,δ,v,rfl,ms,q,hc⟩:=H.blk b _ hb
 exact ⟨r,ms,v,q,hc⟩
theorem Cj {r j:Nat} {c:Array Value} {e:TypeId} {fr:Nat×Nat} (hg:w.heap[r]?=some (.cells c e fr)):w.cell? ⟨r,j,none⟩=c[j]?:=cell_of_row w r j c e fr hg
theorem D9 {vs r:List Ab} {c:Array Value} {δ i n:Nat} (hc:∀(i:Nat) (x:Ab),vs[i]?=some x->∃v,c[δ+i]?=some v/\x.single=true/\Ah ρ μ x v) (h:cut vs i n=some r):
  ∃l:List Value,l.length=n/\Aw ρ μ r l/\∀j v,l[j]?=some v->c[δ+i+j]?=some v:=by
 obtain ⟨B,C,J⟩:=JI h
 rcases C with rfl|C
 ·exact ⟨[],rfl,by rw [List.eq_nil_of_length_eq_zero B];simp only [Aw],fun j v q=>by simp at q⟩
 have A:∀j,j<n->∃v,c[δ+i+j]?=some v:=fun j I=>by
  obtain ⟨x,z⟩:∃x,vs[i+j]?=some x:=⟨_,List.getElem?_eq_getElem (by omega)⟩
  obtain ⟨v,q,_⟩:=hc _ _ z
  exact ⟨v,by rw [Nat.add_assoc];exact q⟩
 have L:δ+i+n<=c.size∨n=0:=by
  rcases Nat.eq_zero_or_pos n with h0|h0
  ·exact .inr h0
  ·left
   obtain ⟨v,q⟩:=A (n-1) (by omega)
   have:=(Array.getElem?_eq_some_iff.1 q).1
   omega
 refine ⟨(c.extract (δ+i) (δ+i+n)).toList,?_,?_,fun j v q=>?_⟩
 ·rw [Array.length_toList,Array.size_extract];omega
 ·refine Aw.Kn ?_ fun j x z=>?_
  ·rw [B,Array.length_toList,Array.size_extract];omega
  ·rw [J]at z
   split at z
   ·rename_i I
    obtain ⟨v,q,hs,H⟩:=hc _ _ z
    refine ⟨v,?_,hs,H⟩
    rw [Array.getElem?_toList,Array.getElem?_extract,if_pos (by omega),Nat.add_assoc]
    exact q
   ·cases z
 ·rw [Array.getElem?_toList,Array.getElem?_extract]at q
  split at q
  ·exact q
  ·cases q
theorem IB {t:TypeId} {n:Option Nat} (R:DR P t=some n) {vs:List Ab} {r δ q:Nat} {c:Array Value} {e:TypeId} {fr:Nat×Nat} (I:w.heap[r]?=some (.cells c e fr))
  (hc:∀(i:Nat) (x:Ab),vs[i]?=some x->∃v,c[δ+i]?=some v/\x.single=true/\Ah ρ μ x v) {v:Ab} (hl:Ju vs q n=some v):
  ∃J,(Instr.loadAt t (.pointer (some ⟨r,δ+q,none⟩))).run P w=.ok J w/\Ah ρ μ v J:=by
 obtain ⟨C,M⟩:=Eg P w t R
 unfold Ju at hl
 cases n with
 |none=>
  simp only at hl
  rw [Kp]at hl
  obtain ⟨u,O,_,Q⟩:=hc _ _ hl
  refine ⟨u,?_,Q⟩
  simp [Instr.loadAt,Instr.sureAddr,loadVar,C,run_load,Cj I,O]
 |some n=>
  simp only at hl
  obtain ⟨U,H,hl⟩:=Ac hl
  simp only [oI]at hl
  subst hl
  obtain ⟨l,A,B,L⟩:=D9 hc H
  have z:=run_loadCells_list (P:=P) (w:=w) ⟨r,δ+q,none⟩ l (fun j v N=>by rw [Addr.AW,Cj I];exact L j v N)
  rw [A]at z
  refine ⟨.agg l.toArray,?_,?_⟩
  ·simp [Instr.loadAt,Instr.sureAddr,loadVar,C,M n rfl,z]
  ·simp only [Ah];exact ⟨_,rfl,by simpa using B⟩
theorem CU {o:Option Block} {l:Nat×Nat} (h:MJ o=some l):o=some (.list l.1 l.2):=by
 unfold MJ at h
 split at h
 ·simp only [oI]at h;rw [<-h]
 ·cases h
theorem MH {Γ:Ao} (hΓ:Γ.AB ρ) (H:AD ρ μ h w) {t:TypeId} {n:Option Nat} (Y:DR P t=some n) {x v:Ab} {u:Value} (V:Ah ρ μ x u) (hl:MI Γ h n x=some v):
  ∃v',(Instr.loadAt t u).run P w=.ok v' w/\Ah ρ μ v v':=by
 unfold MI at hl
 split at hl
 ·rename_i b es j L
  obtain ⟨vs,q,ab⟩:=Ac hl
  unfold elemV at q
  obtain ⟨⟨li,M⟩,aa,U⟩:=Ac q
  obtain ⟨B,Q⟩:=Ap U
  have B:M=es:=An.1 B
  subst B
  obtain ⟨r,m,O,rfl,J⟩:=V.vptr
  obtain ⟨r1,⟨δ1,m1⟩,C,c0,ty,X,h0,_,_,_,_,R⟩:=H.blk b _ (CU aa)
  rw [O]at C
  simp only [oI,Prod.mk.injEq]at C
  obtain ⟨rfl,rfl,rfl⟩:=C
  have R:BF μ.AQ M c0 0 (ρ.lst li):=R
  obtain ⟨A,k1,z,N⟩:=hΓ.elems _ (HX Q)
  have z:(ρ.lst li)[(j.den ρ).toNat]?=some A:=z
  have Z:=(R.get _ _ z).2
  rw [Nat.zero_add]at Z
  exact IB Y X (AG.T2 N Z).2 ab
 ·rename_i i j L
  obtain ⟨vs,q,hl⟩:=Ac hl
  obtain ⟨r,δ,c,e,ps,rfl,J,h2,h3,h4⟩:=V.lptr
  obtain ⟨A,k1,z,N⟩:=hΓ.elems _ (HX q)
  have z:(ρ.lst i)[(j.den ρ).toNat]?=some A:=z
  rw [h3]at z
  simp only [oI]at z
  subst z
  obtain ⟨_,J⟩:=J
  exact IB Y (H.AJ.AQ _ _ J).1 (AG.T2 N h4).2 hl
 ·rename_i b L
  obtain ⟨vs,q,hl⟩:=Ac hl
  obtain ⟨r,δ,m,c,e,O,ho,_,hc⟩:=H.cells q
  obtain ⟨r',δ',m',I,rfl⟩:=V.ptr
  rw [O]at I
  simp only [oI,Prod.mk.injEq]at I
  obtain ⟨rfl,rfl,rfl⟩:=I
  exact IB Y ho hc hl
 ·cases hl
theorem OU {t:TypeId} {kk:LK} (h:X6 P t=some kk):∃d,P.underlying t=some d/\kk.fits d:=by
 unfold X6 at h
 split at h<;>first|cases h|skip
 ·rename_i j;exact ⟨_,j,rfl⟩
 ·rename_i j;exact ⟨_,j,_,rfl⟩
 ·rename_i j;exact ⟨_,j,rfl⟩
theorem NU {kk:LK} {d:TypeDesc} (j:kk.fits d) {x y:Ab} {u v:Value} (q:Ah ρ μ x u) (z:Ah ρ μ y v) {b:Bool} (h:OV kk x y=some b):Instr.sameNow d u v=some b:=by
 unfold OV at h
 split at h
 ·obtain ⟨i,rfl⟩:=j
  obtain ⟨e,A⟩:=Ap h
  simp only [oI]at A
  rw [q.int,z.int,Df.1 e,<-A,QH]
  simp [Instr.sameNow,ST.den]
 ·have j:d=.string:=j
  subst j
  simp only [oI]at h
  obtain ⟨s,rfl,B⟩:=q.str
  obtain ⟨H,rfl,C⟩:=z.str
  rw [<-h,<-B,<-C,CA,<-beq_toListBytes]
  simp [Instr.sameNow]
 ·have j:d=.bool:=j
  subst j
  simp only [oI]at h
  rw [q.bool,z.bool,<-h,beq_eq]
  simp [Instr.sameNow,SB.den]
 ·cases h
theorem Mr {Γ:Ao} (hΓ:Γ.AB ρ) {kk:LK} {d:TypeDesc} (j:kk.fits d) {x y:Ab} {u v:Value} (q:Ah ρ μ x u) (z:Ah ρ μ y v) {b:Bool} (h:IM Γ kk x y=some b):Instr.sameNow d u v=some b:=by
 unfold IM at h
 split at h
 ·rename_i k1 m P O
  obtain ⟨i,rfl⟩:=j
  obtain ⟨C,B⟩:=Ap h
  clear h
  have I:=Df.1 C
  subst I
  have hc:=(CB hΓ (OT B)).1
  rw [q.int,z.int]
  simp only [SB.den,Ev]at hc
  simp [Instr.sameNow,hc]
 ·have j:d=.bool:=j
  subst j
  simp only [oI]at h
  rw [q.bool,z.bool,<-h,beq_eq]
  simp [Instr.sameNow,SB.den]
 ·have j:d=.string:=j
  subst j
  simp only [oI]at h
  obtain ⟨s,rfl,H⟩:=q.str
  obtain ⟨N,rfl,J⟩:=z.str
  rw [<-h,<-H,<-J,CA,<-beq_toListBytes]
  simp [Instr.sameNow]
 all_goals first
  |(cases h;done)
  |(have j:d=.string:=j
    subst j
    obtain ⟨s,Q,L,B,A⟩:=hΓ.strs _ (FM h)
    obtain ⟨M,rfl,rfl⟩:=BH L q
    obtain ⟨b2,rfl,rfl⟩:=BH B z
    have A:b=decide (strOf M=strOf b2):=A
    simp only [Instr.sameNow]
    rw [beq_toListBytes,A,<-beq_toListBytes]
    congr 1
    rw [beq_toListBytes,Bool.eq_iff_iff,<-CA,Dt];simp)
theorem Gv {kk:LK} {d:TypeDesc} {t:TypeId} (q:P.underlying t=some d) (j:kk.fits d) (v:Bool) (n:Nat) (u:Value):(Instr.checkKey v (n+1) t u).run P w=.ok () w:=by
 cases kk
 ·have j:d=.bool:=j
  subst j
  cases u<;>simp [Instr.checkKey,run_underlying q]
 ·obtain ⟨i,rfl⟩:=j
  cases u<;>simp [Instr.checkKey,run_underlying q]
 ·have j:d=.string:=j
  subst j
  cases u<;>simp [Instr.checkKey,run_underlying q]
theorem Le {Γ:Ao} (hΓ:Γ.AB ρ) {kk:LK} {d:TypeDesc} (L:kk.fits d) {x:Ab} {u:Value} (J:Ah ρ μ x u):∀{z:List Entry} {ms:List MapEntry} {r:Option Ab} (n:Nat),BN ρ μ z ms->Aby Γ kk x z=some r->
  ∃j,Instr.findNow d u ms n=some j/\(match r with|none=>j=none|some v=>∃i I,j=some (i,I)/\Ah ρ μ v I)
 |[],ms,r,n,he,h=>by
  simp only [BN]at he
  subst he
  have h:some none=some r:=h
  simp only [oI]at h
  subst h
  exact ⟨none,rfl,rfl⟩
 |e::z,ms,r,n,he,h=>by
  simp only [BN]at he
  obtain ⟨m,rest,rfl,⟨hs,C,H,_⟩,q⟩:=he
  have h:(A6 (IM Γ kk x e.key) fun b=>bif b then some (some e.val)else Aby Γ kk x z)=some r:=h
  obtain ⟨b,hb,A⟩:=Ac h
  have B:=Mr hΓ L J C hb
  cases b with
  |true=>
   simp only [cond_true,oI]at A
   subst A
   exact ⟨some (n,m.val),by simp [Instr.findNow,B],n,m.val,rfl,H⟩
  |false=>
   simp only [cond_false]at A
   obtain ⟨j,N,M⟩:=Le hΓ L J (n+1) q A
   exact ⟨j,by simp [Instr.findNow,B,N],M⟩
theorem run_findKey {t:TypeId} {d:TypeDesc} (j:P.underlying t=some d) {u:Value} {ms:List MapEntry} {r:Option (Nat×Value)} (h:Instr.findNow d u ms 0=some r):(Instr.findKey t u ms).run P w=.ok r w:=by
 simp [Instr.findKey,run_underlying j,h]
theorem Hp {ok b:Bool} {v:Ab} {u:Value} (j:Ah ρ μ v u):Ah ρ μ (UN ok v b) (if ok then .tuple #[u,.bool b]else u):=by
 unfold UN
 cases ok
 ·exact j
 ·simp only [cond_true,if_true,Ah]
  exact ⟨_,rfl,by simp only [A4];exact ⟨_,_,rfl,j,_,_,rfl,by simp only [Ah,SB.den],rfl⟩⟩
theorem Em {o:Option Block} {i:Nat} (h:I5 o=some i):o=some (.smap i):=by
 unfold I5 at h
 split at h
 ·simp only [oI]at h;rw [h]
 ·cases h
theorem KO {kk:LK} {x:Ab} (h:P7 kk x=true):kk=.str/\∃s,DV ρ x=some s:=by
 unfold P7 at h
 split at h
 ·exact ⟨rfl,_,rfl⟩
 ·exact ⟨rfl,_,rfl⟩
 ·cases h
theorem Ld {AQ:Nat->Option Obj} {b:ByteArray}:∀{l:List (List Nat×List PV)} {ms:List MapEntry} (n:Nat),IV AQ l ms->
  ∃j,Instr.findNow .string (.string b) ms n=some j/\(match AR l (strOf b)with|none=>j=none|some ps=>∃i a,j=some (i,.agg a)/\a.size=ps.length/\AG AQ a 0 ps)
 |[],ms,n,q=>by
  have q:ms=[]:=q
  subst q
  exact ⟨none,rfl,rfl⟩
 |e::es,ms,n,q=>by
  obtain ⟨m,rest,rfl,⟨B,C,A⟩,⟨a,ha,hs,H⟩,v⟩:=q
  have x:Instr.sameNow .string (.string b) m.key=some (decide (strOf b=e.1)):=by
   rw [C,<-A]
   have:decide (strOf b=strOf B)=(b.toList==B.toList):=by rw [<-CA,Bool.eq_iff_iff,Dt];simp
   rw [this,<-beq_toListBytes]
   simp [Instr.sameNow]
  by_cases hc:e.1=strOf b
  ·refine ⟨some (n,m.val),by simp [Instr.findNow,x,hc],?_⟩
   simp only [AR,hc,if_true]
   exact ⟨n,a,by rw [ha],hs,H⟩
  ·have z:¬strOf b=e.1:=fun h=>hc h.symm
   obtain ⟨j,J,I⟩:=Ld (b:=b) (n+1) v
   refine ⟨j,by simp [Instr.findNow,x,z,J],?_⟩
   simp only [AR,if_neg hc]
   exact I
theorem AD.smap (H:AD ρ μ h w) {b i:Nat} (hb:h.get b=some (.smap i)):∃r ms j,μ b=some (r,0,0)/\w.heap[r]?=some (.map ms j)/\IV μ.AQ (ρ.map i) ms.toList:=by
 obtain ⟨r,δ,v,rfl,ms,j,q,hc⟩:=H.blk b _ hb
 exact ⟨r,ms,j,v,q,hc⟩
theorem QB {Γ:Ao} (hΓ:Γ.AB ρ) (H:AD ρ μ h w) {t Q e:TypeId} {kk:LK} {i:TypeInfo} {z:Value} (N:P.underlying t=some (.map Q e)) (hk:X6 P Q=some kk) (hi:P.info? e=some i) (hz:i.zero=some z) {m k v:Ab} {Z L:Value} {ok:Bool}
  (Y:Ah ρ μ m Z) (U:Ah ρ μ k L) (hl:Wu Γ h kk m k (GA z) ok=some v):∃v',(Instr.lookup t Z L ok).run P w=.ok v' w/\Ah ρ μ v v':=by
 obtain ⟨d,hd,hf⟩:=OU hk
 have O:(zeroValue e).run P w=.ok z w:=by simp [zeroValue,typeInfo,hi,hz]
 have A:∀em,(Instr.checkKey em 10000 Q L).run P w=.ok () w:=fun em=>Gv hd hf em 9999 L
 unfold Wu at hl
 split at hl
 ·have C:Z=.map none:=by simpa only [Ah]using Y
  simp only [oI]at hl
  subst hl
  refine ⟨_,?_,Hp (CX z)⟩
  have q:(Instr.findKey Q L []).run P w=.ok none w:=run_findKey hd rfl
  simp [Instr.lookup,run_underlying N,C,A,q,O]
 ·rename_i b
  unfold U2 at hl
  split at hl
  ·rename_i i' ai
   obtain ⟨ag,V⟩:=Ap hl
   clear hl
   obtain ⟨rfl,s,hs⟩:=KO (ρ:=ρ) ag
   have hf:d=.string:=hf
   subst hf
   obtain ⟨kb,rfl,rfl⟩:=BH hs U
   obtain ⟨g,ms,R,hg,ho,he⟩:=H.smap (Em ai)
   obtain ⟨g',j,C⟩:=Y.NX
   rw [hg]at j
   simp only [oI,Prod.mk.injEq]at j
   obtain ⟨rfl,_⟩:=j
   obtain ⟨r',h1,x⟩:=Ld (b:=kb) 0 he
   have q:=run_findKey (P:=P) (w:=w) hd h1
   have B:(getObj g).run P w=.ok (.map ms R) w:=by simp [getObj,Sem.run,ho]
   unfold AdN at V
   obtain ⟨r,hr,I⟩:=Ac V
   obtain ⟨s',J,M⟩:=hΓ.looks _ (OP hr)
   have J:DV ρ k=some s':=J
   rw [hs]at J
   simp only [oI]at J
   subst J
   cases r with
   |none=>
    simp only at M
    rw [M]at x
    simp only at x
    subst x
    simp only [oI]at I
    subst I
    refine ⟨_,?_,Hp (CX z)⟩
    simp [Instr.lookup,run_underlying N,C,B,A,q,O]
   |some cs=>
    obtain ⟨ps,M,q3⟩:=M
    rw [M]at x
    obtain ⟨aA,X,rfl,k1,k2⟩:=x
    simp only [oI]at I
    subst I
    refine ⟨_,?_,Hp (u:=.agg X) (by simp only [Ah];exact ⟨X,rfl,AG.cs q3 k2 k1⟩)⟩
    simp [Instr.lookup,run_underlying N,C,B,A,q]
  rename_i az
  obtain ⟨mm,ah,hl⟩:=Ac hl
  obtain ⟨r,hr,hl⟩:=Ac hl
  simp only [oI]at hl
  subst hl
  obtain ⟨g,ms,hg,ho,he⟩:=H.map (Dw ah)
  obtain ⟨g',j,C⟩:=Y.NX
  rw [hg]at j
  simp only [oI,Prod.mk.injEq]at j
  obtain ⟨rfl,_⟩:=j
  obtain ⟨r',h1,x⟩:=Le hΓ hf U 0 he hr
  have q:=run_findKey (P:=P) (w:=w) hd h1
  have B:(getObj g).run P w=.ok (.map ms mm.2) w:=by simp [getObj,Sem.run,ho]
  cases r with
  |none=>
   simp only at x
   subst x
   refine ⟨_,?_,Hp (CX z)⟩
   simp [Instr.lookup,run_underlying N,C,B,A,q,O]
  |some v=>
   obtain ⟨i',v',rfl,aj⟩:=x
   refine ⟨_,?_,Hp aj⟩
   simp [Instr.lookup,run_underlying N,C,B,A,q]
 ·cases hl
theorem OX {e n:Nat}:∀{l:List (Nat×Nat)},SA e n l=true->(e,n)∈l
 |[],h=>by cases h
 |x::r,h=>by
  have h:((Nat.beq x.1 e&&Nat.beq x.2 n) ||SA e n r)=true:=h
  rw [Bool.or_eq_true,aT]at h
  rcases h with ⟨h1,h2⟩|h
  ·have j:=An.1 h1
   have q:=An.1 h2
   subst j q
   exact List.mem_cons_self
  ·exact List.mem_cons_of_mem _ (OX h)
theorem KN {p:TypeId->Nat->Bool} {e n:Nat} (h:SA e n (GS P p)=true):1<=n/\p e n=true:=by
 have h:=OX h
 unfold GS at h
 rw [List.mem_filterMap]at h
 obtain ⟨j,_,h⟩:=h
 split at h
 ·split at h
  ·rename_i i q
   split at h
   ·rename_i hc
    simp only [oI,Prod.mk.injEq]at h
    obtain ⟨rfl,rfl⟩:=h
    rw [aT]at hc
    exact ⟨AI.1 hc.1,hc.2⟩
   ·cases h
  ·cases h
 ·cases h
theorem LH (H:AD ρ μ h w) {ok:List (Nat×Nat)} {x v:Ab} {u:Value} (A:Ah ρ μ x u) (j:Oz h ok x=some v):
  ∃r c e,u=.pointer (some ⟨r,0,none⟩)/\Ah ρ μ v u/\w.heap[r]?=some (.cells c e (0,0))/\SA e c.size ok=true:=by
 unfold Oz at j
 split at j
 ·rename_i b
  unfold Yv at j
  split at j
  ·rename_i e vs hb
   obtain ⟨C,j⟩:=Ap j
   simp only [oI]at j
   subst j
   have B:=A
   obtain ⟨r,⟨δ,m⟩,J,c,I,⟨M,z⟩,_⟩:=H.blk b _ hb
   obtain ⟨O,P,N,q,L⟩:=A.ptr
   rw [J]at q
   simp only [oI,Prod.mk.injEq]at q
   obtain ⟨rfl,rfl,rfl⟩:=q
   subst M
   rw [Jz,<-z]at C
   exact ⟨r,c,e,L,B,I,C⟩
  ·cases j
 ·cases j
theorem run_shape {r:Nat} {c:Array Value} {e:TypeId} {fr:Nat×Nat} (j:w.heap[r]?=some (.cells c e fr)):(shape r).run P w=.ok (some (e,c.size)) w:=by
 simp [shape,Sem.run,World.shape?,j]
theorem Uf {r:Nat} {c:Array Value} {e:TypeId} {fr:Nat×Nat} (j:w.heap[r]?=some (.cells c e fr)):(viewAt r).run P w=.ok none w:=by
 simp [viewAt,run_shape j]
theorem Ms {r k:Nat} {c:Array Value} {e:TypeId} {fr:Nat×Nat} (j:w.heap[r]?=some (.cells c e fr)):(Conv.seenAt ⟨r,k,none⟩).run P w=.ok ⟨r,k,none⟩ w:=by
 simp [Conv.seenAt,Uf j]
theorem MQ (H:AD ρ μ h w) {o:Oper} {s d t:TypeId} {x:Operand} (I:o.op=.convert s d x) (J:AP ρ μ tm a) (hs:P.underlying s=some (.pointer t)) (hd:P.underlying d=some .unsafePointer) {n:Nat} (N:AU P t=some (n+1))
  {v:Ab} (C:Oz h (GS P fun _ _=>true) (ev tm (A8 x))=some v):Bf P ρ μ a o w v:=by
 obtain ⟨r,c,e,A,L,j,O⟩:=LH H (Au J x) C
 obtain ⟨M,_⟩:=KN O
 refine ⟨a.eval x,?_,L⟩
 have q:=Bm (w:=w) N
 have z:(cellsIn r).run P w=.ok (some c.size) w:=by simp [cellsIn,run_shape j]
 have B:c≠#[]:=by rintro rfl;simp at M
 have hc:¬c.size=0:=by omega
 rw [A]
 simp [execOp,I,A,Go.convert,run_underlying hs,run_underlying hd,Conv.unsafePointer,Ms j,q,z,B,hc]
theorem K0 (H:AD ρ μ h w) {o:Oper} {s d u:TypeId} {x:Operand} (I:o.op=.convert s d x) (J:AP ρ μ tm a) (hs:P.underlying s=some .unsafePointer) (hd:P.underlying d=some (.pointer u)) {n:Nat} (M:AU P u=some n)
  {v:Ab} (C:Oz h (GS P fun e n=>liesAt P P.depth e (n/P.cellsOf e) 0 u 1) (ev tm (A8 x))=some v):Bf P ρ μ a o w v:=by
 obtain ⟨r,c,e,z,L,j,N⟩:=LH H (Au J x) C
 obtain ⟨_,O⟩:=KN N
 refine ⟨a.eval x,?_,L⟩
 have q:=Bm (w:=w) M
 have B:w.shape? r=some (e,c.size):=by simp [World.shape?,j]
 have A:(variablesAt ⟨r,0,none⟩ u 1).run P w=.ok true w:=by simp [variablesAt,B,O]
 rw [z]
 simp [execOp,I,z,Go.convert,run_underlying hs,run_underlying hd,Conv.unsafePointer,Ms j,q,A]
theorem Yy {v:Ab} {n:Nat} (h:u8A v=some n):n<=255/\v=.int .u8 (.lit (.ofNat n)):=by
 unfold u8A at h
 split at h
 ·obtain ⟨q,j⟩:=Ap h
  simp only [oI]at j
  subst j
  exact ⟨AI.1 q,rfl⟩
 ·cases h
theorem RK:∀{cs:List Ab} {s:List Nat} {l:List Value},Ae1 cs=some s->Aw ρ μ cs l->l=s.map (fun n:Nat=>.int .u8 (n:Int))/\∀n∈s,n<=255
 |[],s,l,h,hr=>by
  have h:some []=some s:=h
  simp only [oI]at h
  subst h
  simp only [Aw]at hr
  subst hr
  exact ⟨rfl,fun n x=>by cases x⟩
 |v::cs,s,l,h,hr=>by
  have h:(A6 (u8A v) fun n=>A6 (Ae1 cs) fun l=>some (n::l))=some s:=h
  obtain ⟨n,x,H⟩:=Ac h
  obtain ⟨t,I,A⟩:=Ac H
  simp only [oI]at A
  subst A
  obtain ⟨z,rfl⟩:=Yy x
  simp only [Aw]at hr
  obtain ⟨u,rest,rfl,⟨_,B⟩,j⟩:=hr
  obtain ⟨k1,C⟩:=RK I j
  have:=B.int
  refine ⟨by rw [this,k1];rfl,fun m q=>?_⟩
  rcases List.mem_cons.1 q with rfl|q
  ·exact z
  ·exact C m q
theorem Ug (s:List Nat) (j:ByteArray):
  (forIn (m:=Sem) (s.map fun n:Nat=>Value.int .u8 (n:Int)) j fun c r=>match c with
   |.int .u8 n=>do pure PUnit.unit;pure (ForInStep.yield (r.push (UInt8.ofNat n.toNat)))
   |_=>do stuck "bytesToString: byte expected";pure (ForInStep.yield r)).run P w=.ok (s.foldl (fun r n=>r.push (UInt8.ofNat n)) j) w:=by
 induction s generalizing j with
 |nil=>simp
 |cons n s ih=>simp [ih]
theorem P6 (s:List Nat) (hs:∀n∈s,n<=255):∀j:ByteArray,strOf (s.foldl (fun r n=>r.push (UInt8.ofNat n)) j)=strOf j++s:=by
 induction s with
 |nil=>intro j;simp
 |cons n s ih=>
  intro j
  rw [List.foldl_cons,ih fun m q=>hs m (List.mem_cons_of_mem _ q)]
  have v:=hs n List.mem_cons_self
  have:strOf (j.push (UInt8.ofNat n))=strOf j++[n]:=by
   unfold strOf
   simp [ByteArray.push]
   omega
  rw [this];simp
theorem UM (H:AD ρ μ h w) {o:Oper} {s d e:TypeId} {x:Operand} (O:o.op=.convert s d x) (hT:AP ρ μ tm a) (hs:P.underlying s=some (.slice e)) (R:P.underlying e=some (.int .u8)) (hd:P.underlying d=some .string)
  {v:Ab} (z:WO h (ev tm (A8 x))=some v):Bf P ρ μ a o w v:=by
 have C:=Au hT x
 have key:∀(b q len r δ m c:Nat),N4 h b q len=some v->μ b=some (r,δ,m)->a.eval x=.slice (some ⟨r,δ+q,none⟩) len c->Bf P ρ μ a o w v:=fun b q len r δ m c B J A=>by
  unfold N4 at B
  rw [AA]at B
  by_cases h0:len=0
  ·rw [if_pos h0]at B
   simp only [oI]at B
   subst B
   subst h0
   refine ⟨.string .empty,?_,by simp only [Ah];exact ⟨_,rfl,rfl⟩⟩
   simp [execOp,O,A,Go.convert,run_underlying hs,run_underlying hd,run_underlying R,Conv.bytesToString,loadCells,loadCellsFrom]
  ·rw [if_neg h0]at B
   obtain ⟨vs,aa,V⟩:=Ac B
   obtain ⟨cs,Y,Z⟩:=Ac V
   obtain ⟨t,ht,N⟩:=Ac Z
   simp only [oI]at N
   subst N
   obtain ⟨r2,δ2,m2,c2,I,M,U,_,hc⟩:=H.cells aa
   rw [J]at M
   simp only [oI,Prod.mk.injEq]at M
   obtain ⟨rfl,rfl,rfl⟩:=M
   obtain ⟨l,X,Q,ab⟩:=D9 hc Y
   have L:=run_loadCells_list (P:=P) (w:=w) ⟨r,δ+q,none⟩ l (fun j v z=>by rw [Addr.AW,Cj U];exact ab j v z)
   rw [X]at L
   obtain ⟨k1,k2⟩:=RK ht Q
   subst k1
   refine ⟨.string (t.foldl (fun r n=>r.push (UInt8.ofNat n)) .empty),?_,by simp only [Ah];exact ⟨_,rfl,by rw [P6 t k2];rfl⟩⟩
   have hp:=Ug (P:=P) (w:=w) t .empty
   simp [execOp,O,A,Go.convert,run_underlying hs,run_underlying hd,run_underlying R,Conv.bytesToString,L,hp]
 unfold WO at z
 split at z
 ·rename_i A
  rw [A]at C
  have I:a.eval x=.slice none 0 0:=by simpa only [Ah]using C
  simp only [oI]at z
  subst z
  refine ⟨.string .empty,?_,by simp only [Ah];exact ⟨_,rfl,rfl⟩⟩
  simp [execOp,O,I,Go.convert,run_underlying hs,run_underlying hd,run_underlying R,Conv.bytesToString]
 ·rename_i b q len c A
  rw [A]at C
  obtain ⟨r,δ,m,J,I,_⟩:=C.slice
  exact key _ _ _ _ _ _ _ z J I
 ·rename_i b q len es A
  rw [A]at C
  obtain ⟨r,δ,m,cap,J,I,_⟩:=C.gslice
  exact key _ _ _ _ _ _ _ z J I
 ·cases z
theorem BN.length:∀{j:List Entry} {ms:List MapEntry},BN ρ μ j ms->j.length=ms.length
 |[],_,e=>by simp only [BN]at e;rw [e];rfl
 |_::_,_,e=>by
  simp only [BN]at e
  obtain ⟨v,rest,rfl,_,h⟩:=e
  simp [BN.length h]
theorem Mz {Γ:Ao} (hΓ:Γ.AB ρ) (H:AD ρ μ h w) (A:AP ρ μ tm a) {pl:List Co} {o:Oper} {q:NO} (hc:Dq P pl o=some (.r q)) {v:Ab} (j:Dm Γ tm h q=some v):Bf P ρ μ a o w v:=by
 cases hop:o.op<;>simp only [Dq,hop,reduceCtorEq,oI]at hc
 case load t x=>
  obtain ⟨n,C,e⟩:=mS hc
  simp only [DD.r.injEq]at e
  subst e
  obtain ⟨R,L,N⟩:=MH hΓ H C (Au A x) j
  exact ⟨R,by simp [execOp,hop,L],N⟩
 case lookup t x k ok=>
  split at hc
  ·rename_i kt e I
   split at hc
   ·rename_i i kk M hk
    obtain ⟨z,Z,e⟩:=mS hc
    simp only [DD.r.injEq]at e
    subst e
    obtain ⟨R,L,N⟩:=QB hΓ H I hk M Z (Au A x) (Au A k) j
    exact ⟨R,by simp [execOp,hop,L],N⟩
   ·cases hc
  ·cases hc
 case call c=>
  unfold EV at hc
  split at hc
  ·split at hc
   ·split at hc
    ·simp at hc
    ·split at hc
     ·split at hc<;>simp at hc
     ·split at hc
      ·split at hc<;>simp at hc
      ·cases hc
   ·cases hc
  ·simp at hc
  ·cases hc
  ·rename_i b hb
   split at hc
   ·rename_i x t e1 e2
    have X:c.args=#[x]:=by rw [<-Array.toList_inj];simpa using e1
    have et:c.argTypes=#[t]:=by rw [<-Array.toList_inj];simpa using e2
    split at hc
    ·simp at hc
    ·simp at hc
    ·simp at hc
    ·rename_i kt e I
     simp only [oI,DD.r.injEq]at hc;subst hc
     have J:=Au A x
     have j:Wv h (ev tm (A8 x))=some v:=j
     unfold Wv at j
     split at j
     ·rename_i O
      rw [O]at J
      have Q:a.eval x=.map none:=by simpa only [Ah]using J
      simp only [oI]at j
      subst j
      exact ⟨.int .i64 0,by simp [execOp,hop,resolve,hb,X,et,invoke,builtin,Builtin.len_,run_underlying I,goInt,Q],by simp only [lit,Ah,ST.den];rfl⟩
     ·rename_i bb O
      rw [O]at J
      obtain ⟨g,hg,Q⟩:=J.NX
      obtain ⟨mm,V,j⟩:=Ac j
      simp only [oI]at j
      subst j
      obtain ⟨g',ms,B,ho,U⟩:=H.map (Dw V)
      rw [hg]at B
      simp only [oI,Prod.mk.injEq]at B
      obtain ⟨rfl,_⟩:=B
      have Y:(getObj g).run P w=.ok (.map ms mm.2) w:=by simp [getObj,Sem.run,ho]
      have hl:Adp mm.1=ms.size:=by rw [WC];simpa using U.length
      exact ⟨.int .i64 ms.size,by simp [execOp,hop,resolve,hb,X,et,invoke,builtin,Builtin.len_,run_underlying I,goInt,Q,Y],by simp only [lit,Ah,ST.den];rw [hl];rfl⟩
     ·cases j
    ·cases hc
   ·exfalso
    unfold EE at hc
    split at hc<;>first|cases hc|skip
    all_goals (split at hc<;>first|(cases hc;done) |(split at hc<;>simp at hc))
   ·exfalso
    split at hc<;>first|(cases hc;done) |(obtain ⟨_,_,e⟩:=mS hc;cases e)
   ·simp at hc
   ·simp at hc
   ·simp at hc
   ·simp at hc
   ·exfalso
    split at hc
    ·split at hc<;>simp at hc
    ·cases hc
   ·cases hc
 case convert s d x=>
  rcases CC hc with ⟨k0,k,hs,hd,e⟩|⟨hs,hd,e⟩|⟨t,n,hs,hd,C,e⟩|⟨u,n,hs,hd,C,e⟩|⟨el,hs,U,hd,e⟩
  ·cases e
  ·cases e
  ·simp only [DD.r.injEq]at e;subst e
   exact MQ H hop A hs hd C j
  ·simp only [DD.r.injEq]at e;subst e
   exact K0 H hop A hs hd C j
  ·simp only [DD.r.injEq]at e;subst e
   exact UM H hop A hs U hd j
 case typeAssert x xt t ok=>
  obtain ⟨d,i,z,I,hd,M,Z,e⟩:=Cf hc
  cases e
 case defer c=>
  obtain ⟨ac,args,ai⟩:=c
  cases ac<;>simp at hc
 case makeFunc fn x c=>cases fn<;>simp at hc
 case binOp op t x y yt=>obtain ⟨_,_,e⟩:=mS hc;cases e
 case slice t x lo M mx=>
  exfalso
  split at hc
  ·simp at hc
  ·obtain ⟨_,_,e⟩:=mS hc;cases e
  ·split at hc
   ·obtain ⟨_,_,e⟩:=mS hc;cases e
   ·cases hc
  ·cases hc
 case build t parts=>
  exfalso
  split at hc
  ·split at hc
   ·obtain ⟨_,_,e⟩:=mS hc;cases e
   ·cases hc
  ·obtain ⟨_,_,hc⟩:=Option.bind_eq_some_iff.1 hc
   obtain ⟨_,_,e⟩:=mS hc;cases e
  ·cases hc
 case fieldAddr t x f=>
  exfalso
  split at hc
  ·obtain ⟨_,_,hc⟩:=Option.bind_eq_some_iff.1 hc
   split at hc<;>simp at hc
  ·cases hc
 case field t x f=>
  exfalso
  split at hc
  ·obtain ⟨_,_,hc⟩:=Option.bind_eq_some_iff.1 hc
   obtain ⟨_,_,e⟩:=mS hc;cases e
  ·cases hc
 all_goals
  exfalso
  first
   |(cases hc;done)
   |(split at hc<;>first|(cases hc;done) |(simp at hc;done) |(obtain ⟨_,_,e⟩:=mS hc;cases e;done) |(split at hc<;>first|(cases hc;done) |(simp at hc;done) |(obtain ⟨_,_,e⟩:=mS hc;cases e;done) |(split at hc<;>first|(cases hc;done) |(simp at hc;done) |(obtain ⟨_,_,e⟩:=mS hc;cases e;done))))
   |(obtain ⟨_,_,e⟩:=mS hc;cases e;done)
end
end
section
section
variable {P:Program} {Γ:Ao} {ρ:Env} {μ:As} {tm:Tr Ab} {a:Act} {w:World} {h:Al}
def NI (P:Program) (ρ:Env) (μ:As) (a:Act) (o:Oper) (w:World) (id:Nat) (B:Block) (v:Ab):Prop:=
 ∃q x,(execOp a.eval o).run P w=.ok (.value x) (w.alloc q)/\∃m,(∀j:As,μ.le j->C3 ρ j B (some q) (0,m))/\∀j:As,μ.le j->j id=some (w.heap.size,0,m)->Ah ρ j v x
theorem EX {cs:List Ab} {c:Array Value} {e:TypeId} (hc:Aw ρ μ cs c.toList) (q:As) (j:μ.le q):C3 ρ q (.cells cs) (some (.cells c e)) (0,c.size):=
 ⟨c,e,rfl,by omega,fun i x B=>by
  obtain ⟨v,z,hs,A⟩:=hc.get B
  exact ⟨v,by rw [Nat.zero_add];simpa using z,hs,A.mono j⟩⟩
theorem Lp {cs:List Ab} {c:Array Value} {e:TypeId} {t:Option Nat} (z:t=some e∨t=none) (hc:Aw ρ μ cs c.toList) (j:As) (q:μ.le j):C3 ρ j (KB t cs) (some (.cells c e)) (0,c.size):=by
 have h:=EX (e:=e) hc j q
 rcases z with rfl|rfl
 ·obtain ⟨A,B,x,hs,v⟩:=h
  simp only [oI,Obj.cells.injEq]at x
  obtain ⟨rfl,rfl,_⟩:=x
  exact ⟨c,rfl,⟨rfl,by have:=hc.length;simp at this;omega⟩,hs,v⟩
 ·exact h
theorem LM (t:TypeId):RL P t=some t∨RL P t=none:=by
 unfold RL
 split
 ·exact .inl rfl
 ·exact .inr rfl
theorem DX (e:TypeId) (c:Array Value):(newRow e c).run P w=.ok ⟨w.heap.size,0,none⟩ (w.alloc (.cells c e)):=by
 simp [newRow]
theorem Wl {id:Nat} {r m:Nat} (j:As) (q:j id=some (r,0,m)):Ah ρ j (.ptr id 0) (.pointer (some ⟨r,0,none⟩)):=by
 simp only [Ah];exact ⟨r,0,m,q,rfl⟩
theorem Uz {o:Oper} {t:TypeId} (v:o.op=.alloc t) {cs:List Ab} (A:GO P t=some cs) {id:Nat}:NI P ρ μ a o w id (KB (RL P t) cs) (.ptr id 0):=by
 obtain ⟨B,z,C⟩:=Ei (w:=w) (ρ:=ρ) (μ:=μ) A
 refine ⟨.cells B.cells t,.pointer (some ⟨w.heap.size,0,none⟩),?_,_,fun j q=>Lp (LM t) C j q,fun j _ x=>Wl j x⟩
 simp [execOp,v,Instr.alloc,z,newVar,DX]
theorem X3 {o:Oper} {t:TypeId} {x:Operand} (v:o.op=.box t x) (z:AP ρ μ tm a) {cs:List Ab} (hc:(ev tm (A8 x)).cells=some cs) {id:Nat}:NI P ρ μ a o w id (KB (RL P t) cs) (.ptr id 0):=by
 have B:=(Au z x).cells hc
 refine ⟨.cells (a.eval x).cells t,.pointer (some ⟨w.heap.size,0,none⟩),?_,_,fun j q=>Lp (LM t) B j q,fun j _ A=>Wl j A⟩
 simp [execOp,v,Instr.box,newVar,DX]
theorem JS {z:List Ab} {A:Array Value} {n:Nat} (C:Aw ρ μ z A.toList) (j:z.length=n) (k:Nat) {y:Array Value} (M:k*n≠0->y=A):
  Aw ρ μ (rep z k) ((Array.range (k*n)).map fun i=>y[i%y.size]!).toList:=by
 have J:A.size=n:=by have:=C.length;simp at this;omega
 refine Aw.Kn (by rw [I6,j];simp) fun i x q=>?_
 have I:i<k*n:=by
  have:=(List.getElem?_eq_some_iff.1 q).1
  rw [I6,j]at this
  exact this
 rw [Wh z k i (by rw [j];exact I),j]at q
 obtain ⟨v,B,hs,L⟩:=C.get q
 refine ⟨v,?_,hs,L⟩
 have H:=M (by omega)
 subst H
 rw [Array.getElem?_toList]at B
 simp only [Array.getElem?_toList,Array.getElem?_map]
 rw [Array.getElem?_range,if_pos I]
 simp only [Option.map_some]
 rw [J,getElem!_def,B]
theorem Q8 {o:Oper} {t e:TypeId} {len n:Nat} {parts:Array (Nat×Operand)} (H:o.op=.buildSlice t len parts) (M:AP ρ μ tm a) (I:P.underlying t=some (.slice e)) (O:AU P e=some n) {z:List Ab} (U:GO P e=some z)
  (Y:len*n<=65536) (C:z.length=n) {ps:List (Nat×Nat×Cr)} (Q:partsOf (fun i=>some (i*n,n)) parts.toList=some ps) {cs:List Ab} (hf:Hw tm ps (List.replicate len z).flatten=some cs) {id:Nat}:
  NI P ρ μ a o w id (.cells cs) (.slice id 0 len len):=by
 obtain ⟨L,N,V⟩:=Ei (w:=w) (ρ:=ρ) (μ:=μ) U
 have hs:=Bm (w:=w) O
 have key:∀y:Array Value,(len*n≠0->y=L.cells)->∃x:Array Value,Instr.fill (fun i=>some (i*n,n)) ((Array.range (len*n)).map fun i=>y[i%y.size]!) ((parts.map fun x=>(x.1,a.eval x.2)).toList)=some x/\Aw ρ μ cs x.toList:=fun y R=>by
  have J:=JS V C len R
  rw [Aa2]at J
  obtain ⟨x,v,hc⟩:=Gm (place':=fun i=>some (i*n,n)) M Q (fun i y e=>e) J hf
  refine ⟨x,?_,hc⟩
  have X:(parts.map fun x=>(x.1,a.eval x.2)).toList=parts.toList.map fun p=>(p.1,a.eval p.2):=by simp
  rw [X];exact v
 have q:¬len*n>2^24:=by omega
 have B:∀(m:Nat) (j:As),j id=some (w.heap.size,0,m)->Ah ρ j (.slice id 0 len len) (.slice (some ⟨w.heap.size,0,none⟩) len len):=fun m j A=>by
  simp only [Ah];exact ⟨_,_,_,A,rfl,Nat.le_refl _⟩
 by_cases h0:len*n=0
 ·obtain ⟨x,v,hc⟩:=key #[] (fun h=>absurd h0 h)
  refine ⟨.cells x e,_,?_,_,fun j q=>EX hc j q,fun j _ A=>B _ j A⟩
  simp only [execOp,H,Instr.buildSlice,Sem.run_bind,run_underlying I,Result.andThen_ok,hs]
  rw [if_neg q]
  simp only [Sem.run_bind,Sem.run_pure,Result.andThen_ok,h0,if_true]
  rw [h0]at v
  simp only [v]
  simp [DX]
 ·obtain ⟨x,v,hc⟩:=key L.cells (fun _=>rfl)
  refine ⟨.cells x e,_,?_,_,fun j q=>EX hc j q,fun j _ A=>B _ j A⟩
  simp only [execOp,H,Instr.buildSlice,Sem.run_bind,run_underlying I,Result.andThen_ok,hs]
  rw [if_neg q]
  simp only [Sem.run_bind,Sem.run_pure,Result.andThen_ok,h0,if_false,N]
  simp only [v]
  simp [DX]
theorem wrap_small {n:Nat} (h:n<=1048576):IntKind.i64.wrap (n:Int)=(n:Int):=by
 unfold IntKind.wrap
 have e:(n:Int)%2^IntKind.i64.bits=n:=Int.emod_eq_of_lt (by omega) (by show (n:Int)<18446744073709551616;omega)
 simp only [e]
 rw [if_neg]
 intro hc
 simp only [aT,decide_eq_true_eq]at hc
 have:(9223372036854775808:Int)<=n:=hc.2
 omega
theorem NY {o:Oper} {t e:TypeId} {l c:Operand} (U:o.op=.makeSlice t l c) (M:AP ρ μ tm a) (V:P.underlying t=some (.slice e)) {i:TypeInfo} (hi:P.info? e=some i) {z:List Ab} (Z:GO P e=some z)
  (hb:i.bytes<=1048576) (I:z.length=i.size) {id:Nat} {B:Block} {v:Ab} (h:MD id z (C4 (ev tm (A8 l))) (C4 (ev tm (A8 c)))=some (B,v)):NI P ρ μ a o w id B v:=by
 obtain ⟨zv,Y,O⟩:=Ei (w:=w) (ρ:=ρ) (μ:=μ) Z
 unfold MD at h
 obtain ⟨ln,hl,h⟩:=Ac h
 obtain ⟨cn,hc,h⟩:=Ac h
 obtain ⟨j,h⟩:=Ap h
 rw [aT,AI,AI]at j
 simp only [oI,Prod.mk.injEq]at h
 obtain ⟨rfl,rfl⟩:=h
 obtain ⟨k1,Q⟩:=Ch hl (Au M l)
 obtain ⟨k2,R⟩:=Ch hc (Au M c)
 have A:(typeInfo e).run P w=.ok i w:=by simp [typeInfo,hi]
 have hs:(sizeOf e).run P w=.ok i.size w:=by simp [sizeOf,A]
 have H:∀(m:Nat) (q:As),q id=some (w.heap.size,0,m)->Ah ρ q (.slice id 0 ln cn) (.slice (some ⟨w.heap.size,0,none⟩) ln cn):=fun m q C=>by
  simp only [Ah];exact ⟨_,_,_,C,rfl,j.1⟩
 have X:=wrap_small (n:=ln) (by omega)
 have N:=wrap_small (n:=cn) (by omega)
 have ab:i.bytes*cn<=1048576*1048576:=Nat.mul_le_mul hb j.2
 have L:(((cn:Int)<0) ||decide ((i.bytes:Int)*(cn:Int)>2^48))=false:=by
  have:(i.bytes:Int)*(cn:Int)=((i.bytes*cn:Nat):Int):=by simp
  rw [this]
  simp
  omega
 have x:(((((cn:Int)<0) ||decide ((i.bytes:Int)*(cn:Int)>2^48)) ||decide ((ln:Int)<0)) ||decide ((ln:Int)>(cn:Int)))=false:=by
  rw [L];simp;omega
 by_cases h0:cn*i.size=0
 ·have J:=JS O I cn (y:=#[]) (fun h=>absurd h0 h)
  refine ⟨.cells _ e,_,?_,_,fun q j=>EX J q j,fun q _ C=>H _ q C⟩
  simp only [execOp,U,Instr.makeSlice,Sem.run_bind,run_underlying V,Result.andThen_ok,Q,R,asInt,asIntOf,Sem.run_pure,A,X,N]
  rw [x]
  simp [hs,h0,DX]
 ·have J:=JS O I cn (y:=zv.cells) (fun _=>rfl)
  refine ⟨.cells _ e,_,?_,_,fun q j=>EX J q j,fun q _ C=>H _ q C⟩
  simp only [execOp,U,Instr.makeSlice,Sem.run_bind,run_underlying V,Result.andThen_ok,Q,R,asInt,asIntOf,Sem.run_pure,A,X,N]
  rw [x]
  simp [hs,h0,Y,DX]
theorem X2 {o:Oper} {t k e:TypeId} {r:Option Operand} (q:o.op=.makeMap t r) (x:P.underlying t=some (.map k e)) (z:r=none∨∃j n,r=some (.const (.int j n))) {id:Nat}:NI P ρ μ a o w id (.map [] 0) (.map id):=by
 refine ⟨.map #[] 0,.map (some w.heap.size),?_,0,fun A _=>⟨rfl,#[],rfl,by simp only [BN]⟩,fun A _ v=>by simp only [Ah];exact ⟨_,v,rfl⟩⟩
 rcases z with rfl|⟨j,n,rfl⟩
 ·simp [execOp,q,Instr.makeMap]
 ·simp [execOp,q,Instr.makeMap,run_underlying x,Act.eval,asInt,asIntOf]
theorem OK (L:AP ρ μ tm a) {pl:List Co} {o:Oper} {q:AOp} (hc:Dq P pl o=some (.a q)) {id:Nat} {B:Block} {v:Ab} (h:X1 tm id q=some (B,v)):NI P ρ μ a o w id B v:=by
 cases hop:o.op<;>simp only [Dq,hop,reduceCtorEq,oI,DD.a.injEq]at hc
 case alloc t=>
  obtain ⟨z,H,e⟩:=mS hc
  simp only [DD.a.injEq]at e
  subst e
  have h:some (KB (RL P t) z,Ab.ptr id 0)=some (B,v):=h
  simp only [oI,Prod.mk.injEq]at h
  obtain ⟨rfl,rfl⟩:=h
  exact Uz hop H
 case box t x=>
  subst hc
  obtain ⟨cs,I,h⟩:=Ac h
  simp only [oI,Prod.mk.injEq]at h
  obtain ⟨rfl,rfl⟩:=h
  exact X3 hop L I
 case buildSlice t len parts=>
  split at hc
  ·rename_i e C
   split at hc
   ·rename_i n z M H
    split at hc
    ·rename_i A
     obtain ⟨ps,Q,e⟩:=mS hc
     simp only [DD.a.injEq]at e
     subst e
     obtain ⟨cs,I,h⟩:=Ac h
     simp only [oI,Prod.mk.injEq]at h
     obtain ⟨rfl,rfl⟩:=h
     simp only [aT,decide_eq_true_eq,beq_iff_eq]at A
     exact Q8 hop L C M H A.1 A.2 Q I
    ·cases hc
   ·cases hc
  ·cases hc
 case makeSlice t l c=>
  split at hc
  ·rename_i e C
   split at hc
   ·rename_i i z N H
    split at hc
    ·rename_i A
     simp only [oI,DD.a.injEq]at hc
     subst hc
     simp only [aT,decide_eq_true_eq,beq_iff_eq]at A
     exact NY hop L C N H A.1 A.2 h
    ·cases hc
   ·cases hc
  ·cases hc
 case makeMap t r=>
  have J:q=.mkMap->(∃k e,P.underlying t=some (.map k e))->(r=none∨∃j n,r=some (.const (.int j n)))->NI P ρ μ a o w id B v:=fun U C R=>by
   subst U
   have h:some (Block.map [] 0,Ab.map id)=some (B,v):=h
   simp only [oI,Prod.mk.injEq]at h
   obtain ⟨rfl,rfl⟩:=h
   obtain ⟨k,e,C⟩:=C
   exact X2 hop C R
  split at hc
  ·rename_i k e C
   simp only [oI,DD.a.injEq]at hc
   exact J hc.symm ⟨_,_,C⟩ (.inl rfl)
  ·rename_i k e j n C
   simp only [oI,DD.a.injEq]at hc
   exact J hc.symm ⟨_,_,C⟩ (.inr ⟨_,_,rfl⟩)
  ·cases hc
 case call c=>
  exfalso
  unfold EV at hc
  split at hc
  ·split at hc
   ·split at hc
    ·simp at hc
    ·split at hc
     ·split at hc<;>simp at hc
     ·split at hc
      ·split at hc<;>simp at hc
      ·cases hc
   ·cases hc
  ·simp at hc
  ·cases hc
  ·split at hc
   ·split at hc<;>simp at hc
   ·exfalso
    unfold EE at hc
    split at hc<;>first|cases hc|skip
    all_goals (split at hc<;>first|(cases hc;done) |(split at hc<;>simp at hc))
   ·exfalso
    split at hc<;>first|(cases hc;done) |(obtain ⟨_,_,e⟩:=mS hc;cases e)
   ·simp at hc
   ·simp at hc
   ·simp at hc
   ·simp at hc
   ·exfalso
    split at hc
    ·split at hc<;>simp at hc
    ·cases hc
   ·cases hc
 case convert s d x=>
  rcases CC hc with ⟨k0,k,hs,hd,e⟩|⟨hs,hd,e⟩|⟨t,n,hs,hd,M,e⟩|⟨u,n,hs,hd,M,e⟩|⟨el,hs,he,hd,e⟩<;>cases e
 case typeAssert x xt t ok=>
  obtain ⟨d,i,z,C,hd,N,H,e⟩:=Cf hc
  cases e
 case defer c=>
  obtain ⟨O,args,V⟩:=c
  cases O<;>simp at hc
 case makeFunc fn x c=>cases fn<;>simp at hc
 case binOp op t x y yt=>obtain ⟨_,_,e⟩:=mS hc;cases e
 case slice t x lo N mx=>
  exfalso
  split at hc
  ·simp at hc
  ·obtain ⟨_,_,e⟩:=mS hc;cases e
  ·split at hc
   ·obtain ⟨_,_,e⟩:=mS hc;cases e
   ·cases hc
  ·cases hc
 case build t parts=>
  exfalso
  split at hc
  ·split at hc
   ·obtain ⟨_,_,e⟩:=mS hc;cases e
   ·cases hc
  ·obtain ⟨_,_,hc⟩:=Option.bind_eq_some_iff.1 hc
   obtain ⟨_,_,e⟩:=mS hc;cases e
  ·cases hc
 case fieldAddr t x f=>
  exfalso
  split at hc
  ·obtain ⟨_,_,hc⟩:=Option.bind_eq_some_iff.1 hc
   split at hc<;>simp at hc
  ·cases hc
 case field t x f=>
  exfalso
  split at hc
  ·obtain ⟨_,_,hc⟩:=Option.bind_eq_some_iff.1 hc
   obtain ⟨_,_,e⟩:=mS hc;cases e
  ·cases hc
 all_goals
  exfalso
  first
   |(cases hc;done)
   |(split at hc<;>first|(cases hc;done) |(simp at hc;done) |(obtain ⟨_,_,e⟩:=mS hc;cases e;done) |(split at hc<;>first|(cases hc;done) |(simp at hc;done) |(obtain ⟨_,_,e⟩:=mS hc;cases e;done) |(split at hc<;>first|(cases hc;done) |(simp at hc;done) |(obtain ⟨_,_,e⟩:=mS hc;cases e;done))))
   |(obtain ⟨_,_,e⟩:=mS hc;cases e;done)
end
end
section
section
variable {P:Program} {Γ:Ao} {ρ:Env} {μ:As} {tm:Tr Ab} {a:Act} {w:World} {h:Al}
theorem setRow_other (w:World) (g i:Nat) (c:Array Value) (j:i≠g):(w.setRow g c).heap[i]?=w.heap[i]?:=by
 unfold World.setRow
 simp only [Array.getElem?_modify]
 rw [if_neg (Ne.symm j)]
theorem En (w:World) (g:Nat) (c cur:Array Value) (t:TypeId) (fr:Nat×Nat) (hg:w.heap[g]?=some (.cells cur t fr)):(w.setRow g c).heap[g]?=some (.cells c t fr):=by
 unfold World.setRow
 simp only [Array.getElem?_modify]
 rw [if_pos trivial,hg]
 rfl
theorem DH {r p:Nat} {c:Array Value} {e:TypeId} (L:List Value) (hg:w.heap[r]?=some (.cells c e (0,0))) (x:p+L.length<=c.size) (q:∀v∈L,v.oneCell'=true):
  ∃j:Array Value,(storeCells ⟨r,p,none⟩ L).run P w=.ok () (w.setRow r j)/\j.size=c.size/\∀k,j[k]?=if p<=k/\k<p+L.length then L[k-p]? else c[k]?:=by
 refine ⟨_,run_storeCells_at P r p e L 0 c w hg (by omega) q,?_,fun k=>?_⟩
 ·simp;omega
 ·simp only [Nat.add_zero,List.getElem?_toArray]
  rw [List.append_assoc]
  have hl:(c.toList.take p).length=p:=by simp;omega
  by_cases hk:k<p
  ·rw [List.getElem?_append_left (by omega),List.getElem?_take,if_pos hk,if_neg (by omega)]
   simp
  ·rw [List.getElem?_append_right (by omega),hl]
   by_cases hk2:k<p+L.length
   ·rw [List.getElem?_append_left (by omega),if_pos (by omega)]
   ·rw [List.getElem?_append_right (by omega),List.getElem?_drop,if_neg (by omega)]
    rw [Array.getElem?_toList]
    congr 1
    omega
theorem Aw.one:∀{as:List Ab} {vs:List Value},Aw ρ μ as vs->∀v∈vs,v.oneCell'=true
 |[],_,e,v,hv=>by simp only [Aw]at e;subst e;cases hv
 |_::_,_,e,v,hv=>by
  simp only [Aw]at e
  obtain ⟨u,rest,rfl,⟨hs,j⟩,h⟩:=e
  cases hv with
  |head=>exact j.Q1 hs
  |tail _ hv=>exact Aw.one h v hv
theorem AD.AgV (H:AD ρ μ h w) {b:Nat} {vs:List Ab} {r δ m:Nat} {c:Array Value} {e:TypeId} (q:δ+m<=c.size) (hc:∀(i:Nat) (x:Ab),vs[i]?=some x->∃v,c[δ+i]?=some v/\x.single=true/\Ah ρ μ x v):δ+vs.length<=c.size:=by
 cases hl:vs.length with
 |zero=>omega
 |succ n=>
  obtain ⟨v,j,_⟩:=hc n _ (List.getElem?_eq_getElem (by omega))
  have:=(Array.getElem?_eq_some_iff.1 j).1
  omega
theorem GP (H:AD ρ μ h w) {b z:Nat} {vs j new:List Ab} {L:List Value} (hb:cellsOf (h.get b)=some vs) (R:Aw ρ μ new L) (hs:splice new z vs=some j):
  ∃r δ m,μ b=some (r,δ,m)/\∃w',(storeCells ⟨r,δ+z,none⟩ L).run P w=.ok () w'/\∀A,(A=.cells j∨A=AdO (h.get b) j)->Av ρ μ h w μ (h.set b (some A)) w':=by
 obtain ⟨r,δ,m,c,e,Q,Y,Z,hc⟩:=H.cells hb
 obtain ⟨B0,aa⟩:=Lj hb
 obtain ⟨h1,h2,h3⟩:=GX hs
 have hl:=R.length
 have ag:=H.AgV (b:=b) (r:=r) (e:=e) Z hc
 obtain ⟨M,V,af,ac⟩:=DH (P:=P) L Y (p:=δ+z) (by omega) R.one
 refine ⟨r,δ,m,Q,_,V,fun A ab=>?_⟩
 have q:∀(i:Nat) (x:Ab),j[i]?=some x->∃v,M[δ+i]?=some v/\x.single=true/\Ah ρ μ x v:=fun i x N=>by
  rw [h3]at N
  rw [ac]
  split at N
  ·rename_i U
   obtain ⟨v,X,I,C⟩:=R.get N
   refine ⟨v,?_,I,C⟩
   rw [if_pos (by omega),<-X]
   congr 1
   omega
  ·rename_i U
   obtain ⟨v,X,I,C⟩:=hc i x N
   refine ⟨v,?_,I,C⟩
   rw [if_neg (by omega)]
   exact X
 refine Av.change H aa Q A (fun i U=>setRow_other _ _ _ _ U) (by simp) rfl rfl ?_
 rw [En _ _ _ _ _ _ Y]
 have O:C3 ρ μ (.cells j) (some (.cells M e (0,0))) (δ,m):=⟨M,e,rfl,by omega,q⟩
 rcases ab with rfl|rfl
 ·exact O
 ·rcases EF hb with hb'|⟨t,hb'⟩
  ·rw [hb'];exact O
  ·rw [hb']
   obtain ⟨r2,⟨δ2,m2⟩,J,c2,B,⟨hδ,ah⟩,_⟩:=H.blk b _ hb'
   rw [Q]at J
   simp only [oI,Prod.mk.injEq]at J
   obtain ⟨rfl,rfl,rfl⟩:=J
   rw [Y]at B
   simp only [oI,Obj.cells.injEq]at B
   obtain ⟨rfl,rfl,_⟩:=B
   exact ⟨M,rfl,⟨hδ,by omega⟩,by omega,q⟩
def JQ (P:Program) (g:FuncId):Prop:=∃fn,P.funcs[g]?=some fn/\fn.body.isSome=true/\(fn.name== "runtime.NumGoroutine")=false
def KK (ρ:Env) (μ:As) (d:FuncId×List Ab) (c:Deferred):Prop:=
 ∃cap:Array Value,c.target=.fn (.func d.1) cap/\A4 ρ μ d.2 (c.args++cap).toList
def Ez (P:Program) (ρ:Env) (μ:As) (h:Al) (a:Act) (o:Oper) (w:World):GL->Prop
 |.val v h'=>∃q u w' x,(execOp a.eval o).run P w=.ok q w'/\(q=.value u∨(q=.skip/\u=undef))/\Av ρ μ h w x h' w'/\Ah ρ x v u
 |.call g args=>JQ P g->∃j:Array Value,(execOp a.eval o).run P w=.ok (.enter g j) w/\A4 ρ μ args j.toList
 |.panic v=>∃u,(execOp a.eval o).run P w=.halt (.panic u) w/\Ah ρ μ v u
 |.defer g args=>∃d,(execOp a.eval o).run P w=.ok (.defer d) w/\KK ρ μ (g,args) d
theorem Vc {o:Oper} {t:TypeId} {p x:Operand} (R:o.op=.store t p x) (H:AD ρ μ h w) (C:AP ρ μ tm a) {n:Nat} (Q:AU P t=some n) {I:Al} (hs:T5 h n (ev tm (A8 p)) (ev tm (A8 x))=some I):
  Ez P ρ μ h a o w (.val .any I):=by
 have L:=Au C p
 have V:=Au C x
 unfold T5 at hs
 split at hs
 ·rename_i b Z U
  obtain ⟨vs,N,hs⟩:=Ac hs
  obtain ⟨Y,hf,hs⟩:=Ac hs
  simp only [oI]at hs
  subst hs
  rw [U]at L
  obtain ⟨r',δ',m',j,X⟩:=L.ptr
  unfold Fo at hf
  obtain ⟨new,v,hf⟩:=Ac hf
  obtain ⟨A,hf⟩:=Ap hf
  have q:=V.cells v
  obtain ⟨r,δ,m,O,w',z,hg⟩:=GP (P:=P) H N q hf
  have hg:=hg _ (.inr rfl)
  rw [O]at j
  simp only [oI,Prod.mk.injEq]at j
  obtain ⟨rfl,rfl,rfl⟩:=j
  have B:(a.eval x).cells.size=n:=by
   have J:=An.1 A
   rw [Jz]at J
   rw [<-J]
   simpa using q.length.symm
  have M:=Bm (w:=w) Q
  refine ⟨.skip,undef,w',μ,?_,.inr ⟨rfl,rfl⟩,hg,trivial⟩
  simp [execOp,R,Instr.storeAt,X,Instr.sureAddr,storeVar,M,B,z]
 ·cases hs
theorem Vk {f:Ab} {args:List Ab} {r:FuncId×List Ab} (h:N2 f args=some r):∃first cap,f=.func r.1 first cap/\r.2=first++(args++cap):=by
 unfold N2 at h
 split at h
 ·rename_i g first cap
  simp only [oI]at h
  subst h
  exact ⟨first,cap,rfl,rfl⟩
 ·cases h
theorem GD {g:FuncId} (hf:JQ P g) (args:Array Value):(callFunc g args).run P w=.ok (.enter g args) w:=by
 obtain ⟨fn,q,x,v⟩:=hf
 have j:fn.body.isNone=false:=by cases hb:fn.body<;>simp [hb]at x⊢
 simp only [callFunc,Sem.run_bind,run_program,Result.andThen_ok,q,v,j]
 simp
theorem Jp {c:Call} {x:Operand} (j:c.callee=.value x) (q:AP ρ μ tm a) {t:TypeId} {r:FuncId×List Ab} (h:N2 (ev tm (A8 x)) (RG tm (BT c.args.toList))=some r):
  ∃d cap:Array Value,(resolve a.eval c t).run P w=.ok {target:=.fn (.func r.1) cap,args:=d} w/\A4 ρ μ r.2 (d++cap).toList:=by
 obtain ⟨first,cap,B,I⟩:=Vk h
 have z:=Au q x
 rw [B]at z
 obtain ⟨C,H,A,hf,v⟩:=z.func
 refine ⟨C++c.args.map a.eval,H,?_,?_⟩
 ·simp [resolve,j,A,Deferred.ofValue]
 ·rw [I]
  simp only [Array.toList_append,Array.toList_map,List.append_assoc]
  exact hf.append ((FO q _).append v)
theorem Po {o:Oper} {c:Call} {x:Operand} (q:o.op=.call c) (j:c.callee=.value x) (v:AP ρ μ tm a) {r:FuncId×List Ab} (z:N2 (ev tm (A8 x)) (RG tm (BT c.args.toList))=some r):
  Ez P ρ μ h a o w (.call r.1 r.2):=fun hf=>by
 obtain ⟨d,cap,A,B⟩:=Jp (P:=P) (w:=w) (t:=o.type) j v z
 refine ⟨d++cap,?_,B⟩
 simp only [execOp,q,Sem.run_bind,A,Result.andThen_ok,invoke]
 exact GD hf _
theorem Vf {o:Oper} {c:Call} {x:Operand} (q:o.op=.defer c) (j:c.callee=.value x) (v:AP ρ μ tm a) {r:FuncId×List Ab} (A:N2 (ev tm (A8 x)) (RG tm (BT c.args.toList))=some r):
  Ez P ρ μ h a o w (.defer r.1 r.2):=by
 obtain ⟨d,cap,z,B⟩:=Jp (P:=P) (w:=w) (t:=o.type) j v A
 refine ⟨{target:=.fn (.func r.1) cap,args:=d},?_,cap,rfl,B⟩
 simp only [execOp,q,Sem.run_bind,z,Result.andThen_ok]
 rfl
theorem Vd {o:Oper} {x:Operand} (A:o.op=.panic x) (B:AP ρ μ tm a) {r:GL} (j:Un (ev tm (A8 x))=some r):Ez P ρ μ h a o w r:=by
 have q:=Au B x
 unfold Un at j
 split at j
 ·rename_i t v C
  simp only [oI]at j
  subst j
  rw [C]at q
  have z:=q
  obtain ⟨u,H,_⟩:=q.iface
  exact ⟨a.eval x,by simp [execOp,A,Instr.panic,H],z⟩
 ·cases j
theorem Vi (fn:Func) (j:fn.name= "maps.clone") (A:fn.origin= ""):Extern.findNext fn=none/\Extern.find fn=some Extern.MapsClone.clone:=by
 have z:Extern.allNextRows.lookup "maps.clone" =none:=by kernel_rfl
 have a2:Extern.allNextRows.lookup "" =none:=by kernel_rfl
 have x:Extern.allGenericRows.lookup "maps.clone" =none:=by kernel_rfl
 have q:Extern.allTypedRows.lookup "maps.clone" =none:=by kernel_rfl
 have v:Extern.allRows.lookup "maps.clone" =some Extern.MapsClone.clone:=by kernel_rfl
 refine ⟨?_,?_⟩
 ·unfold Extern.findNext
  rw [j,A]
  simp [z,a2]
 ·unfold Extern.find
  rw [j]
  simp [x,q,v]
theorem Ut (fn:Func) (j:fn.name= "internal/abi.NoEscape") (A:fn.origin= ""):Extern.findNext fn=none/\Extern.find fn=some Extern.AbiNoEscape.same:=by
 have z:Extern.allNextRows.lookup "internal/abi.NoEscape" =none:=by kernel_rfl
 have a2:Extern.allNextRows.lookup "" =none:=by kernel_rfl
 have x:Extern.allGenericRows.lookup "internal/abi.NoEscape" =none:=by kernel_rfl
 have q:Extern.allTypedRows.lookup "internal/abi.NoEscape" =none:=by kernel_rfl
 have v:Extern.allRows.lookup "internal/abi.NoEscape" =some Extern.AbiNoEscape.same:=by kernel_rfl
 refine ⟨?_,?_⟩
 ·unfold Extern.findNext
  rw [j,A]
  simp [z,a2]
 ·unfold Extern.find
  rw [j]
  simp [x,q,v]
theorem Ve {o:Oper} {c:Call} {f:FuncId} {x:Operand} {fn:Func} (M:o.op=.call c) (A:c.callee=.value (.func f)) (q:c.args=#[x]) (hf:P.funcs[f]?=some fn) (hb:fn.body.isSome=false) (j:fn.name= "internal/abi.NoEscape") (z:fn.origin= "")
  (H:AD ρ μ h w) (L:AP ρ μ tm a) {r:GL} (v:Uu h (ev tm (A8 x))=some r):Ez P ρ μ h a o w r:=by
 have N:=Au L x
 unfold Uu at v
 simp only [oI]at v
 subst v
 refine ⟨.value (a.eval x),a.eval x,w,μ,?_,.inl rfl,Av.refl H,N⟩
 obtain ⟨n1,n2⟩:=Ut fn j z
 have B:(fn.name== "runtime.NumGoroutine")=false:=by rw [j];rfl
 have I:fn.body.isNone=true:=by cases hbb:fn.body<;>simp [hbb]at hb⊢
 have C:(Extern.AbiNoEscape.same #[a.eval x]).run P w=.ok (a.eval x) w:=by
  have e:Extern.AbiNoEscape.same #[a.eval x]=pure (a.eval x):=rfl
  rw [e];rfl
 have J:a.eval (.func f)=.func (.func f) #[] #[]:=rfl
 simp only [execOp,M,resolve,A,q,List.map_toArray,List.map_cons,List.map_nil,J,Deferred.ofValue,Sem.run_bind,Sem.run_pure,Result.andThen_ok,invoke,callFunc,run_program,hf,B,I,n1,n2,run_mark]
 simp [C]
theorem Vg {o:Oper} {c:Call} {f:FuncId} {x:Operand} {fn:Func} (ho:o.op=.call c) (M:c.callee=.value (.func f)) (I:c.args=#[x]) (hf:P.funcs[f]?=some fn) (hb:fn.body.isSome=false) (A:fn.name= "maps.clone") (L:fn.origin= "")
  (H:AD ρ μ h w) (Z:AP ρ μ tm a) {r:GL} (v:Vj h (ev tm (A8 x))=some r):Ez P ρ μ h a o w r:=by
 have Y:=Au Z x
 unfold Vj at v
 split at v
 ·rename_i t b e1
  rw [e1]at Y
  obtain ⟨u,e2,hu⟩:=Y.iface
  obtain ⟨g,hg,rfl⟩:=hu.NX
  have key:∀(B:Block) (ms:Array MapEntry) (j:Nat),w.heap[g]?=some (.map ms j)->(∀J,μ.le J->C3 ρ J B (some (.map ms j)) (0,0))->r=.val (.iface t (.map h.next)) (h.add B)->Ez P ρ μ h a o w r:=fun B ms j z hB hr=>by
   subst hr
   have X:=Av.add H B (.map ms j) (0,0) hB
   refine ⟨.value (.iface t (.map (some w.heap.size))),_,_,_,?_,.inl rfl,X,?_⟩
   ·obtain ⟨n1,n2⟩:=Vi fn A L
    have O:(fn.name== "runtime.NumGoroutine")=false:=by rw [A];rfl
    have R:fn.body.isNone=true:=by cases hbb:fn.body<;>simp [hbb]at hb⊢
    have Q:(Extern.MapsClone.clone #[.iface t (.map (some g))]).run P w=.ok (.iface t (.map (some w.heap.size))) (w.alloc (.map ms j)):=by
     have e:Extern.MapsClone.clone #[.iface t (.map (some g))]=(getObj g>>=fun o=>match o with
      |.map entries clock=>(newObj (.map entries clock)>>=fun n=>pure (.iface t (.map (some n))))
      |_=>stuck "maps.clone: a map expected"):=rfl
     have U:(getObj g).run P w=.ok (.map ms j) w:=by simp [getObj,Sem.run,z]
     rw [e]
     simp [U]
    have V:a.eval (.func f)=.func (.func f) #[] #[]:=rfl
    simp only [execOp,ho,resolve,M,I,List.map_toArray,List.map_cons,List.map_nil,e2,V,Deferred.ofValue,Sem.run_bind,Sem.run_pure,Result.andThen_ok,invoke,callFunc,run_program,hf,O,R,n1,n2,run_mark]
    simp [Q]
   ·simp only [Ah]
    exact ⟨_,rfl,_,As.BC _ _ _,rfl⟩
  unfold AbC at v
  split at v
  ·rename_i i hi
   simp only [oI]at v
   obtain ⟨g',ms,j,q,z,N⟩:=H.smap (Em hi)
   rw [hg]at q
   simp only [oI,Prod.mk.injEq]at q
   obtain ⟨rfl,_⟩:=q
   exact key (.smap i) ms j z (fun J C=>⟨rfl,ms,j,rfl,IV.mono C.AQ N⟩) v.symm
  ·obtain ⟨m,hm,v⟩:=Ac v
   simp only [oI]at v
   obtain ⟨g',ms,q,z,N⟩:=H.map (Dw hm)
   rw [hg]at q
   simp only [oI,Prod.mk.injEq]at q
   obtain ⟨rfl,_⟩:=q
   exact key (.map m.1 m.2) ms m.2 z (fun J C=>⟨rfl,ms,rfl,N.mono C⟩) v.symm
 ·cases v
theorem Jl {kk:LK} {x y:Ab} {u v:Value} (q:Ah ρ μ x u) (j:Ah ρ μ y v) (h:OV kk x y=some true):Instr.sameBits 10000 v u=true:=by
 unfold OV at h
 split at h
 ·obtain ⟨C,z⟩:=Ap h
  simp only [oI]at z
  rw [q.int,j.int,Df.1 C,QG.1 z]
  simp [Instr.sameBits]
 ·simp only [oI]at h
  obtain ⟨s,rfl,B⟩:=q.str
  obtain ⟨H,rfl,A⟩:=j.str
  have:s=H:=JX (by rw [B,A];exact Dt.1 h)
  subst this
  simp only [Instr.sameBits]
  rw [beq_toListBytes];simp
 ·simp only [oI,beq_eq,beq_iff_eq]at h
  subst h
  rw [q.bool,j.bool]
  simp [Instr.sameBits]
 ·cases h
theorem LL {kk:LK} {d:TypeDesc} (R:kk.fits d) {k v:Ab} {C P:Value} {j:Nat} (A:Ah ρ μ k C) (I:k.single=true) (H:Ah ρ μ v P):∀{M q:List Entry} {new:Bool} {ms:List MapEntry} (n:Nat),BN ρ μ M ms->Ae0 kk k v j M=some (q,new)->
  (new=true/\Instr.findNow d C ms n=some none/\BN ρ μ q (ms++[{key:=C,val:=P,born:=j}]))∨
  (new=false/\∃i O m,Instr.findNow d C ms n=some (some (n+i,O))/\ms[i]?=some m/\Instr.sameBits 10000 m.key C=true/\BN ρ μ q (ms.modify i fun e=>{e with key:=C,val:=P}))
 |[],q,new,ms,n,he,h=>by
  simp only [BN]at he
  subst he
  have h:some ([⟨k,v,j⟩],true)=some (q,new):=h
  simp only [oI,Prod.mk.injEq]at h
  obtain ⟨rfl,rfl⟩:=h
  left
  refine ⟨rfl,rfl,?_⟩
  simp only [BN,List.nil_append]
  exact ⟨_,_,rfl,⟨I,A,H,rfl⟩,rfl⟩
 |e::M,q,new,ms,n,he,h=>by
  simp only [BN]at he
  obtain ⟨m,rest,rfl,⟨hs,x,L,z⟩,B⟩:=he
  have h:(A6 (OV kk k e.key) fun b=>bif b then some (⟨k,v,e.born⟩::M,false)else A6 (Ae0 kk k v j M) fun r=>some (e::r.1,r.2))=some (q,new):=h
  obtain ⟨b,hb,N⟩:=Ac h
  have J:=NU R A x hb
  cases b with
  |true=>
   simp only [cond_true,oI,Prod.mk.injEq]at N
   obtain ⟨rfl,rfl⟩:=N
   right
   refine ⟨rfl,0,m.val,m,by simp [Instr.findNow,J],rfl,?_,?_⟩
   ·exact Jl A x hb
   ·simp only [List.modify_zero_cons,BN]
    exact ⟨_,_,rfl,⟨I,A,H,z⟩,B⟩
  |false=>
   simp only [cond_false]at N
   obtain ⟨r,U,Q⟩:=Ac N
   simp only [oI,Prod.mk.injEq]at Q
   obtain ⟨rfl,rfl⟩:=Q
   rcases LL R A I H (n+1) B U with ⟨e1,e2,e3⟩|⟨e1,i,O,m',e2,e3,e4,e5⟩
   ·left
    refine ⟨e1,by simp [Instr.findNow,J,e2],?_⟩
    simp only [List.cons_append,BN]
    exact ⟨_,_,rfl,⟨hs,x,L,z⟩,e3⟩
   ·right
    refine ⟨e1,i+1,O,m',by simp [Instr.findNow,J,e2];omega,by simpa using e3,e4,?_⟩
    simp only [List.modify_succ_cons,BN]
    exact ⟨_,_,rfl,⟨hs,x,L,z⟩,e5⟩
end
end
section
section
variable {ρ:Env} {μ:As} {AQ:Nat->Option Obj} {a b:Array Value}
theorem AG.congr:∀{ps:List PV} {δ j:Nat},(∀i,i<ps.length->b[j+i]?=a[δ+i]?)->AG AQ a δ ps->AG AQ b j ps
 |[],_,_,_,_=>by simp only [AG]
 |p::ps,δ,j,h,e=>by
  simp only [AG]at e⊢
  obtain ⟨⟨u,v,x⟩,q⟩:=e
  refine ⟨⟨u,?_,x⟩,AG.congr (δ:=δ+1) (fun i z=>?_) q⟩
  ·have:=h 0 (by simp)
   simpa [v]using this
  ·have:=h (i+1) (by simp;omega)
   rw [show j+1+i=j+(i+1) by omega,this,show δ+1+i=δ+(i+1) by omega]
theorem AG.values:∀{ps:List PV} {δ:Nat},AG AQ a δ ps->∃l:List Value,l.length=ps.length/\(∀j v,l[j]?=some v->a[δ+j]?=some v)/\∀j,j<ps.length->a[δ+j]?=l[j]?
 |[],δ,_=>⟨[],rfl,fun j v h=>by simp at h,fun j h=>by simp at h⟩
 |p::ps,δ,e=>by
  simp only [AG]at e
  obtain ⟨⟨u,q,C⟩,x⟩:=e
  obtain ⟨l,B,z,A⟩:=AG.values x
  refine ⟨u::l,by simp [B],fun j v h=>?_,fun j h=>?_⟩
  ·cases j with
   |zero=>simp only [List.getElem?_cons_zero,oI]at h;subst h;exact q
   |succ j=>rw [show δ+(j+1)=δ+1+j by omega];exact z j v (by simpa using h)
  ·cases j with
   |zero=>simpa using q
   |succ j=>
    rw [show δ+(j+1)=δ+1+j by omega,A j (by simp at h;omega)]
    simp
theorem Ah.freeze {x:Ab} {p:PV} {v:Value} (hd:V4 ρ (loose x) p) (h:Ah ρ μ x v):Ij μ.AQ p v:=by
 cases x<;>simp only [loose,V4,L0]at hd
 case nilSlice=>
  obtain ⟨j,rfl⟩:=hd
  have e:v=.slice none 0 0:=by simpa only [Ah]using h
  simp only [Ij]
  exact ⟨0,Nat.le_refl _,.inl ⟨trivial,none,e⟩⟩
 case bool|int|nilPtr=>subst hd;simp only [Ij];simpa only [Ah]using h
 case str=>subst hd;simp only [Ij];exact h.str
 case svar=>subst hd;simp only [Ij];exact h.svar
 case lst f i j n=>
  obtain ⟨_,rfl,_⟩:=hd
  exact h.lst.1
theorem Aw.freeze:∀{j:List Ab} {vs:List Value} {ps:List PV} {δ:Nat},C8 ρ (CF j) ps->Aw ρ μ j vs->(∀i v,vs[i]?=some v->a[δ+i]?=some v)->AG μ.AQ a δ ps
 |[],vs,ps,δ,hd,h,ha=>by
  have hd:ps=[]:=hd
  subst hd
  simp only [AG]
 |x::j,vs,ps,δ,hd,h,ha=>by
  have hd:∃p rest,ps=p::rest/\V4 ρ (loose x) p/\C8 ρ (CF j) rest:=hd
  obtain ⟨p,rest,rfl,B,C⟩:=hd
  simp only [Aw]at h
  obtain ⟨v,H,rfl,⟨_,A⟩,z⟩:=h
  simp only [AG]
  refine ⟨⟨v,by simpa using ha 0 v rfl,A.freeze B⟩,Aw.freeze C z fun i u q=>?_⟩
  rw [show δ+1+i=δ+(i+1) by omega]
  exact ha (i+1) u (by simpa using q)
theorem C8.length:∀{j:List Ab} {ps:List PV},C8 ρ j ps->j.length=ps.length
 |[],ps,h=>by have h:ps=[]:=h;subst h;rfl
 |x::j,ps,h=>by
  have h:∃p rest,ps=p::rest/\V4 ρ x p/\C8 ρ j rest:=h
  obtain ⟨p,rest,rfl,_,q⟩:=h
  simp [C8.length q]
theorem C8.append:∀{v q:List Ab} {ps j:List PV},C8 ρ v ps->C8 ρ q j->C8 ρ (v++q) (ps++j)
 |[],q,ps,j,h,h'=>by have h:ps=[]:=h;subst h;exact h'
 |x::v,q,ps,j,h,h'=>by
  have h:∃p rest,ps=p::rest/\V4 ρ x p/\C8 ρ v rest:=h
  obtain ⟨p,rest,rfl,A,z⟩:=h
  exact ⟨p,rest++j,rfl,A,C8.append z h'⟩
theorem DT.flat:∀{j:List (List Ab)} {ps:List (List PV)},DT ρ j ps->C8 ρ j.flatten ps.flatten/\j.length=ps.length/\∀n,(∀x∈j,x.length=n)->∀p∈ps,p.length=n
 |[],ps,h=>by have h:ps=[]:=h;subst h;exact ⟨rfl,rfl,fun _ _ _ H=>by cases H⟩
 |x::j,ps,h=>by
  have h:∃p rest,ps=p::rest/\C8 ρ x p/\DT ρ j rest:=h
  obtain ⟨p,rest,rfl,z,J⟩:=h
  obtain ⟨k1,C,B⟩:=DT.flat J
  refine ⟨?_,by simp [C],fun n A q v=>?_⟩
  ·rw [List.flatten_cons,List.flatten_cons];exact z.append k1
  ·rcases List.mem_cons.1 v with rfl|v
   ·rw [<-z.length];exact A x List.mem_cons_self
   ·exact B n (fun y I=>A y (List.mem_cons_of_mem _ I)) q v
theorem F4:∀{l:List Ab},(CF l).length=l.length
 |[]=>rfl
 |v::r=>by show (CF r).length+1=_;rw [F4];rfl
theorem Tf (size:Nat) (cs:List Ab):HD size 0 cs=match cs with|[]=>some []|_::_=>none:=by cases cs<;>rfl
theorem Tg (size n:Nat) (cs:List Ab):HD size (n+1) cs=A6 (taken size cs) fun c=>A6 (HD size n (dropped size cs)) fun r=>some (c::r):=rfl
theorem DA {size:Nat}:∀{n:Nat} {cs:List Ab} {j:List (List Ab)},HD size n cs=some j->j.flatten=cs/\j.length=n/\∀x∈j,x.length=size
 |0,cs,j,h=>by
  rw [Tf]at h
  split at h
  ·simp only [oI]at h;subst h;exact ⟨rfl,rfl,fun _ h=>by cases h⟩
  ·cases h
 |n+1,cs,j,h=>by
  rw [Tg]at h
  obtain ⟨c,hc,h⟩:=Ac h
  obtain ⟨r,A,h⟩:=Ac h
  simp only [oI]at h
  subst h
  obtain ⟨k1,B,z⟩:=DA A
  obtain ⟨v,C⟩:=FY hc
  refine ⟨?_,by simp [B],fun x q=>?_⟩
  ·rw [List.flatten_cons,k1,v,IN];exact List.take_append_drop _ _
  ·rcases List.mem_cons.1 q with rfl|q
   ·rw [v,lT'];omega
   ·exact z x q
theorem J8 (Γ:Ao) (i j k:Nat):J9 Γ i j 0 k=some []:=rfl
theorem QU (Γ:Ao) (i j n k:Nat):J9 Γ i j (n+1) k=A6 (OQ i (.lit (.ofNat k)) Γ.elems) fun cs=>bif Nat.beq (Br cs) j then A6 (J9 Γ i j n (k+1)) fun r=>some (cs++r)else none:=rfl
theorem J7 {Γ:Ao} (hΓ:Γ.AB ρ) {i A:Nat} {l:List (List PV)} (hl:ρ.lst i=l) {δ:Nat} (C:BF μ.AQ A a δ l):∀{n k:Nat} {cs:List Ab},J9 Γ i A n k=some cs->k+n<=l.length->
  cs.length=n*A/\∀j x,cs[j]?=some x->∃v,a[δ+k*A+j]?=some v/\x.single=true/\Ah ρ μ x v
 |0,k,cs,h,hk=>by
  rw [J8]at h
  simp only [oI]at h
  subst h
  exact ⟨by simp,fun j x h=>by simp at h⟩
 |n+1,k,cs,h,hk=>by
  rw [QU]at h
  obtain ⟨c,hc,h⟩:=Ac h
  obtain ⟨q,h⟩:=Ap h
  obtain ⟨r,H,h⟩:=Ac h
  simp only [oI]at h
  subst h
  have q:=An.1 q
  rw [Jz]at q
  obtain ⟨k1,M⟩:=J7 hΓ hl C H (by omega)
  obtain ⟨ps,_,B,J⟩:=hΓ.elems _ (HX hc)
  have B:(ρ.lst i)[k]?=some ps:=B
  rw [hl]at B
  obtain ⟨O,N⟩:=C.get k ps B
  obtain ⟨t1,L⟩:=AG.T2 J N
  refine ⟨by rw [lA,k1,q,Nat.add_mul];omega,fun j x z=>?_⟩
  by_cases hj:j<c.length
  ·rw [List.getElem?_append_left hj]at z
   exact L j x z
  ·rw [List.getElem?_append_right (by omega)]at z
   obtain ⟨v,I,hs⟩:=M _ x z
   refine ⟨v,?_,hs⟩
   rw [<-I,q]
   congr 1
   rw [Nat.add_mul];rw [q]at hj;omega
theorem O1:∀(l:List Ab),taken l.length l=some l
 |[]=>rfl
 |x::l=>by show (A6 (taken l.length l) fun r=>some (x::r))=_;rw [O1 l];rfl
theorem WG (l:List Ab):cut l 0 l.length=some l:=O1 l
end
section
variable {P:Program} {ρ:Env} {μ:As} {w:World} {h:Al}
theorem OM (H:AD ρ μ h w) {f:Bool} {i B size n:Nat} {t:ST} {u:Value} {cs:List Ab} (M:Ah ρ μ (.lst f i B t) u) (hs:Afp h.fx size i B t=some (n,cs)):
  cs.length=n*size/\((n=0/\cs=[]/\∃p c,u=.slice p 0 c)∨∃r δ c a e fr,u=.slice (some ⟨r,δ,none⟩) n c/\w.heap[r]?=some (.cells a e fr)/\∀j x,cs[j]?=some x->∃v,a[δ+j]?=some v/\x.single=true/\Ah ρ μ x v):=by
 unfold Afp at hs
 split at hs
 ·rename_i m
  obtain ⟨hc,hs⟩:=Ap hs
  obtain ⟨O,hg,hs⟩:=Ac hs
  simp only [oI,Prod.mk.injEq]at hs
  obtain ⟨rfl,rfl⟩:=hs
  have hc:=An.1 hc
  subst hc
  obtain ⟨p,c,A,_,z,L⟩:=M.D7
  have z:(m:Int)=((ρ.lst i).length:Int):=z
  have q:(ρ.lst i).length=m:=by omega
  by_cases h0:m=0
  ·subst h0
   rw [J8]at hg
   simp only [oI]at hg
   subst hg
   exact ⟨by simp,.inl ⟨rfl,rfl,p,c,by rw [A,q]⟩⟩
  ·obtain ⟨r,δ,a,e,rfl,k1,I⟩:=L (by omega)
   obtain ⟨C,J⟩:=J7 H.AJ.facts rfl I hg (by omega)
   obtain ⟨fr,k1⟩:=k1
   refine ⟨C,.inr ⟨r,δ,c,a,e,fr,by rw [A,q],(H.AJ.AQ _ _ k1).1,fun j x N=>?_⟩⟩
   have:=J j x N
   simpa using this
 ·cases hs
theorem JL {Γ:Al} {size n:Nat} {part:AE} {new:List Ab} {r:ST×Block} (hΓ:Γ.fx.AB ρ) (q:Ie Γ size part n new=some r):
  ∃(j:Nat) (A B:List (List PV)),r.2=.list j size/\r.1.den ρ=((ρ.lst j).length:Int)/\(ρ.lst j).length<=1048576/\ρ.lst j=A++B/\Ft ρ part A/\B.length=n/\(∀p∈B,p.length=size)/\C8 ρ (CF new) B.flatten:=by
 unfold Ie at q
 obtain ⟨_,q⟩:=Ap q
 obtain ⟨X,z,q⟩:=Ac q
 obtain ⟨j,P,q⟩:=Ac q
 obtain ⟨t,Q,q⟩:=Ac q
 obtain ⟨hb,q⟩:=Ap q
 simp only [oI]at q
 subst q
 obtain ⟨N,V,O⟩:=DA z
 obtain ⟨A,M,I,R,B,C,x,L,v⟩:=hΓ.defs _ (EJ P)
 have v:C=[]:=v
 subst v
 rw [List.append_nil]at x
 subst x
 obtain ⟨H,U,J⟩:=DT.flat L
 have hl:=hΓ.Br _ (Cw Q)
 have hl:t.den ρ=((ρ.lst j).length:Int):=hl
 have hb:=ER hΓ hb
 have hb:t.den ρ<=1048576:=hb
 exact ⟨j,A,M,rfl,hl,by omega,I,R,by omega,J size O,by rw [N]at H;exact H⟩
theorem Sw {a b:Option (Ab×Al)} {r:Ab×Al} (h:orR a b=some r):a=some r∨b=some r:=by
 cases a with
 |none=>exact .inr h
 |some x=>exact .inl h
theorem Bv.two {p:List AE} {q:AE}:∀{l:List (List PV)},Bv ρ (p++[q]) l->∃x y,l=x++y/\Bv ρ p x/\Ft ρ q y:=by
 induction p with
 |nil=>
  intro l h
  obtain ⟨x,y,rfl,v,j⟩:=h
  have j:y=[]:=j
  subst j
  exact ⟨[],x,by simp,rfl,v⟩
 |cons z p ih=>
  intro l h
  obtain ⟨x,y,rfl,v,j⟩:=h
  obtain ⟨A,B,rfl,C,H⟩:=ih j
  exact ⟨x++A,B,(List.append_assoc _ _ _).symm,⟨x,A,rfl,v,C⟩,H⟩
theorem JM {h:Al} {size n:Nat} {x:Ab} {new:List Ab} {r:Ab×Al} (hΓ:h.fx.AB ρ) (q:LB h size x n new=some r):
  ∃(p:List AE) (j:Nat) (t:ST) (A B:List (List PV)),Pw h size x=some p/\r=(.vec h.next size t,h.add (.list j size))/\t.den ρ=((ρ.lst j).length:Int)/\(ρ.lst j).length<=1048576/\ρ.lst j=A++B/\Bv ρ p A/\B.length=n/\(∀p∈B,p.length=size)/\C8 ρ (CF new) B.flatten:=by
 unfold LB at q
 obtain ⟨_,q⟩:=Ap q
 obtain ⟨p,N,q⟩:=Ac q
 obtain ⟨U,v,q⟩:=Ac q
 obtain ⟨j,M,q⟩:=Ac q
 obtain ⟨t,O,q⟩:=Ac q
 obtain ⟨hb,q⟩:=Ap q
 simp only [oI]at q
 subst q
 obtain ⟨J,R,L⟩:=DA v
 obtain ⟨A,B,C,P,I⟩:=Bv.two (hΓ.defs _ (OD M))
 obtain ⟨z,Q,H⟩:=DT.flat I
 have hl:t.den ρ=((ρ.lst j).length:Int):=hΓ.Br _ (Cw O)
 have hb:t.den ρ<=1048576:=ER hΓ hb
 exact ⟨p,j,t,A,B,N,rfl,hl,by omega,C,P,by omega,H size L,by rw [J]at z;exact z⟩
end
end
section
section
variable {P:Program} {Γ:Ao} {ρ:Env} {μ:As} {tm:Tr Ab} {a:Act} {w:World} {h:Al}
theorem Gc {r:Nat} {ms:Array MapEntry} {k:Nat} (j:w.heap[r]?=some (.map ms k)) (o:Obj):(setObj r o).run P w=.ok () {w with heap:=w.heap.setIfInBounds r o}:=by
 simp [setObj,Sem.run,j]
theorem LJ {AQ:Nat->Option Obj} {b:ByteArray} {x:Array Value} {ps:List PV} (hs:x.size=ps.length) (J:AG AQ x 0 ps):∀{l:List (List Nat×List PV)} {ms:List MapEntry} (n:Nat),IV AQ l ms->
  (Instr.findNow .string (.string b) ms n=some none/\∀born,IV AQ (Bw l (strOf b) ps) (ms++[{key:=.string b,val:=.agg x,born:=born}]))∨
  (∃i L m,Instr.findNow .string (.string b) ms n=some (some (n+i,L))/\ms[i]?=some m/\Instr.sameBits 10000 m.key (.string b)=true/\IV AQ (Bw l (strOf b) ps) (ms.modify i fun e=>{e with key:=.string b,val:=.agg x}))
 |[],ms,n,A=>by
  have A:ms=[]:=A
  subst A
  exact .inl ⟨rfl,fun born=>⟨_,_,rfl,⟨b,rfl,rfl⟩,⟨x,rfl,hs,J⟩,rfl⟩⟩
 |e::es,ms,n,A=>by
  obtain ⟨m,rest,rfl,⟨B,v,q⟩,⟨y,M,I,C⟩,j⟩:=A
  have z:Instr.sameNow .string (.string b) m.key=some (decide (strOf b=e.1)):=by
   rw [v,<-q]
   have:decide (strOf b=strOf B)=(b.toList==B.toList):=by rw [<-CA,Bool.eq_iff_iff,Dt];simp
   rw [this,<-beq_toListBytes]
   simp [Instr.sameNow]
  by_cases hc:e.1=strOf b
  ·right
   refine ⟨0,m.val,m,by simp [Instr.findNow,z,hc],rfl,?_,?_⟩
   ·rw [v]
    have:B=b:=JX (by rw [q,hc])
    subst this
    simp only [Instr.sameBits]
    rw [beq_toListBytes];simp
   ·simp only [List.modify_zero_cons,Bw,hc,if_true]
    exact ⟨_,_,rfl,⟨b,rfl,rfl⟩,⟨x,rfl,hs,J⟩,j⟩
  ·have H:¬strOf b=e.1:=fun h=>hc h.symm
   rcases LJ (b:=b) hs J (n+1) j with ⟨h3,h4⟩|⟨i,L,m',h3,h4,h5,h6⟩
   ·left
    refine ⟨by simp [Instr.findNow,z,H,h3],fun born=>?_⟩
    simp only [Bw,if_neg hc,List.cons_append]
    exact ⟨_,_,rfl,⟨B,v,q⟩,⟨y,M,I,C⟩,h4 born⟩
   ·right
    refine ⟨i+1,L,m',by simp [Instr.findNow,z,H,h3];omega,by simpa using h4,h5,?_⟩
    simp only [List.modify_succ_cons,Bw,if_neg hc]
    exact ⟨_,_,rfl,⟨B,v,q⟩,⟨y,M,I,C⟩,h6⟩
theorem Nt {o:Oper} {t kt e:TypeId} {m k x:Operand} {kk:LK} (M:o.op=.mapUpdate t m k x∨o.op=.insert t m k x) (H:AD ρ μ h w) (hT:AP ρ μ tm a) (hu:P.underlying t=some (.map kt e)) (hk:X6 P kt=some kk) {h':Al}
  (hs:Ux h kk (ev tm (A8 m)) (ev tm (A8 k)) (ev tm (A8 x))=some h'):Ez P ρ μ h a o w (.val .any h'):=by
 have hm:=Au hT m
 have an:=Au hT k
 have hx:=Au hT x
 obtain ⟨d,hd,hf⟩:=OU hk
 unfold Ux at hs
 split at hs
 ·rename_i b e1
  unfold AaZ at hs
  split at hs
  ·rename_i i U
   obtain ⟨av,R⟩:=Ap hs
   clear hs
   obtain ⟨rfl,s,ao⟩:=KO (ρ:=ρ) av
   have hf:d=.string:=hf
   subst hf
   obtain ⟨kb,ek,rfl⟩:=BH ao an
   unfold AaY at R
   split at R
   ·rename_i cs aA
    obtain ⟨_,Q⟩:=Ap R
    obtain ⟨j,hj,Q⟩:=Ac Q
    simp only [oI]at Q
    subst Q
    obtain ⟨s',ps,Y,q2,q3⟩:=H.AJ.facts.Ls _ (ON hj)
    have Y:DV ρ (ev tm (A8 k))=some s':=Y
    rw [ao]at Y
    simp only [oI]at Y
    subst Y
    have q2:C8 ρ (CF cs) ps:=q2
    have q3:ρ.map j=Bw (ρ.map i) (strOf kb) ps:=q3
    rw [aA]at hx
    obtain ⟨xa,ex,al⟩:=hx.agg
    have az:xa.size=ps.length:=by
     have h1:=al.length
     have h2:=q2.length
     rw [F4]at h2
     simp at h1
     omega
    have aC:AG μ.AQ xa 0 ps:=Aw.freeze q2 al fun i v hv=>by simpa using hv
    rw [e1]at hm
    obtain ⟨g,hg,X⟩:=hm.NX
    obtain ⟨g',ms,N,C,z,he⟩:=H.smap (Em U)
    rw [hg]at C
    simp only [oI,Prod.mk.injEq]at C
    obtain ⟨rfl,_⟩:=C
    have J:(getObj g).run P w=.ok (.map ms N) w:=by simp [getObj,Sem.run,z]
    have L:(Instr.checkKey false 10000 kt (a.eval k)).run P w=.ok () w:=Gv hd (kk:=.str) rfl false 9999 _
    have aa:g<w.heap.size:=(Array.getElem?_eq_some_iff.1 z).1
    have I:∀(B:Array MapEntry) (cl:Nat),IV μ.AQ (ρ.map j) B.toList->Av ρ μ h w μ (h.set b (some (.smap j))) {w with heap:=w.heap.setIfInBounds g (.map B cl)}:=fun B cl Z=>by
     refine Av.change H (Em U) hg (.smap j) (fun i U=>?_) (by simp) rfl rfl ?_
     ·show (w.heap.setIfInBounds g _)[i]?=_
      rw [Array.getElem?_setIfInBounds_ne (Ne.symm U)]
     ·refine ⟨rfl,B,cl,?_,Z⟩
      show (w.heap.setIfInBounds g _)[g]?=_
      rw [Array.getElem?_setIfInBounds_self_of_lt aa]
    have run:∀(O:World),(Instr.mapUpdate t (a.eval m) (a.eval k) (a.eval x)).run P w=.ok () O->(execOp a.eval o).run P w=.ok .skip O:=fun O q=>by
     rcases M with M|M<;>simp [execOp,M,q]
    rcases LJ (b:=kb) az aC 0 he with ⟨e4,e5⟩|⟨i',v0,m',e4,e5,e6,e7⟩
    ·rw [<-ek]at e4
     have A:=run_findKey (P:=P) (w:=w) hd e4
     have q:(Instr.mapUpdate t (a.eval m) (a.eval k) (a.eval x)).run P w=.ok () {w with heap:=w.heap.setIfInBounds g (.map (ms.push {key:=a.eval k,val:=a.eval x,born:=N}) (N+1))}:=by
      simp only [Instr.mapUpdate,Sem.run_bind,run_underlying hu,Result.andThen_ok,X,J,L,A]
      exact Gc z _
     refine ⟨.skip,undef,_,μ,run _ q,.inr ⟨rfl,rfl⟩,?_,trivial⟩
     exact I _ _ (by rw [q3,ek,ex];simpa using e5 N)
    ·rw [<-ek]at e4
     have A:=run_findKey (P:=P) (w:=w) hd e4
     rw [Nat.zero_add]at A
     have V:ms[i']?=some m':=by simpa using e5
     have ab:(Instr.keyThatStays (((ms[i']?).map (·.key)).getD (a.eval k)) (a.eval k)).run P w=.ok (a.eval k) w:=by
      rw [V]
      simp only [Option.map_some,Option.getD_some,Instr.keyThatStays]
      rw [if_pos (by rw [ek];exact e6)]
      rfl
     have q:(Instr.mapUpdate t (a.eval m) (a.eval k) (a.eval x)).run P w=.ok () {w with heap:=w.heap.setIfInBounds g (.map (ms.modify i' fun e=>{e with key:=a.eval k,val:=a.eval x}) N)}:=by
      simp only [Instr.mapUpdate,Sem.run_bind,run_underlying hu,Result.andThen_ok,X,J,L,A,ab]
      exact Gc z _
     refine ⟨.skip,undef,_,μ,run _ q,.inr ⟨rfl,rfl⟩,?_,trivial⟩
     exact I _ _ (by rw [q3,ek,ex];simpa using e7)
   ·cases R
  rename_i aL
  obtain ⟨mm,ak,hs⟩:=Ac hs
  obtain ⟨ah,hs⟩:=Ap hs
  obtain ⟨r,hr,hs⟩:=Ac hs
  simp only [oI]at hs
  subst hs
  rw [e1]at hm
  obtain ⟨g,hg,X⟩:=hm.NX
  obtain ⟨g',ms,C,z,he⟩:=H.map (Dw ak)
  rw [hg]at C
  simp only [oI,Prod.mk.injEq]at C
  obtain ⟨rfl,_⟩:=C
  have J:(getObj g).run P w=.ok (.map ms mm.2) w:=by simp [getObj,Sem.run,z]
  have L:(Instr.checkKey false 10000 kt (a.eval k)).run P w=.ok () w:=Gv hd hf false 9999 _
  have aa:g<w.heap.size:=(Array.getElem?_eq_some_iff.1 z).1
  have I:∀(B:Array MapEntry) (cl:Nat),BN ρ μ r.1 B.toList->Av ρ μ h w μ (h.set b (some (.map r.1 cl))) {w with heap:=w.heap.setIfInBounds g (.map B cl)}:=fun B cl Z=>by
   refine Av.change H (Dw ak) hg (.map r.1 cl) (fun i U=>?_) (by simp) rfl rfl ?_
   ·show (w.heap.setIfInBounds g _)[i]?=_
    rw [Array.getElem?_setIfInBounds_ne (Ne.symm U)]
   ·refine ⟨rfl,B,?_,Z⟩
    show (w.heap.setIfInBounds g _)[g]?=_
    rw [Array.getElem?_setIfInBounds_self_of_lt aa]
  have run:∀(O:World),(Instr.mapUpdate t (a.eval m) (a.eval k) (a.eval x)).run P w=.ok () O->(execOp a.eval o).run P w=.ok .skip O:=fun O q=>by
   rcases M with M|M<;>simp [execOp,M,q]
  rcases LL hf an ah hx 0 he hr with ⟨e3,e4,e5⟩|⟨e3,i,v0,m',e4,e5,e6,e7⟩
  ·have A:=run_findKey (P:=P) (w:=w) hd e4
   have q:(Instr.mapUpdate t (a.eval m) (a.eval k) (a.eval x)).run P w=.ok () {w with heap:=w.heap.setIfInBounds g (.map (ms.push {key:=a.eval k,val:=a.eval x,born:=mm.2}) (mm.2+1))}:=by
    simp only [Instr.mapUpdate,Sem.run_bind,run_underlying hu,Result.andThen_ok,X,J,L,A]
    exact Gc z _
   refine ⟨.skip,undef,_,μ,run _ q,.inr ⟨rfl,rfl⟩,?_,trivial⟩
   rw [e3]
   exact I _ _ (by simpa using e5)
  ·have A:=run_findKey (P:=P) (w:=w) hd e4
   rw [Nat.zero_add]at A
   have V:ms[i]?=some m':=by simpa using e5
   have ab:(Instr.keyThatStays (((ms[i]?).map (·.key)).getD (a.eval k)) (a.eval k)).run P w=.ok (a.eval k) w:=by
    rw [V]
    simp only [Option.map_some,Option.getD_some,Instr.keyThatStays]
    rw [if_pos e6]
    rfl
   have q:(Instr.mapUpdate t (a.eval m) (a.eval k) (a.eval x)).run P w=.ok () {w with heap:=w.heap.setIfInBounds g (.map (ms.modify i fun e=>{e with key:=a.eval k,val:=a.eval x}) mm.2)}:=by
    simp only [Instr.mapUpdate,Sem.run_bind,run_underlying hu,Result.andThen_ok,X,J,L,A,ab]
    exact Gc z _
   refine ⟨.skip,undef,_,μ,run _ q,.inr ⟨rfl,rfl⟩,?_,trivial⟩
   rw [e3]
   exact I _ _ (by simpa using e7)
 ·cases hs
theorem F7 (l:List UInt8):Aw ρ μ (byteCells (l.map (·.toNat))) (l.map fun b=>.int .u8 (b.toNat:Int)):=by
 induction l with
 |nil=>show Aw ρ μ [] [];simp only [Aw]
 |cons b l ih=>
  show Aw ρ μ (.int .u8 (.lit (.ofNat b.toNat))::byteCells (l.map (·.toNat))) _
  simp only [Aw,List.map_cons]
  exact ⟨_,_,rfl,⟨rfl,by simp only [Ah,ST.den];rfl⟩,ih⟩
theorem Da (H:AD ρ μ h w) {size n:Nat} {bytes:Bool} {x:Ab} {u:Value} {cs:List Ab} (J:Ah ρ μ x u) (hs:Jh h size bytes x=some (n,cs)):
  (Builtin.lenOf u).run P w=.ok n w/\cs.length=n*size/\∃L:Array Value,(Builtin.firstCells size n u).run P w=.ok L w/\Aw ρ μ cs L.toList:=by
 have key:∀(b z len r δ m c:Nat),LV h size b z len=some (n,cs)->μ b=some (r,δ,m)->u=.slice (some ⟨r,δ+z,none⟩) len c->
   (Builtin.lenOf u).run P w=.ok n w/\cs.length=n*size/\∃L:Array Value,(Builtin.firstCells size n u).run P w=.ok L w/\Aw ρ μ cs L.toList:=fun b z len r δ m c hs C e=>by
  subst e
  unfold LV at hs
  rw [AA]at hs
  by_cases h0:len=0
  ·rw [if_pos h0]at hs
   simp only [oI,Prod.mk.injEq]at hs
   obtain ⟨rfl,rfl⟩:=hs
   subst h0
   exact ⟨by simp [Builtin.lenOf],by simp,#[],by simp [Builtin.firstCells,loadCells,loadCellsFrom],by simp only [Aw]⟩
  ·rw [if_neg h0]at hs
   obtain ⟨vs,V,hs⟩:=Ac hs
   obtain ⟨X,Q,hs⟩:=Ac hs
   simp only [oI,Prod.mk.injEq]at hs
   obtain ⟨rfl,rfl⟩:=hs
   obtain ⟨r2,Z,m2,Y,e2,N,U,_,hc⟩:=H.cells V
   rw [C]at N
   simp only [oI,Prod.mk.injEq]at N
   obtain ⟨rfl,rfl,rfl⟩:=N
   obtain ⟨l,B,I,M⟩:=D9 hc Q
   have q:=run_loadCells_list (P:=P) (w:=w) ⟨r,δ+z,none⟩ l (fun j v R=>by rw [Addr.AW,Cj U];exact M j v R)
   rw [B]at q
   exact ⟨by simp [Builtin.lenOf],(JI Q).1,l.toArray,by simp [Builtin.firstCells,q],by simpa using I⟩
 unfold Jh at hs
 split at hs
 ·obtain ⟨k1,⟨rfl,rfl,p,c,rfl⟩|⟨r,δ,c,ar,e,_,rfl,U,hc⟩⟩:=OM H J hs
  ·cases p
   ·exact ⟨by simp [Builtin.lenOf],by simp,#[],by simp [Builtin.firstCells],by simp only [Aw]⟩
   ·exact ⟨by simp [Builtin.lenOf],by simp,#[],by simp [Builtin.firstCells,loadCells,loadCellsFrom],by simp only [Aw]⟩
  ·obtain ⟨l,B,I,M⟩:=D9 hc (WG cs)
   have q:=run_loadCells_list (P:=P) (w:=w) ⟨r,δ,none⟩ l (fun j v R=>by rw [Addr.AW,Cj U];simpa using M j v R)
   rw [B,k1]at q
   exact ⟨by simp [Builtin.lenOf],k1,l.toArray,by simp [Builtin.firstCells,q],by simpa using I⟩
 ·simp only [oI,Prod.mk.injEq]at hs
  obtain ⟨rfl,rfl⟩:=hs
  have e:u=.slice none 0 0:=by simpa only [Ah]using J
  subst e
  exact ⟨by simp [Builtin.lenOf],by simp,#[],by simp [Builtin.firstCells],by simp only [Aw]⟩
 ·obtain ⟨r,δ,m,C,e,_⟩:=J.slice
  exact key _ _ _ _ _ _ _ hs C e
 ·obtain ⟨r,δ,m,c,C,e,_⟩:=J.gslice
  exact key _ _ _ _ _ _ _ hs C e
 ·rename_i s
  obtain ⟨A,O⟩:=Ap hs
  clear hs
  have A:=An.1 A
  subst A
  simp only [oI,Prod.mk.injEq]at O
  obtain ⟨rfl,rfl⟩:=O
  obtain ⟨b,rfl,rfl⟩:=J.str
  refine ⟨by simp [Builtin.lenOf,Db,B6],?_,(b.data.map fun c=>.int .u8 c.toNat),?_,?_⟩
  ·have:=(F7 (ρ:=ρ) (μ:=μ) b.data.toList).length
   unfold strOf
   rw [this,Db];simp
  ·have:b.extract 0 (Ii (strOf b))=b:=by
    rw [Db,B6]
    obtain ⟨⟨l⟩⟩:=b
    have:=ByteArray.extract_mk l 0 l.length
    rw [show (⟨⟨l⟩⟩:ByteArray)=ByteArray.mk l.toArray from rfl]
    rw [show (ByteArray.mk l.toArray).size=l.length from by simp [ByteArray.size],this]
    simp
   simp [Builtin.firstCells,this]
  ·simpa [strOf]using F7 (ρ:=ρ) (μ:=μ) b.data.toList
 ·cases hs
def E2 (d:TypeDesc):Prop:=(∃e,d=.slice e)∨d=.string
theorem Cn {t u ty e:TypeId} {d:TypeDesc} (I:P.underlying t=some (.slice e)) (B:P.underlying u=some d) (hd:E2 d) {size n q v:Nat} {x:Value} {L:Array Value} {w':World} {j:Option Addr}
  (hs:(sizeOf e).run P w=.ok size w) (H:(Builtin.lenOf x).run P w=.ok n w) (A:q+n<=v) (C:(Builtin.firstCells size n x).run P w=.ok L w)
  (z:match j with|some p=>(storeCells (p.add (q*size)) L.toList).run P w=.ok () w'|none=>w'=w):
  (Builtin.append_ #[t,u] ty #[.slice j q v,x]).run P w=.ok (.slice j (q+n) v) w':=by
 have J:(do pure (match (<-underlying u)with|.int _=>true|_=>false):Sem Bool).run P w=.ok false w:=by
  rcases hd with ⟨e',rfl⟩|rfl<;>simp [run_underlying B]
 cases j with
 |none=>
  simp only at z
  subst z
  rcases hd with ⟨e',rfl⟩|rfl<;>simp [Builtin.append_,run_underlying I,run_underlying B,hs,H,A,C]
 |some p=>
  simp only at z
  rcases hd with ⟨e',rfl⟩|rfl<;>simp [Builtin.append_,run_underlying I,run_underlying B,hs,H,A,C,z]
theorem DI {t u ty e:TypeId} {d:TypeDesc} (X:P.underlying t=some (.slice e)) (N:P.underlying u=some d) (hd:E2 d) {i:TypeInfo} {z:Value} (U:P.info? e=some i) (V:i.zero=some z) {n j q:Nat} {x:Value} {O L:Array Value} {v:Option Addr}
  (R:(Builtin.lenOf x).run P w=.ok n w) (M:q<j+n) (J:(Builtin.firstCells i.size j (.slice v j q)).run P w.drew=.ok O w.drew) (Q:(Builtin.firstCells i.size n x).run P w.drew=.ok L w.drew)
  (hb:i.bytes<=1048576) (Y:j+n<=1048576):
  ∃A rest,j+n<=A/\rest.size=(A-(j+n))*z.cells.size/\rest=Builtin.zeroCells z.cells (A-(j+n))/\(Builtin.append_ #[t,u] ty #[.slice v j q,x]).run P w=.ok (.slice (some ⟨w.heap.size,0,none⟩) (j+n) A) (w.drew.alloc (.cells (O++L++rest) e)):=by
 have C:¬(j+n<=q):=by omega
 have H:¬(9223372036854775807<((j:Int)+(n:Int))):=by omega
 have B:=nextslicecap_le M
 have aa:Builtin.nextslicecap (j+n) q*i.bytes<=281474976710656:=by
  have:=Nat.mul_le_mul B hb
  have h2:2*(j+n)*1048576<=2*1048576*1048576:=by omega
  omega
 have I:¬(281474976710656<Builtin.nextslicecap (j+n) q*i.bytes):=by omega
 refine ⟨grownCap w (j+n) q e,Builtin.zeroCells z.cells (grownCap w (j+n) q e-(j+n)),?_,by simp [Builtin.zeroCells],rfl,?_⟩
 ·exact Nat.le_add_right _ _
 ·have Z:=J
  rcases hd with ⟨e',rfl⟩|rfl<;>
   simp [Builtin.append_,run_underlying X,run_underlying N,sizeOf,typeInfo,zeroValue,U,V,R,C,H,I,Question.forced,J,Q,newRow,grownCap]
theorem Av.drop (H:AD ρ μ h w) (b:Nat):Av ρ μ h w μ (h.set b none) w:=
 have hs:∀c B,(h.set b none).get c=some B->h.get c=some B:=fun c B hc=>by
  rw [Al.AY]at hc
  split at hc
  ·cases hc
  ·exact hc
 ⟨μ.le_refl,H.drop _ rfl rfl hs,Nat.le_refl _,fun r _ j=>⟨rfl,fun ⟨c,B,δ,hc,hm⟩=>j ⟨c,B,δ,hs c B hc,hm⟩⟩,rfl,rfl,Nat.le_refl _,fun _ _=>rfl,fun _ _ h=>.inl h,rfl⟩
theorem Av.Ws {w':World} (H:AD ρ μ h w) {b:Nat} {B0:Block} {r:Nat} {N:Nat×Nat} (hb:h.get b=some B0) (M:μ b=some (r,N)) (B:Block) (δ:Nat×Nat)
  (P:∀i,i≠r->w'.heap[i]?=w.heap[i]?) (Y:w'.heap.size=w.heap.size) (O:w'.os=w.os) (L:w'.output=w.output) (hB:∀R:As,μ.le R->C3 ρ R B w'.heap[r]? δ):
  Av ρ μ h w (μ.put h.next (r,δ)) ((h.set b none).add B) w':=by
 have C:μ.le (μ.put h.next (r,δ)):=As.QD (H.fresh _ (Nat.le_refl _))
 have A:∀c q s v,((h.set b none).add B).get c=some q->μ.put h.next (r,δ) c=some (s,v)->(c=h.next/\s=r/\q=B/\v=δ)∨(h.get c=some q/\μ c=some (s,v)/\c≠b):=fun c q s v hc j=>by
  rw [Al.J6,Al.AY]at hc
  by_cases e:c=h.next
  ·subst e
   rw [As.BC]at j
   simp only [oI,Prod.mk.injEq]at j
   rw [if_pos (Al.Jv ..).symm]at hc
   simp only [oI]at hc
   exact .inl ⟨rfl,j.1.symm,hc.symm,j.2.symm⟩
  ·rw [if_neg (by rw [Al.Jv];exact e)]at hc
   rw [As.BX _ _ e]at j
   split at hc
   ·cases hc
   ·rename_i x
    exact .inr ⟨hc,j,x⟩
 have x:∀c q s v,h.get c=some q->μ c=some (s,v)->c≠b->s≠r:=fun c q s v hc j I e=>I (H.inj _ _ _ _ _ _ _ hc hb j (e▸M))
 have z:∀s,s<w.heap.size->¬AF μ h s->w'.heap[s]?=w.heap[s]?/\¬AF (μ.put h.next (r,δ)) ((h.set b none).add B) s:=fun s hs Q=>by
  have J:s≠r:=fun e=>Q ⟨b,B0,N,hb,e▸M⟩
  refine ⟨P s J,?_⟩
  rintro ⟨c,q,v,hc,j⟩
  rcases A _ _ _ _ hc j with ⟨_,e,_,_⟩|⟨g,n,_⟩
  ·exact J e
  ·exact Q ⟨c,q,v,g,n⟩
 refine ⟨C,⟨fun c hc=>?_,fun c q hc=>?_,fun c c' B1 B2 s δ1 δ2 U V m1 m2=>?_,H.FZ z⟩,by omega,z,O,L,Nat.le_succ _,fun b hb=>As.BX _ _ (by omega),fun _ _ h=>.inl h,rfl⟩
 ·rw [Al.Jw,Al.Jv]at hc
  rw [As.BX _ _ (by omega)]
  exact H.fresh c (by omega)
 ·by_cases e:c=h.next
  ·subst e
   refine ⟨r,δ,As.BC _ _ _,?_⟩
   rcases A _ _ _ _ hc (As.BC _ _ _)with ⟨_,_,rfl,_⟩|⟨hg,j,_⟩
   ·exact hB _ C
   ·rw [H.fresh _ (Nat.le_refl _)]at j;cases j
  ·have Z:=hc
   rw [Al.J6,Al.AY,if_neg (by rw [Al.Jv];exact e)]at hc
   split at hc
   ·cases hc
   ·rename_i I
    obtain ⟨s,v,j,X⟩:=H.blk c q hc
    refine ⟨s,v,by rw [As.BX _ _ e];exact j,?_⟩
    rw [P s (x _ _ _ _ hc j I)]
    exact X.mono C
 ·rcases A _ _ _ _ U m1 with ⟨e1,e2,_,_⟩|⟨g1,n1,c1⟩<;>rcases A _ _ _ _ V m2 with ⟨e3,e4,_,_⟩|⟨g2,n2,c2⟩
  ·rw [e1,e3]
  ·exact absurd e2 (x _ _ _ _ g2 n2 c2)
  ·exact absurd e4 (x _ _ _ _ g1 n1 c1)
  ·exact H.inj _ _ _ _ _ _ _ g1 g2 n1 n2
theorem Ow {old new:List Ab} {O L rest:Array Value} {e:TypeId} {m:Nat} (C:Aw ρ μ old O.toList) (J:Aw ρ μ new L.toList) (M:m<=(O++L++rest).size) (A:As) (q:μ.le A):
  C3 ρ A (.cells (old++new)) (some (.cells (O++L++rest) e)) (0,m):=by
 refine ⟨_,e,rfl,by omega,fun i x I=>?_⟩
 have B:=Aw.append C J
 obtain ⟨v,j,hs,H⟩:=B.get I
 refine ⟨v,?_,hs,H.mono q⟩
 rw [Nat.zero_add]
 have z:=(List.getElem?_eq_some_iff.1 j).1
 rw [Array.getElem?_append_left (by simpa using z)]
 rw [<-Array.toList_append]at j
 rw [Array.getElem?_toList]at j
 exact j
theorem Ed {o:Oper} {c:Call} {t u e:TypeId} {d:TypeDesc} {x y:Operand} (ho:o.op=.call c) (b0:c.callee=.builtin .append) (bL:c.args=#[x,y]) (b1:c.argTypes=#[t,u])
  (H:AD ρ μ h w) (hT:AP ρ μ tm a) (ht:P.underlying t=some (.slice e)) (hu:P.underlying u=some d) (hd:E2 d) {i:TypeInfo} (hi:P.info? e=some i) (hb:i.bytes<=1048576) (hz:(i.zero.map fun v=>Nat.beq v.cells.size i.size).getD false=true)
  {n:Nat} {new:List Ab} (hs:∀w',w'=w∨w'=w.drew->(Builtin.lenOf (a.eval y)).run P w'=.ok n w'/\new.length=n*i.size/\∃L:Array Value,(Builtin.firstCells i.size n (a.eval y)).run P w'=.ok L w'/\Aw ρ μ new L.toList) {r:Ab×Al} (C:Gz h i.size (ev tm (A8 x)) n new=some r):Ez P ρ μ h a o w (.val r.1 r.2):=by
 have U:=Au hT x
 obtain ⟨z,hz,hzs⟩:∃z,i.zero=some z/\z.cells.size=i.size:=by
  cases e:i.zero with
  |none=>rw [e]at hz;simp at hz
  |some z=>rw [e]at hz;exact ⟨z,rfl,An.1 (by simpa using hz)⟩
 obtain ⟨aM,ba,L,hL,af⟩:=hs w (.inl rfl)
 obtain ⟨_,_,L',bW,aA⟩:=hs w.drew (.inr rfl)
 have be:(sizeOf e).run P w=.ok i.size w:=by simp [sizeOf,typeInfo,hi]
 have run:∀{v:Value} {wf:World},(Builtin.append_ #[t,u] o.type #[a.eval x,a.eval y]).run P w=.ok v wf->(execOp a.eval o).run P w=.ok (.value v) wf:=fun {v wf} aD=>by
  simp [execOp,ho,resolve,b0,bL,b1,invoke,builtin,aD]
 unfold Gz at C
 rw [AA]at C
 by_cases h0:n=0
 ·
  rw [if_pos h0]at C
  subst h0
  have aP:new=[]:=by
   have:new.length=0:=by simpa using ba
   exact List.eq_nil_of_length_eq_zero this
  subst aP
  have ce:L.toList=[]:=by simpa only [Aw]using af
  have same:∀(J:Option Addr) (len cap:Nat),a.eval x=.slice J len cap->len<=cap->r=(ev tm (A8 x),h)->Ez P ρ μ h a o w (.val r.1 r.2):=fun J len cap N ad er=>by
   subst er
   refine ⟨.value (a.eval x),a.eval x,w,μ,run ?_,.inl rfl,Av.refl H,U⟩
   rw [N]
   refine Cn ht hu hd be aM (by omega) hL ?_
   cases J with
   |none=>rfl
   |some p=>simp [ce,storeCells]
  unfold L9 at C
  split at C
  ·rename_i N
   have er:r=(ev tm (A8 x),h):=by rw [N];simpa using C.symm
   rw [N]at U
   obtain ⟨p,c',Q,ad,_⟩:=U.D7
   exact same _ _ _ Q ad er
  ·rename_i N
   have er:r=(ev tm (A8 x),h):=by rw [N];simpa using C.symm
   rw [N]at U
   obtain ⟨r0,m0,k0,_,Q,_,k1,k2⟩:=U.vec
   exact same _ _ _ Q (by omega) er
  ·rename_i N
   rw [N]at U
   have Q:a.eval x=.slice none 0 0:=by simpa only [Ah]using U
   simp only [oI]at C
   exact same _ _ _ Q (Nat.le_refl _) C.symm
  ·rename_i N
   rw [N]at U
   obtain ⟨_,_,_,_,Q,ad⟩:=U.slice
   simp only [oI]at C
   exact same _ _ _ Q ad C.symm
  ·rename_i N
   rw [N]at U
   obtain ⟨_,_,_,_,_,Q,ad,_⟩:=U.gslice
   simp only [oI]at C
   exact same _ _ _ Q ad C.symm
  ·cases C
 ·rw [if_neg h0]at C
  have fresh:∀(J:Option Addr) (len cap:Nat) (h1:Al) (old:List Ab) (O:Array Value),a.eval x=.slice J len cap->cap<len+n->len+n<=1048576->Av ρ μ h w μ h1 w->old.length=len*i.size->
    (Builtin.firstCells i.size len (.slice J len cap)).run P w.drew=.ok O w.drew->Aw ρ μ old O.toList->r=(.gslice h1.next 0 (len+n) i.size,h1.add (.cells (old++new)))->Ez P ρ μ h a o w (.val r.1 r.2):=fun J len cap h1 old O N ah M ak al V ae er=>by
   subst er
   obtain ⟨nc,rest,bn,aR,_,aD⟩:=DI (P:=P) (ty:=o.type) (O:=O) (L:=L') ht hu hd hi hz aM ah V bW hb M
   have aU:O.size=len*i.size:=by have:=ae.length;simp at this;omega
   have aV:L'.size=n*i.size:=by have:=aA.length;simp at this;omega
   have bo:(O++L'++rest).size=nc*i.size:=by
    simp only [Array.size_append,aU,aV,aR,hzs]
    rw [<-Nat.add_mul,<-Nat.add_mul]
    congr 1;omega
   have a2:=Av.add ak.rel.drew (.cells (old++new)) (.cells (O++L'++rest) e) (0,nc*i.size) (fun μ' ad=>Ow ae aA (by omega) μ' ad)
   refine ⟨.value _,_,_,_,run (by rw [N];exact aD),.inl rfl,(ak.trans (Av.drew ak.rel)).trans a2,?_⟩
   simp only [Ah]
   exact ⟨_,_,_,nc,As.BC _ _ _,by simp,by omega,by omega⟩
  have ao:∀(J:Option Addr) (len cap:Nat) (h1:Al) (Z:ST×Block) (X:List (List PV)) (O:Array Value),a.eval x=.slice J len cap->cap<len+n->Av ρ μ h w μ h1 w->(∃(j:Nat) (A B:List (List PV)),Z.2=.list j i.size/\Z.1.den ρ=((ρ.lst j).length:Int)/\(ρ.lst j).length<=1048576/\ρ.lst j=A++B/\A=X/\B.length=n/\(∀p∈B,p.length=i.size)/\C8 ρ (CF new) B.flatten)->X.length=len->(∀p∈X,p.length=i.size)->
    (Builtin.firstCells i.size len (.slice J len cap)).run P w.drew=.ok O w.drew->O.size=len*i.size->AG μ.AQ O 0 X.flatten->r=(.vec h1.next i.size Z.1,h1.add Z.2)->Ez P ρ μ h a o w (.val r.1 r.2):=fun J len cap h1 Z X O N ah ak ap aN au V aU hX er=>by
   subst er
   obtain ⟨j,A,B,eb,et,M,eA,hA,hB,ac,aj⟩:=ap
   subst hA
   have aQ:(ρ.lst j).length=len+n:=by rw [eA,lA];omega
   obtain ⟨nc,rest,bn,aR,_,aD⟩:=DI (P:=P) (ty:=o.type) (O:=O) (L:=L') ht hu hd hi hz aM ah V bW hb (by omega)
   have aV:L'.size=n*i.size:=by have:=aA.length;simp at this;omega
   have bo:(O++L'++rest).size=nc*i.size:=by
    simp only [Array.size_append,aU,aV,aR,hzs]
    rw [<-Nat.add_mul,<-Nat.add_mul]
    congr 1;omega
   have cw:A.flatten.length=len*i.size:=by rw [B9 au,aN]
   have cf:B.flatten.length=n*i.size:=by rw [B9 ac,hB]
   have bE:AG μ.AQ L' 0 B.flatten:=Aw.freeze aj aA fun i v hv=>by simpa using hv
   have bb:BF μ.AQ i.size (O++L'++rest) 0 (ρ.lst j):=by
    rw [Bx]
    refine ⟨fun p R=>?_,?_⟩
    ·rw [eA,List.mem_append]at R
     exact R.elim (au p) (ac p)
    ·rw [eA,List.flatten_append,AG.append_iff]
     refine ⟨AG.congr (fun k hk=>?_) hX,AG.congr (fun k hk=>?_) bE⟩
     ·rw [Array.append_assoc,Array.getElem?_append_left (by omega)]
     ·rw [Array.append_assoc,Array.getElem?_append_right (by omega),Array.getElem?_append_left (by omega)]
      congr 1;omega
   have a2:=Av.add ak.rel.drew Z.2 (.cells (O++L'++rest) e) (0,Oc (len+n) nc) (fun μ' ad=>by
    rw [eb]
    refine ⟨_,e,rfl,rfl,?_,?_,?_,?_,BF.mono ad.AQ bb⟩
    ·rw [Bt (by omega)];omega
    ·rw [Bt (by omega)];omega
    ·rw [Bt (by omega),BE (by omega)];exact bn
    ·rw [BE (by omega),bo];exact Nat.le_refl _)
   refine ⟨.value _,_,_,_,run (by rw [N];exact aD),.inl rfl,(ak.trans (Av.drew ak.rel)).trans a2,?_⟩
   simp only [Ah]
   refine ⟨_,_,len+n,As.BC _ _ _,?_,?_,?_,?_⟩
   ·rw [BE (by omega)]
   ·rw [et,aQ]
   ·rw [Bt (by omega)];exact Nat.le_refl _
   ·rw [Bt (by omega),BE (by omega)];exact bn
  have aF:∀(J:Option Addr) (len cap:Nat) (h1:Al) (part:AE) (Z:ST×Block) (X:List (List PV)) (O:Array Value),a.eval x=.slice J len cap->cap<len+n->Av ρ μ h w μ h1 w->Ie h i.size part n new=some Z->(∀Y,Ft ρ part Y->Y=X)->X.length=len->(∀p∈X,p.length=i.size)->
    (Builtin.firstCells i.size len (.slice J len cap)).run P w.drew=.ok O w.drew->O.size=len*i.size->AG μ.AQ O 0 X.flatten->r=(.vec h1.next i.size Z.1,h1.add Z.2)->Ez P ρ μ h a o w (.val r.1 r.2):=fun J len cap h1 part Z X O N ah ak aq aB aN au V aU hX er=>by
   obtain ⟨j,A,B,eb,et,M,eA,hA,hB,ac,aj⟩:=JL H.AJ.facts aq
   exact ao J len cap h1 Z X O N ah ak ⟨j,A,B,eb,et,M,eA,aB A hA,hB,ac,aj⟩ aN au V aU hX er
  unfold WT at C
  split at C
  ·
   rename_i b es m N
   rw [N]at U
   unfold WR at C
   obtain ⟨⟨li,b8⟩,bS,C⟩:=Ac C
   obtain ⟨bR,bV⟩:=Ap C
   clear C
   obtain ⟨Z,aq,bX⟩:=Ac bV
   clear bV
   have aL:(Ab.vec h.next i.size Z.1,(h.set b none).add Z.2)=r:=by simpa using bX
   clear bX
   rw [aT,An,An]at bR
   obtain ⟨av,a3⟩:=bR
   have a3:b8=es:=a3
   subst a3
   subst av
   have aq:Ie h i.size (.take li m) n new=some Z:=aq
   obtain ⟨r0,m0,k,hm,Q,hk,cy,bc⟩:=U.vec
   obtain ⟨r1,⟨δ1,m1⟩,ag,c0,ty,ab,h0,h1,h2,h3,h4,h5⟩:=H.blk b _ (CU bS)
   rw [hm]at ag
   simp only [oI,Prod.mk.injEq]at ag
   obtain ⟨rfl,rfl,rfl⟩:=ag
   have h1:(ρ.lst li).length<=BD m0:=h1
   have h4:BM m0*i.size<=c0.size:=h4
   have h5:BF μ.AQ i.size c0 0 (ρ.lst li):=h5
   have b2:=aq
   obtain ⟨j,A,B,eb,et,M,eA,hA,hB,ac,aj⟩:=JL H.AJ.facts b2
   have cx:k<=(ρ.lst li).length:=by
    obtain ⟨_,q,_⟩:=hA
    rw [hk]at q;omega
   have aB:∀Y,Ft ρ (.take li m) Y->Y=(ρ.lst li).take k:=fun Y hY=>by
    obtain ⟨_,_,q⟩:=hY
    rw [q,hk];rfl
   have au:∀p∈(ρ.lst li).take k,p.length=i.size:=fun p R=>(Bx.1 h5).1 p (List.mem_of_mem_take R)
   have aN:((ρ.lst li).take k).length=k:=by rw [lT'];omega
   have hX:AG μ.AQ c0 0 ((ρ.lst li).take k).flatten:=by
    have:=(Bx.1 h5).2
    rw [<-List.take_append_drop k (ρ.lst li),List.flatten_append,AG.append_iff]at this
    exact this.1
   have bY:((ρ.lst li).take k).flatten.length=k*i.size:=by rw [B9 au,aN]
   by_cases hfit:k+n<=BM m0
   ·
    have:=aB A hA
    subst this
    have aQ:(ρ.lst j).length=k+n:=by rw [eA,lA];omega
    have a5:(k+n)*i.size<=BM m0*i.size:=Nat.mul_le_mul_right _ hfit
    rw [Nat.add_mul]at a5
    have aV:L.toList.length=n*i.size:=by rw [<-af.length];exact ba
    obtain ⟨c',a0,bq,bj⟩:=DH (P:=P) L.toList ab (p:=k*i.size) (by omega) af.one
    have cf:B.flatten.length=n*i.size:=by rw [B9 ac,hB]
    have bE:AG μ.AQ L 0 B.flatten:=Aw.freeze aj af fun i v hv=>by simpa using hv
    have bb:BF μ.AQ i.size c' 0 (ρ.lst j):=by
     rw [Bx]
     refine ⟨fun p R=>?_,?_⟩
     ·rw [eA,List.mem_append]at R
      exact R.elim (au p) (ac p)
     ·rw [eA,List.flatten_append,AG.append_iff]
      refine ⟨AG.congr (fun q hq=>?_) hX,AG.congr (fun q hq=>?_) bE⟩
      ·rw [bj,if_neg (by omega)]
      ·rw [bj,if_pos (by omega),<-Array.getElem?_toList]
       congr 1;omega
    have bw:=Av.Ws (w':=w.setRow r0 c') H (CU bS) hm Z.2 (0,Oc (k+n) (BM m0)) (fun i hi=>setRow_other _ _ _ _ hi) (by simp) rfl rfl (fun μ' aO=>by
     rw [En _ _ _ _ _ _ ab,eb]
     refine ⟨c',ty,rfl,rfl,?_,?_,?_,?_,BF.mono aO.AQ bb⟩
     ·rw [Bt (by omega)];omega
     ·rw [Bt (by omega)];omega
     ·rw [Bt (by omega),BE (by omega)];exact hfit
     ·rw [BE (by omega)];omega)
    subst aL
    refine ⟨.value _,_,_,_,run (v:=.slice (some ⟨r0,0,none⟩) (k+n) (BM m0)) ?_,.inl rfl,bw,?_⟩
    ·rw [Q]
     refine Cn ht hu hd be aM hfit hL ?_
     simp only [Addr.AW,Nat.zero_add]
     exact a0
    ·simp only [Ah]
     refine ⟨_,_,k+n,As.BC _ _ _,?_,?_,?_,?_⟩
     ·rw [BE (by omega)]
     ·rw [et,aQ]
     ·rw [Bt (by omega)];exact Nat.le_refl _
     ·rw [Bt (by omega),BE (by omega)];exact hfit
   ·
    obtain ⟨l,aw,a4,a7⟩:=hX.values
    have V:=run_loadCells_list (P:=P) (w:=w.drew) ⟨r0,0,none⟩ l (fun j v hv=>by
     rw [Addr.AW]
     show w.cell? _=_
     rw [Cj ab];exact a4 j v hv)
    rw [aw,bY]at V
    refine aF _ _ _ (h.set b none) _ Z _ l.toArray Q (by omega) (Av.drop H b) aq aB aN au (by simp [Builtin.firstCells,V]) (by simp [aw,bY]) (AG.congr (fun q hq=>?_) hX) ?_
    ·have:=a7 q hq
     simpa using this.symm
    ·rw [<-aL];rfl
  ·
   rename_i li es m N
   rw [N]at U
   unfold WW at C
   obtain ⟨av,C⟩:=Ap C
   obtain ⟨Z,aq,aL⟩:=Ac C
   simp only [oI]at aL
   have av:=An.1 av
   subst av
   obtain ⟨ct,_,bN⟩:=U.lst
   obtain ⟨p,Q⟩:=bN rfl
   obtain ⟨p',c',bF,_,_,cd⟩:=U.D7
   rw [Q]at bF
   simp only [Value.slice.injEq,true_and]at bF
   obtain ⟨rfl,rfl⟩:=bF
   have ah:(ρ.lst li).length<(ρ.lst li).length+n:=by omega
   by_cases hz0:(ρ.lst li).length=0
   ·have aP:ρ.lst li=[]:=List.eq_nil_of_length_eq_zero hz0
    refine aF _ _ _ h _ Z (ρ.lst li) #[] Q ah (Av.refl H) aq (fun Y hY=>hY) rfl (fun q hq=>by rw [aP]at hq;cases hq) ?_ (by simp [hz0]) (by rw [aP];simp only [List.flatten_nil,AG]) aL.symm
    rw [hz0]
    cases p<;>simp [Builtin.firstCells,loadCells,loadCellsFrom]
   ·obtain ⟨r0,δ,c0,ty,rfl,k1,k2⟩:=cd hz0
    obtain ⟨_,k1⟩:=k1
    have ab:=(H.AJ.AQ _ _ k1).1
    have aK:=Bx.1 k2
    obtain ⟨l,aw,a4,a7⟩:=aK.2.values
    have bQ:=B9 aK.1
    have V:=run_loadCells_list (P:=P) (w:=w.drew) ⟨r0,δ,none⟩ l (fun j v hv=>by
     rw [Addr.AW]
     show w.cell? _=_
     rw [Cj ab];exact a4 j v hv)
    rw [aw,bQ]at V
    refine aF _ _ _ h _ Z (ρ.lst li) l.toArray Q ah (Av.refl H) aq (fun Y hY=>hY) rfl aK.1 (by simp [Builtin.firstCells,V]) (by simp [aw,bQ]) (AG.congr (fun q hq=>?_) aK.2) aL.symm
    have:=a7 q hq
    simpa using this.symm
  ·
   rename_i N
   rw [N]at U
   have Q:a.eval x=.slice none 0 0:=by simpa only [Ah]using U
   obtain hE|C:=Sw C
   ·obtain ⟨p,j,t,A,B,R,er,et,M,eA,hA,hB,ac,aj⟩:=JM H.AJ.facts hE
    have R:([]:List AE)=p:=by simpa [Pw]using R
    subst R
    have hA:A=[]:=hA
    exact ao none 0 0 h (t,.list j i.size) [] #[] Q (by omega) (Av.refl H) ⟨j,A,B,rfl,et,M,eA,hA,hB,ac,aj⟩ rfl (fun _ hq=>by cases hq) (by simp [Builtin.firstCells]) (by simp) (by simp only [List.flatten_nil,AG]) er
   unfold Ic at C
   obtain ⟨M,C⟩:=Ap C
   simp only [oI]at C
   exact fresh none 0 0 h [] #[] Q (by omega) (AI.1 M) (Av.refl H) (by simp) (by simp [Builtin.firstCells]) (by simp only [Aw]) C.symm
  ·
   rename_i b aC len cap N
   have bv:=U
   rw [N]at U
   obtain ⟨r0,δ,m,hm,Q,ad⟩:=U.slice
   cases hcap:Nat.ble (len+n) cap with
   |true=>
    rw [hcap]at C
    simp only [cond_true]at C
    unfold Tm at C
    obtain ⟨vs,bg,C⟩:=Ac C
    obtain ⟨cz,aK,C⟩:=Ac C
    simp only [oI]at C
    subst C
    obtain ⟨r1,δ1,m1,ag,w',a0,hg⟩:=GP (P:=P) H bg af aK
    have hg:=hg _ (.inl rfl)
    rw [hm]at ag
    simp only [oI,Prod.mk.injEq]at ag
    obtain ⟨rfl,rfl,rfl⟩:=ag
    refine ⟨.value _,_,w',μ,run (v:=.slice (some ⟨r0,δ+aC,none⟩) (len+n) cap) ?_,.inl rfl,hg,?_⟩
    ·rw [Q]
     refine Cn ht hu hd be aM (AI.1 hcap) hL ?_
     simp only [Addr.AW,Nat.add_assoc]
     exact a0
    ·simp only [Ah]
     exact ⟨_,_,_,hm,rfl,AI.1 hcap⟩
   |false=>
    rw [hcap]at C
    simp only [cond_false]at C
    have ah:cap<len+n:=by
     rcases Nat.lt_or_ge cap (len+n)with h'|h'
     ·exact h'
     ·rw [AI.2 h']at hcap;cases hcap
    obtain hE|C:=Sw C
    ·obtain ⟨p,j,t,X0,B,R,er,et,M,eA,bi,hB,ac,aj⟩:=JM H.AJ.facts hE
     unfold Pw at R
     obtain ⟨bz,bT⟩:=Ap R
     clear R
     have bc:=An.1 bz
     clear bz
     subst bc
     have R:=bT
     clear bT
     rw [AA]at R
     split at R
     ·rename_i br
      subst br
      simp only [oI]at R
      subst R
      have bi:X0=[]:=bi
      exact ao _ 0 0 h (t,.list j i.size) [] #[] Q (by omega) (Av.refl H) ⟨j,X0,B,rfl,et,M,eA,bi,hB,ac,aj⟩ rfl (fun _ hq=>by cases hq) (by simp [Builtin.firstCells,loadCells,loadCellsFrom]) (by simp) (by simp only [List.flatten_nil,AG]) er
     ·rename_i br
      obtain ⟨s,bG,R⟩:=Ac R
      obtain ⟨cv,R⟩:=Ap R
      obtain ⟨cs,bq,R⟩:=Ac R
      simp only [oI]at R
      subst R
      have b6:DT ρ cs X0:=by
       obtain ⟨x,y,rfl,h1,h2⟩:=bi
       have h2:y=[]:=h2
       subst h2
       rw [List.append_nil];exact h1
      obtain ⟨c1,c2,c3⟩:=DA bq
      obtain ⟨f1,f2,f3⟩:=DT.flat b6
      have bC:Jh h i.size false (ev tm (A8 x))=some s:=by rw [N];exact bG
      obtain ⟨_,al,O,V,az⟩:=Da (P:=P) (w:=w.drew) H.drew bv (n:=s.1) (cs:=s.2) bC
      have bH:s.1=len:=by
       have I:=bG
       unfold LV at I
       rw [AA,if_neg br]at I
       obtain ⟨_,_,I⟩:=Ac I
       obtain ⟨_,_,I⟩:=Ac I
       simp only [oI]at I;rw [<-I]
      rw [bH]at al V
      rw [Q]at V
      rw [c1]at f1
      refine ao _ _ _ h (t,.list j i.size) X0 O Q ah (Av.refl H) ⟨j,X0,B,rfl,et,M,eA,rfl,hB,ac,aj⟩ (by omega) (f3 _ c3) V ?_ ?_ er
      ·have:=az.length;simp at this;omega
      ·exact Aw.freeze f1 az fun q v hv=>by simpa using hv
    obtain ⟨old,ae,C⟩:=Ac C
    unfold Ic at C
    obtain ⟨M,C⟩:=Ap C
    simp only [oI]at C
    have bC:Jh h i.size false (ev tm (A8 x))=some old:=by rw [N];exact ae
    obtain ⟨_,al,O,V,az⟩:=Da (P:=P) (w:=w.drew) H.drew bv bC
    have bH:old.1=len:=by
     have I:=ae
     unfold LV at I
     rw [AA]at I
     split at I
     ·simp only [oI]at I;rw [<-I];omega
     ·obtain ⟨_,_,I⟩:=Ac I
      obtain ⟨_,_,I⟩:=Ac I
      simp only [oI]at I;rw [<-I]
    rw [bH]at al V
    rw [Q]at V
    exact fresh _ _ _ h old.2 O Q ah (AI.1 M) (Av.refl H) al V az C.symm
  ·
   rename_i b aC len es N
   have bv:=U
   rw [N]at U
   obtain ⟨r0,δ,m,cap,hm,Q,ad,cj⟩:=U.gslice
   unfold WS at C
   obtain ⟨vs,bg,C⟩:=Ac C
   obtain ⟨bh,C⟩:=Ap C
   obtain ⟨old,ae,C⟩:=Ac C
   simp only [oI]at C
   rw [aT,An,AI]at bh
   obtain ⟨av,M⟩:=bh
   obtain ⟨B0,cc⟩:=Lj bg
   obtain ⟨r1,δ1,m1,c1,e3,ag,ab,cA,aY⟩:=H.cells bg
   rw [hm]at ag
   simp only [oI,Prod.mk.injEq]at ag
   obtain ⟨rfl,rfl,rfl⟩:=ag
   by_cases hfit:len+n<=cap
   ·
    have a5:(len+n)*i.size<=cap*es:=by rw [<-av];exact Nat.mul_le_mul_right _ hfit
    rw [Nat.add_mul]at a5
    have aV:L.toList.length=n*i.size:=by rw [<-af.length];exact ba
    obtain ⟨c',a0,bq,bj⟩:=DH (P:=P) L.toList ab (p:=δ+aC+len*i.size) (by omega) af.one
    have ap:=JI ae
    have bw:=Av.Ws (w':=w.setRow r0 c') H cc hm (.cells (old++new)) (δ+aC,m-aC) (fun i hi=>setRow_other _ _ _ _ hi) (by simp) rfl rfl (fun μ' aO=>by
     rw [En _ _ _ _ _ _ ab]
     refine ⟨c',e3,rfl,by omega,fun k v hk=>?_⟩
     rw [bj]
     by_cases hko:k<old.length
     ·rw [List.getElem?_append_left hko,ap.2.2 k]at hk
      rw [ap.1]at hko
      rw [if_pos hko]at hk
      obtain ⟨u',aW,bt,bB⟩:=aY _ _ hk
      refine ⟨u',?_,bt,bB.mono aO⟩
      rw [if_neg (by omega),Nat.add_assoc]
      exact aW
     ·rw [List.getElem?_append_right (by omega)]at hk
      obtain ⟨u',aW,bt,bB⟩:=af.get hk
      refine ⟨u',?_,bt,bB.mono aO⟩
      have b9:=(List.getElem?_eq_some_iff.1 aW).1
      rw [ap.1]at aW b9 hko
      rw [if_pos (by omega),<-aW]
      congr 1
      omega)
    subst C
    refine ⟨.value _,_,_,_,run (v:=.slice (some ⟨r0,δ+aC,none⟩) (len+n) cap) ?_,.inl rfl,bw,?_⟩
    ·rw [Q]
     refine Cn ht hu hd be aM hfit hL ?_
     simp only [Addr.AW]
     exact a0
    ·simp only [Ah]
     refine ⟨_,_,_,cap,As.BC _ _ _,rfl,hfit,?_⟩
     rw [av];omega
   ·
    obtain ⟨l,aw,bU,bc⟩:=D9 aY ae
    have V:=run_loadCells_list (P:=P) (w:=w.drew) ⟨r0,δ+aC,none⟩ l (fun j v hv=>by
     rw [Addr.AW]
     show w.cell? _=_
     rw [Cj ab];exact bc j v hv)
    rw [aw]at V
    refine fresh _ _ _ (h.set b none) old l.toArray Q (by omega) M (Av.drop H b) ?_ ?_ (by simpa using bU) ?_
    ·rw [bU.length,aw]
    ·simp [Builtin.firstCells,V]
    ·rw [<-C];rfl
  ·cases C
theorem Lh {o:Oper} {c:Call} {t u e:TypeId} {d:TypeDesc} {x y:Operand} (C:o.op=.call c) (q:c.callee=.builtin .append) (j:c.args=#[x,y]) (z:c.argTypes=#[t,u])
  (H:AD ρ μ h w) (A:AP ρ μ tm a) (O:P.underlying t=some (.slice e)) (I:P.underlying u=some d) (hd:E2 d) {i:TypeInfo} (M:P.info? e=some i) (hb:i.bytes<=1048576) (N:(i.zero.map fun v=>Nat.beq v.cells.size i.size).getD false=true)
  {bytes:Bool} {s:Nat×List Ab} (hs:Jh h i.size bytes (ev tm (A8 y))=some s) {r:Ab×Al} (J:Gz h i.size (ev tm (A8 x)) s.1 s.2=some r):Ez P ρ μ h a o w (.val r.1 r.2):=by
 have B:=Au A y
 refine Ed C q j z H A O I hd M hb N (fun w' L=>?_) J
 obtain ⟨n,new⟩:=s
 rcases L with rfl|rfl
 ·exact Da (P:=P) H B hs
 ·exact Da (P:=P) H.drew B hs
theorem Aw.take:∀{as:List Ab} {vs:List Value} (k:Nat),Aw ρ μ as vs->Aw ρ μ (as.take k) (vs.take k)
 |[],vs,k,e=>by simp only [Aw]at e;subst e;simp only [List.take_nil,Aw]
 |a::as,vs,k,e=>by
  simp only [Aw]at e
  obtain ⟨v,rest,rfl,q,j⟩:=e
  cases k with
  |zero=>simp only [List.take_zero,Aw]
  |succ k=>simp only [List.take_succ_cons,Aw];exact ⟨_,_,rfl,q,Aw.take k j⟩
theorem RT (H:AD ρ μ h w) {size n m:Nat} {bytes:Bool} {x:Ab} {u:Value} {cs:List Ab} (N:Ah ρ μ x u) (hs:Jh h size bytes x=some (n,cs)) (V:m<=n):
  ∃L:Array Value,(Builtin.firstCells size m u).run P w=.ok L w/\Aw ρ μ (cs.take (m*size)) L.toList:=by
 have key:∀(b B len r δ Y c:Nat),LV h size b B len=some (n,cs)->μ b=some (r,δ,Y)->u=.slice (some ⟨r,δ+B,none⟩) len c->
   ∃L:Array Value,(Builtin.firstCells size m u).run P w=.ok L w/\Aw ρ μ (cs.take (m*size)) L.toList:=fun b B len r δ Y c hs J e=>by
  subst e
  unfold LV at hs
  rw [AA]at hs
  by_cases R:len=0
  ·rw [if_pos R]at hs
   simp only [oI,Prod.mk.injEq]at hs
   obtain ⟨rfl,rfl⟩:=hs
   have:m=0:=by omega
   subst this
   exact ⟨#[],by simp [Builtin.firstCells,loadCells,loadCellsFrom],by simp only [List.take_nil,Aw]⟩
  ·rw [if_neg R]at hs
   obtain ⟨vs,Z,hs⟩:=Ac hs
   obtain ⟨r',aa,hs⟩:=Ac hs
   simp only [oI,Prod.mk.injEq]at hs
   obtain ⟨rfl,rfl⟩:=hs
   obtain ⟨r2,δ2,m2,c2,e2,Q,X,_,hc⟩:=H.cells Z
   rw [J]at Q
   simp only [oI,Prod.mk.injEq]at Q
   obtain ⟨rfl,rfl,rfl⟩:=Q
   obtain ⟨l,I,M,O⟩:=D9 hc aa
   have A:m*size<=l.length:=by rw [I];exact Nat.mul_le_mul_right _ V
   have q:=run_loadCells_list (P:=P) (w:=w) ⟨r,δ+B,none⟩ (l.take (m*size)) (fun j v z=>by
    rw [List.getElem?_take]at z
    split at z
    ·rw [Addr.AW,Cj X];exact O j v z
    ·cases z)
   rw [lT',Nat.min_eq_left A]at q
   exact ⟨(l.take (m*size)).toArray,by simp [Builtin.firstCells,q],by simpa using M.take (m*size)⟩
 unfold Jh at hs
 split at hs
 ·obtain ⟨k1,⟨rfl,rfl,p,c,rfl⟩|⟨r,δ,c,ar,e,_,rfl,X,hc⟩⟩:=OM H N hs
  ·have R:m=0:=by omega
   subst R
   cases p
   ·exact ⟨#[],by simp [Builtin.firstCells],by simp only [List.take_nil,Aw]⟩
   ·exact ⟨#[],by simp [Builtin.firstCells,loadCells,loadCellsFrom],by simp only [List.take_nil,Aw]⟩
  ·obtain ⟨l,I,M,O⟩:=D9 hc (WG cs)
   have A:m*size<=l.length:=by rw [I,k1];exact Nat.mul_le_mul_right _ V
   have q:=run_loadCells_list (P:=P) (w:=w) ⟨r,δ,none⟩ (l.take (m*size)) (fun j v z=>by
    rw [List.getElem?_take]at z
    split at z
    ·rw [Addr.AW,Cj X];simpa using O j v z
    ·cases z)
   rw [lT',Nat.min_eq_left A]at q
   exact ⟨(l.take (m*size)).toArray,by simp [Builtin.firstCells,q],by simpa using M.take (m*size)⟩
 ·simp only [oI,Prod.mk.injEq]at hs
  obtain ⟨rfl,rfl⟩:=hs
  have e:u=.slice none 0 0:=by simpa only [Ah]using N
  subst e
  exact ⟨#[],by simp [Builtin.firstCells],by simp only [List.take_nil,Aw]⟩
 ·obtain ⟨r,δ,m,J,e,_⟩:=N.slice
  exact key _ _ _ _ _ _ _ hs J e
 ·obtain ⟨r,δ,m,c,J,e,_⟩:=N.gslice
  exact key _ _ _ _ _ _ _ hs J e
 ·rename_i s
  obtain ⟨C,U⟩:=Ap hs
  clear hs
  have C:=An.1 C
  subst C
  simp only [oI,Prod.mk.injEq]at U
  obtain ⟨rfl,rfl⟩:=U
  obtain ⟨b,rfl,rfl⟩:=N.str
  refine ⟨((b.extract 0 m).data.map fun c=>.int .u8 c.toNat),by simp [Builtin.firstCells],?_⟩
  have hb:=(F7 (ρ:=ρ) (μ:=μ) b.data.toList).take (m*1)
  have he:(b.extract 0 m).data.toList=b.data.toList.take m:=by
   obtain ⟨⟨l⟩⟩:=b
   have:=ByteArray.extract_mk l 0 m
   rw [show (⟨⟨l⟩⟩:ByteArray)=ByteArray.mk l.toArray from rfl,this]
   simp
  rw [Array.toList_map,he]
  unfold strOf
  simpa [List.map_take]using hb
 ·cases hs
theorem Pn {o:Oper} {c:Call} {t u e:TypeId} {x y:Operand} (ho:o.op=.call c) (aa:c.callee=.builtin .copy) (V:c.args=#[x,y]) (ac:c.argTypes=#[t,u])
  (H:AD ρ μ h w) (hT:AP ρ μ tm a) (ht:P.underlying t=some (.slice e)) {size:Nat} (hn:AU P e=some size)
  {bytes:Bool} {s:Nat×List Ab} (hs:Jh h size bytes (ev tm (A8 y))=some s) {r:Ab×Al} (j:Ab8 h size (ev tm (A8 x)) s.1 s.2=some r):Ez P ρ μ h a o w (.val r.1 r.2):=by
 have B:=Au hT x
 have Z:=Au hT y
 have Q:=Bm (w:=w) hn
 obtain ⟨n,src⟩:=s
 obtain ⟨C,ao,_⟩:=Da (P:=P) H Z hs
 have run:∀{v:Value} {wf:World},(Builtin.copy_ #[t,u] o.type #[a.eval x,a.eval y]).run P w=.ok v wf->(execOp a.eval o).run P w=.ok (.value v) wf:=fun {v wf} hrun=>by
  simp [execOp,ho,resolve,aa,V,ac,invoke,builtin,hrun]
 have key:∀(b I len:Nat) (M δ U cap:Nat),μ b=some (M,δ,U)->a.eval x=.slice (some ⟨M,δ+I,none⟩) len cap->
   WH h size b I (bif Nat.ble n len then n else len) src=some r->Ez P ρ μ h a o w (.val r.1 r.2):=fun b I len M δ U cap J z j=>by
  have X:(bif Nat.ble n len then n else len)=min n len:=by
   cases hb:Nat.ble n len with
   |true=>simp only [cond_true];have:=AI.1 hb;omega
   |false=>
    simp only [cond_false]
    have:¬n<=len:=fun h'=>by rw [AI.2 h']at hb;cases hb
    omega
  rw [X]at j
  obtain ⟨L,N,q⟩:=RT (P:=P) H Z hs (Nat.min_le_left n len)
  unfold WH at j
  rw [AA]at j
  by_cases A:min n len=0
  ·rw [if_pos A]at j
   simp only [oI]at j
   subst j
   rw [A]at q N
   simp only [Nat.zero_mul,List.take_zero,Aw]at q
   refine ⟨.value (goInt 0),goInt 0,w,μ,run ?_,.inl rfl,Av.refl H,by simp only [lit,Ah,ST.den];rfl⟩
   have ai:Nat.min n len=0:=A
   simp [Builtin.copy_,run_underlying ht,z,C,Q,ai,N,q,storeCells,goInt]
  ·rw [if_neg A]at j
   obtain ⟨vs,ah,j⟩:=Ac j
   obtain ⟨new,Y,j⟩:=Ac j
   obtain ⟨ap,ae,j⟩:=Ac j
   simp only [oI]at j
   subst j
   obtain ⟨rfl,_⟩:=FY Y
   obtain ⟨r1,δ1,m1,O,w',ag,hg⟩:=GP (P:=P) H ah q ae
   have hg:=hg _ (.inl rfl)
   rw [J]at O
   simp only [oI,Prod.mk.injEq]at O
   obtain ⟨rfl,rfl,rfl⟩:=O
   refine ⟨.value (goInt (min n len:Nat)),_,w',μ,run ?_,.inl rfl,hg,by simp only [lit,Ah,ST.den];rfl⟩
   have aj:(Builtin.firstCells size (Nat.min n len) (a.eval y)).run P w=.ok L w:=N
   simp [Builtin.copy_,run_underlying ht,z,C,Q,aj,ag,goInt]
 unfold Ab8 at j
 split at j
 ·rename_i R
  rw [R]at B
  have z:a.eval x=.slice none 0 0:=by simpa only [Ah]using B
  simp only [oI]at j
  subst j
  obtain ⟨L,N,q⟩:=RT (P:=P) H Z hs (Nat.zero_le n)
  refine ⟨.value (goInt 0),goInt 0,w,μ,run ?_,.inl rfl,Av.refl H,by simp only [lit,Ah,ST.den];rfl⟩
  have A:Nat.min n 0=0:=Nat.min_zero n
  simp [Builtin.copy_,run_underlying ht,z,C,Q,A,N,goInt]
 ·rename_i R
  rw [R]at B
  obtain ⟨M,δ,U,J,z,_⟩:=B.slice
  exact key _ _ _ _ _ _ _ J z j
 ·rename_i R
  rw [R]at B
  obtain ⟨M,δ,U,cap,J,z,_⟩:=B.gslice
  exact key _ _ _ _ _ _ _ J z j
 ·cases j
end
end
section
section
variable {P:Program} {Γ:Ao} {ρ:Env} {μ:As} {tm:Tr Ab} {a:Act} {w:World} {h:Al}
def Fv (L:List Value):Prop:=∀v∈L,∃x:UInt8,v=.int .u8 x.toNat
theorem X9 {v:Ab} (h:Adk v=true):∃n,v=.int .u8 (.lit (.ofNat n))/\n<=255:=by
 unfold Adk at h
 split at h
 ·exact ⟨_,rfl,AI.1 h⟩
 ·cases h
theorem Lq:∀{cs:List Ab} {L:List Value},Aw ρ μ cs L->WX cs=true->Fv L
 |[],L,h,_=>by simp only [Aw]at h;subst h;intro v q;cases q
 |c::cs,L,h,j=>by
  simp only [Aw]at h
  obtain ⟨v,rest,rfl,⟨_,q⟩,z⟩:=h
  have j:(Adk c&&WX cs)=true:=j
  rw [aT]at j
  intro u x
  cases x with
  |head=>
   obtain ⟨n,A,B⟩:=X9 j.1
   subst A
   have e:=q.int
   refine ⟨UInt8.ofNat n,?_⟩
   rw [e]
   simp only [ST.den]
   have:(UInt8.ofNat n).toNat=n:=by simp;omega
   rw [this];rfl
  |tail _ hm=>exact Lq z j.2 u hm
theorem Tp (l:List UInt8):Fv (l.map fun c=>.int .u8 (c.toNat:Int)):=fun v j=>by
 obtain ⟨c,_,rfl⟩:=List.mem_map.1 j
 exact ⟨c,rfl⟩
theorem LW (H:AD ρ μ h w) {bytes:Bool} {y:Ab} {u:Value} {lo n:Nat} (B:Ah ρ μ y u) (hs:AcH h bytes y=some (lo,n)):
  ∃k,lo<=k/\k<=n/\(Builtin.lenOf u).run P w=.ok k w/\∃L:Array Value,(Builtin.firstCells 1 k u).run P w=.ok L w/\L.size=k/\Fv L.toList:=by
 have str:∀b:ByteArray,u=.string b->(Builtin.lenOf u).run P w=.ok b.size w/\∃L:Array Value,(Builtin.firstCells 1 b.size u).run P w=.ok L w/\L.size=b.size/\Fv L.toList:=fun b e=>by
  subst e
  refine ⟨by simp [Builtin.lenOf],(b.data.map fun c=>.int .u8 c.toNat),?_,by rw [Array.size_map];rfl,?_⟩
  ·have:b.extract 0 b.size=b:=by
    obtain ⟨⟨l⟩⟩:=b
    have:=ByteArray.extract_mk l 0 l.length
    rw [show (⟨⟨l⟩⟩:ByteArray)=ByteArray.mk l.toArray from rfl]
    rw [show (ByteArray.mk l.toArray).size=l.length from by simp [ByteArray.size],this]
    simp
   simp [Builtin.firstCells,this]
  ·simpa using Tp b.data.toList
 have C:∀s,Jh h 1 false y=some s->WX s.2=true->(s.1,s.1)=(lo,n)->∃k,lo<=k/\k<=n/\(Builtin.lenOf u).run P w=.ok k w/\∃L:Array Value,(Builtin.firstCells 1 k u).run P w=.ok L w/\L.size=k/\Fv L.toList:=fun s v x M=>by
  simp only [Prod.mk.injEq]at M
  obtain ⟨rfl,rfl⟩:=M
  obtain ⟨j,q,L,N,I⟩:=Da (P:=P) H B v
  refine ⟨s.1,Nat.le_refl _,Nat.le_refl _,j,L,N,?_,Lq I x⟩
  have:=I.length
  simp at this;omega
 unfold AcH at hs
 split at hs
 ·rename_i i
  obtain ⟨r,O,hs⟩:=Ac hs
  simp only [oI]at hs
  obtain ⟨b,e,J⟩:=B.svar
  obtain ⟨j,q⟩:=str b e
  obtain ⟨_,z,A⟩:=H.AJ.facts.BQ _ (Ks O)
  have z:r.2.1<=(ρ.str i).length:=z
  have A:(ρ.str i).length<=r.2.2:=A
  rw [hs,<-J,B6]at z A
  exact ⟨b.size,z,A,j,q⟩
 ·rename_i s
  simp only [oI,Prod.mk.injEq]at hs
  obtain ⟨rfl,rfl⟩:=hs
  obtain ⟨b,e,rfl⟩:=B.str
  obtain ⟨j,q⟩:=str b e
  refine ⟨b.size,?_,?_,j,q⟩<;>rw [Db,B6]<;>exact Nat.le_refl _
 ·rename_i m
  simp only [oI,Prod.mk.injEq]at hs
  obtain ⟨rfl,rfl⟩:=hs
  obtain ⟨b,e,v,x⟩:=B.anyStr
  obtain ⟨j,q⟩:=str b e
  exact ⟨b.size,v,x,j,q⟩
 ·obtain ⟨s,v,hs⟩:=Ac hs
  obtain ⟨x,hs⟩:=Ap hs
  simp only [oI]at hs
  exact C s v x hs
 ·cases hs
theorem Yx {e:TypeId} {size t:Nat} (h:u8T P e size=some t):t=e/\size=1/\P.underlying e=some (.int .u8)/\∃i,P.info? e=some i/\i.zero=some (.int .u8 0):=by
 unfold u8T at h
 split at h
 ·rename_i i q v
  split at h
  ·rename_i j
   split at h
   ·rename_i hs
    simp only [oI]at h
    exact ⟨h.symm,An.1 hs,q,i,v,j⟩
   ·cases h
  ·cases h
 ·cases h
theorem AD.bytes (H:AD ρ μ h w) {b n e:Nat} (hb:h.get b=some (.bytes n e)):∃r m c,μ b=some (r,0,m)/\w.heap[r]?=some (.cells c e (0,0))/\1<=BD m/\BD m<=n/\n<=1048576/\BD m<=BM m/\BM m<=c.size/\∀i,i<BM m->∃x:UInt8,c[i]?=some (.int .u8 x.toNat):=by
 obtain ⟨r,⟨δ,m⟩,q,c,j,z,v⟩:=H.blk b _ hb
 subst z
 exact ⟨r,m,c,q,j,v⟩
theorem AD.sbytes (H:AD ρ μ h w) {b e:Nat} {n:ST} (hb:h.get b=some (.sbytes n e)):∃r m c,μ b=some (r,0,m)/\w.heap[r]?=some (.cells c e (0,0))/\1<=BD m/\(BD m:Int)<=n.den ρ/\n.den ρ<=1048576/\BD m<=BM m/\BM m<=c.size/\∀i,i<BM m->∃x:UInt8,c[i]?=some (.int .u8 x.toNat):=by
 obtain ⟨r,⟨δ,m⟩,q,c,j,z,v⟩:=H.blk b _ hb
 subst z
 exact ⟨r,m,c,q,j,v⟩
theorem NT {o:Option Block} {m:ST×Nat} (h:He o=some m):o=some (.sbytes m.1 m.2):=by
 unfold He at h
 split at h
 ·simp only [oI]at h;rw [<-h]
 ·cases h
theorem Yp (k:Nat):Fv (Builtin.zeroCells (Value.int .u8 0).cells k).toList:=fun v j=>by
 refine ⟨0,?_⟩
 have hc:(Value.int .u8 0).cells=#[.int .u8 0]:=rfl
 rw [hc]at j
 unfold Builtin.zeroCells at j
 simp only [Array.toList_map,List.mem_map]at j
 obtain ⟨i,_,rfl⟩:=j
 have:i%(#[Value.int .u8 0]:Array Value).size=0:=Nat.mod_one i
 rw [this];rfl
theorem Fv.append {x y:List Value} (z:Fv x) (q:Fv y):Fv (x++y):=fun v j=>by
 rcases List.mem_append.1 j with h|h
 ·exact z v h
 ·exact q v h
theorem Fv.get {x:Array Value} (q:Fv x.toList) {i:Nat} (v:i<x.size):∃u:UInt8,x[i]?=some (.int .u8 u.toNat):=by
 obtain ⟨u,j⟩:=q x[i] (by simp)
 exact ⟨u,by rw [Array.getElem?_eq_getElem v,j]⟩
theorem Ru {o:Oper} {c:Call} {t u e:TypeId} {d:TypeDesc} {x y:Operand} (ho:o.op=.call c) (aQ:c.callee=.builtin .append) (aC:c.args=#[x,y]) (aR:c.argTypes=#[t,u])
  (H:AD ρ μ h w) (hT:AP ρ μ tm a) (ht:P.underlying t=some (.slice e)) (hu:P.underlying u=some d) (hd:E2 d) {i:TypeInfo} (hi:P.info? e=some i) (hb:i.bytes<=1048576) {X:Nat} (he:u8T P e i.size=some X)
  {bytes:Bool} {s:Nat×Nat} (hs:AcH h bytes (ev tm (A8 y))=some s) {r:Ab×Al} (B:R8 h X (ev tm (A8 x)) s.1 s.2=some r):Ez P ρ μ h a o w (.val r.1 r.2):=by
 have hx:=Au hT x
 have hy:=Au hT y
 obtain ⟨rfl,ax,_,i',ay,hz⟩:=Yx he
 rw [hi]at ay
 simp only [oI]at ay
 subst ay
 obtain ⟨lo,n⟩:=s
 obtain ⟨k,bL,bI,ai,L,hL,aG,aI⟩:=LW (P:=P) H hy hs
 obtain ⟨z,_,_,aX,L',bb,aO,aW⟩:=LW (P:=P) H.drew hy hs
 have a3:z=k:=by
  have Q:(Builtin.lenOf (a.eval y)).run P w=.ok k w:=ai
  have h2:(Builtin.lenOf (a.eval y)).run P w.drew=.ok z w.drew:=aX
  have:∀v:Value,∀k z:Nat,(Builtin.lenOf v).run P w=.ok k w->(Builtin.lenOf v).run P w.drew=.ok z w.drew->z=k:=fun v k z Q h2=>by
   cases v<;>simp [Builtin.lenOf,stuck]at Q h2<;>omega
  exact this _ _ _ Q h2
 subst a3
 have aK:(sizeOf X).run P w=.ok 1 w:=by simp [sizeOf,typeInfo,hi,ax]
 have run:∀{v:Value} {wf:World},(Builtin.append_ #[t,u] o.type #[a.eval x,a.eval y]).run P w=.ok v wf->(execOp a.eval o).run P w=.ok (.value v) wf:=fun {v wf} af=>by
  simp [execOp,ho,resolve,aQ,aC,aR,invoke,builtin,af]
 have fresh:∀(ah:Option Addr) (len cap:Nat) (Z:Block) (Q:Al) (O:Array Value),a.eval x=.slice ah len cap->cap<len+z->len+z<=1048576->(∀(Y:As) (C:Array Value) (I:Nat),BD I=len+z->BD I<=BM I->BM I<=C.size->(∀i,i<BM I->∃x:UInt8,C[i]?=some (.int .u8 x.toNat))->C3 ρ Y Z (some (.cells C X (0,0))) (0,I))->1<=len+z->Av ρ μ h w μ Q w->O.size=len->Fv O.toList->
   (Builtin.firstCells 1 len (.slice ah len cap)).run P w.drew=.ok O w.drew->r=(.gbytes Q.next,Q.add Z)->Ez P ρ μ h a o w (.val r.1 r.2):=fun ah len cap Z Q O e1 bh A aj bA au a2 a5 hO er=>by
  subst er
  obtain ⟨nc,rest,bE,al,a9,af⟩:=DI (P:=P) (ty:=o.type) (O:=O) (L:=L') ht hu hd hi hz ai bh (by rw [ax];exact hO) (by rw [ax];exact bb) hb (by omega)
  have bg:(Value.int .u8 0).cells.size=1:=rfl
  rw [bg,Nat.mul_one]at al
  have br:(O++L'++rest).size=nc:=by simp only [Array.size_append,a2,aO,al];omega
  have aM:Fv (O++L'++rest).toList:=by
   rw [Array.toList_append,Array.toList_append]
   exact (a5.append aW).append (by rw [a9];exact Yp _)
  have V:=Bt (len:=len+z) (cap:=nc) (by omega)
  have ae:=BE (len:=len+z) (cap:=nc) (by omega)
  have aP:=Av.add au.rel.drew Z (.cells (O++L'++rest) X) (0,Oc (len+z) nc) (fun Y bJ=>aj Y _ _ V (by omega) (by omega) fun i hi=>aM.get (by omega))
  refine ⟨.value _,_,_,_,run (by rw [e1];exact af),.inl rfl,(au.trans (Av.drew au.rel)).trans aP,?_⟩
  simp only [Ah]
  exact ⟨_,_,As.BC _ _ _,by rw [V,ae],by omega,by omega⟩
 unfold R8 at B
 split at B
 ·
  rename_i e1
  have aJ:=hx
  rw [e1]at hx
  have e2:a.eval x=.slice none 0 0:=by simpa only [Ah]using hx
  simp only [AA]at B
  split at B
  ·split at B
   ·rename_i h0 Q
    have Q:n=0:=Q
    have hk:z=0:=by omega
    subst hk
    simp only [oI]at B
    subst B
    refine ⟨.value (a.eval x),a.eval x,w,μ,run ?_,.inl rfl,Av.refl H,by rw [e1]at aJ⊢;exact aJ⟩
    rw [e2]
    exact Cn ht hu hd aK ai (by omega) hL rfl
   ·cases B
  ·rename_i h0
   obtain ⟨A,B⟩:=Ap B
   simp only [oI]at B
   have A:=AI.1 A
   exact fresh none 0 0 (.bytes n X) h #[] e2 (by omega) (by omega) (fun Y C I q1 q2 q3 q4=>⟨C,rfl,rfl,by omega,by omega,by omega,q2,q3,q4⟩) (by omega) (Av.refl H) rfl (fun v R=>by cases R) (by simp [Builtin.firstCells]) B.symm
 ·
  rename_i b e1
  rw [e1]at hx
  obtain ⟨r0,m,hm,e2,bK,bH⟩:=hx.gbytes
  have key:∀(B0 Z:Block) (U:Array Value),h.get b=some B0->w.heap[r0]?=some (.cells U X (0,0))->BM m<=U.size->(∀i,i<BM m->∃x:UInt8,U[i]?=some (.int .u8 x.toNat))->BD m+z<=1048576->
    (∀(Y:As) (C:Array Value) (I:Nat),BD I=BD m+z->BD I<=BM I->BM I<=C.size->(∀i,i<BM I->∃x:UInt8,C[i]?=some (.int .u8 x.toNat))->C3 ρ Y Z (some (.cells C X (0,0))) (0,I))->
    r=(.gbytes h.next,(h.set b none).add Z)->Ez P ρ μ h a o w (.val r.1 r.2):=fun B0 Z U M J ak aa A aj er=>by
   by_cases hfit:BD m+z<=BM m
   ·
    obtain ⟨C,bk,bG,ba⟩:=DH (P:=P) L.toList J (p:=BD m) (by simp [aG];omega) (fun v R=>by obtain ⟨x,rfl⟩:=aI v R;rfl)
    have V:=Bt (len:=BD m+z) (cap:=BM m) (by omega)
    have ae:=BE (len:=BD m+z) (cap:=BM m) (by omega)
    have bj:=Av.Ws (w':=w.setRow r0 C) H M hm Z (0,Oc (BD m+z) (BM m)) (fun i hi=>setRow_other _ _ _ _ hi) (by simp) rfl rfl (fun Y bq=>by
     rw [En _ _ _ _ _ _ J]
     refine aj Y C _ V (by omega) (by omega) fun j hj=>?_
     rw [ba]
     split
     ·rename_i a8
      simp only [Array.length_toList,aG]at a8
      obtain ⟨x,hx⟩:=aI.get (i:=j-BD m) (by omega)
      exact ⟨x,by rw [Array.getElem?_toList];exact hx⟩
     ·exact aa j (by omega))
    subst er
    refine ⟨.value _,_,_,_,run (v:=.slice (some ⟨r0,0,none⟩) (BD m+z) (BM m)) ?_,.inl rfl,bj,?_⟩
    ·rw [e2]
     refine Cn ht hu hd aK ai hfit hL ?_
     simp only [Addr.AW,Nat.mul_one,Nat.zero_add]
     exact bk
    ·simp only [Ah]
     exact ⟨_,_,As.BC _ _ _,by rw [V,ae],by omega,by omega⟩
   ·
    have hO:=run_loadCells_list (P:=P) (w:=w.drew) ⟨r0,0,none⟩ (U.toList.take (BD m)) (fun j v R=>by
     rw [Addr.AW]
     show w.cell? _=_
     rw [Cj J,Nat.zero_add]
     rw [List.getElem?_take]at R
     split at R
     ·rw [<-Array.getElem?_toList];exact R
     ·cases R)
    have aH:(U.toList.take (BD m)).length=BD m:=by simp;omega
    rw [aH]at hO
    refine fresh _ _ _ Z (h.set b none) (U.toList.take (BD m)).toArray e2 (by omega) A aj (by omega) (Av.drop H b) (by simpa using aH) ?_ ?_ er
    ·intro v R
     simp only at R
     obtain ⟨j,hj⟩:=List.mem_iff_getElem?.1 R
     rw [List.getElem?_take]at hj
     split at hj
     ·rename_i bF
      obtain ⟨x,hx⟩:=aa j (by omega)
      rw [Array.getElem?_toList,hx]at hj
      simp only [oI]at hj
      exact ⟨x,hj.symm⟩
     ·cases hj
    ·simp [Builtin.firstCells,hO]
  unfold WV at B
  split at B
  ·rename_i mm aq
   obtain ⟨ac,av⟩:=Ap B
   obtain ⟨t',be,ad⟩:=Ac av
   simp only [oI]at ad
   have ac:=An.1 ac
   have M:=NT aq
   rw [ac]at M
   obtain ⟨r1,m1,U,N,J,bn,bl,bm,bc,ak,aa⟩:=H.sbytes M
   rw [hm]at N
   simp only [oI,Prod.mk.injEq,true_and]at N
   obtain ⟨rfl,rfl⟩:=N
   obtain ⟨q,aL,a7⟩:=OS be
   obtain ⟨b1,b2⟩:=H.AJ.facts.C7 _ a7
   have b1:mm.1.den ρ+(q:Int)<=t'.den ρ:=b1
   have b2:t'.den ρ<=1048576:=b2
   have aL:n<=q:=aL
   exact key _ (.sbytes t' X) U M J ak aa (by omega) (fun Y C I g1 g2 g3 g4=>⟨C,rfl,rfl,by omega,by omega,b2,g2,g3,g4⟩) ad.symm
  ·obtain ⟨mm,aq,av⟩:=Ac B
   obtain ⟨an,ad⟩:=Ap av
   simp only [oI]at ad
   rw [aT,An,AI]at an
   obtain ⟨ac,A⟩:=an
   have M:=JK aq
   rw [ac]at M
   obtain ⟨r1,m1,U,N,J,bn,bl,bm,bc,ak,aa⟩:=H.bytes M
   rw [hm]at N
   simp only [oI,Prod.mk.injEq,true_and]at N
   obtain ⟨rfl,rfl⟩:=N
   have A:mm.1+n<=1048576:=A
   exact key _ (.bytes (mm.1+n) X) U M J ak aa (by omega) (fun Y C I g1 g2 g3 g4=>⟨C,rfl,rfl,by omega,by omega,A,g2,g3,g4⟩) ad.symm
 ·cases B
theorem Av.lost {w':World} (H:AD ρ μ h w) {b:Nat} {B0:Block} {r:Nat} {δ:Nat×Nat} (hb:h.get b=some B0) (C:μ b=some (r,δ))
  (J:∀i,i≠r->w'.heap[i]?=w.heap[i]?) (Q:w'.heap.size=w.heap.size) (I:w'.os=w.os) (B:w'.output=w.output):Av ρ μ h w μ (h.set b none) w':=by
 have v:∀c q s A,(h.set b none).get c=some q->μ c=some (s,A)->h.get c=some q/\s≠r:=fun c q s A hc j=>by
  rw [Al.AY]at hc
  split at hc
  ·cases hc
  ·rename_i M
   exact ⟨hc,fun e=>M (H.inj _ _ _ _ _ _ _ hc hb j (e▸C))⟩
 have x:∀s,s<w.heap.size->¬AF μ h s->w'.heap[s]?=w.heap[s]?/\¬AF μ (h.set b none) s:=fun s hs L=>by
  refine ⟨J s fun e=>L ⟨b,B0,δ,hb,e▸C⟩,?_⟩
  rintro ⟨c,q,A,hc,j⟩
  exact L ⟨c,q,A,(v _ _ _ _ hc j).1,j⟩
 refine ⟨μ.le_refl,⟨fun c hc=>H.fresh c hc,fun c q hc=>?_,fun c U B1 R s X V N O m1 m2=>?_,H.FZ x⟩,by omega,x,I,B,Nat.le_refl _,fun _ _=>rfl,fun _ _ h=>.inl h,rfl⟩
 ·have z:=hc
  rw [Al.AY]at z
  split at z
  ·cases z
  ·obtain ⟨s,A,j,P⟩:=H.blk c q z
   exact ⟨s,A,j,by rw [J s (v _ _ _ _ hc j).2];exact P⟩
 ·exact H.inj _ _ _ _ _ _ _ (v _ _ _ _ N m1).1 (v _ _ _ _ O m2).1 m1 m2
theorem Ra (w:World) (r i n:Nat) (j:i≠r):(w.freeze ⟨r,0,none⟩ n).heap[i]?=w.heap[i]?:=by
 unfold World.freeze
 split
 ·rfl
 ·simp only [Array.getElem?_modify]
  rw [if_neg (Ne.symm j)]
theorem SK (w:World) (p:Addr) (n:Nat):(w.freeze p n).heap.size=w.heap.size:=by
 unfold World.freeze
 split<;>simp
theorem Pb (w:World) (p:Addr) (n:Nat):(w.freeze p n).os=w.os/\(w.freeze p n).output=w.output:=by
 unfold World.freeze
 split<;>exact ⟨rfl,rfl⟩
theorem XN {o:Oper} {c:Call} {pt it e:TypeId} {p n:Operand} (ho:o.op=.call c) (ao:c.callee=.builtin .unsafeString) (ag:c.args=#[p,n]) (ap:c.argTypes=#[pt,it])
  (H:AD ρ μ h w) (hT:AP ρ μ tm a) (hp:P.underlying pt=some (.pointer e)) (hc:P.cellsOf e=1) {r:GL} (A:Yu h e (ev tm (A8 p)) (ev tm (A8 n))=some r):Ez P ρ μ h a o w r:=by
 have Z:=Au hT p
 have hy:=Au hT n
 have run:∀{v:Value} {wf:World},(Builtin.unsafeString_ #[pt,it] o.type #[a.eval p,a.eval n]).run P w=.ok v wf->(execOp a.eval o).run P w=.ok (.value v) wf:=fun {v wf} N=>by
  simp [execOp,ho,resolve,ao,ag,ap,invoke,builtin,N]
 unfold Yu at A
 split at A
 ·rename_i e1 e2
  rw [e1]at Z
  rw [e2]at hy
  have f1:a.eval p=.pointer none:=by simpa only [Ah]using Z
  have f2:a.eval n=.int .i64 0:=by have:=hy.int;simpa [ST.den]using this
  simp only [oI]at A
  subst A
  refine ⟨.value (.string .empty),.string .empty,w,μ,run ?_,.inl rfl,Av.refl H,by simp only [Ah];exact ⟨_,rfl,rfl⟩⟩
  rw [f1,f2]
  exact Lib.run_unsafeString_none w pt it o.type none
 ·rename_i b k e1 e2
  rw [e1]at Z
  rw [e2]at hy
  obtain ⟨ac,R⟩:=Ap A
  clear A
  have ac:=An.1 ac
  subst ac
  obtain ⟨nn,blk,z,rfl,M,m1,L,I,B,Y,V,ad,U,X,O⟩:∃(nn:Nat) (blk:Block),h.get b=some blk/\r=.val (.anyStr nn) (h.set b none)/\∃M m1 L,μ b=some (M,0,m1)/\w.heap[M]?=some (.cells L e (0,0))/\1<=BD m1/\BD m1<=nn/\nn<=1048576/\BD m1<=BM m1/\BM m1<=L.size/\∀i,i<BM m1->∃x:UInt8,L[i]?=some (.int .u8 x.toNat):=by
   unfold AdA at R
   split at R
   ·rename_i sm Q
    obtain ⟨C,A⟩:=Ap R
    have C:=An.1 C
    simp only [oI]at A
    have z:h.get b=some (.sbytes sm.1 sm.2):=by
     unfold He at Q
     split at Q
     ·rename_i t' e' hb
      simp only [oI]at Q
      rw [hb,<-Q]
     ·cases Q
    rw [C]at z
    obtain ⟨M,⟨δ1,m1⟩,I,L,B,h0,Y,V,ad,U,X,O⟩:=H.blk b _ z
    have h0:δ1=0:=h0
    subst h0
    have V:(BD m1:Int)<=sm.1.den ρ:=V
    exact ⟨1048576,_,z,A.symm,M,m1,L,I,B,Y,by omega,Nat.le_refl _,U,X,O⟩
   ·obtain ⟨m,hm,ah⟩:=Ac R
    unfold AdB at ah
    obtain ⟨C,A⟩:=Ap ah
    have C:=An.1 C
    simp only [oI]at A
    have z:=JK hm
    rw [C]at z
    obtain ⟨M,m1,L,I,B,Y,V,ad,U,X,O⟩:=H.bytes z
    exact ⟨m.1,_,z,A.symm,M,m1,L,I,B,Y,V,ad,U,X,O⟩
  clear R
  obtain ⟨r2,δ2,m2,ab,f1⟩:=Z.ptr
  rw [I]at ab
  simp only [oI,Prod.mk.injEq]at ab
  obtain ⟨rfl,rfl,rfl⟩:=ab
  obtain ⟨r3,m3,aa,f2⟩:=hy.glen
  rw [I]at aa
  simp only [oI,Prod.mk.injEq,true_and]at aa
  obtain ⟨rfl,rfl⟩:=aa
  obtain ⟨l,hl1,hl2⟩:∃l:List UInt8,l.length=BD m1/\∀(j:Nat) (x:UInt8),l[j]?=some x->L[j]?=some (Value.int .u8 (x.toNat:Int)):=by
   have:∀q,q<=BM m1->∃l:List UInt8,l.length=q/\∀(j:Nat) (x:UInt8),l[j]?=some x->L[j]?=some (Value.int .u8 (x.toNat:Int)):=fun q=>by
    induction q with
    |zero=>exact fun _=>⟨[],rfl,fun j x J=>by simp at J⟩
    |succ q ih=>
     intro hq
     obtain ⟨l,h1,h2⟩:=ih (by omega)
     obtain ⟨x,Z⟩:=O q (by omega)
     refine ⟨l++[x],by simp [h1],fun j y J=>?_⟩
     rw [List.getElem?_append]at J
     split at J
     ·exact h2 j y J
     ·rename_i aE
      have ax:j=q:=by
       have:=(List.getElem?_eq_some_iff.1 J).1
       simp at this;omega
      subst ax
      rw [h1]at J
      simp at J
      subst J
      exact Z
   exact this _ U
  have N:=Lib.run_unsafeString_row (P:=P) w pt it o.type e hp hc M L.size (by simp [World.shape?,B]) l (by rintro rfl;simp at hl1;omega) (by omega) (by omega) (fun j x J=>by
   rw [Addr.AW,Cj B,Nat.zero_add]
   exact hl2 j x J)
  rw [hl1]at N
  have hg:Av ρ μ h w μ (h.set b none) (w.freeze ⟨M,0,none⟩ (BD m1)):=Av.lost H z I (fun i hi=>Ra w M i _ hi) (SK w _ _) (Pb w _ _).1 (Pb w _ _).2
  refine ⟨.value (.string ⟨l.toArray⟩),_,_,μ,run ?_,.inl rfl,hg,?_⟩
  ·rw [f1,f2];exact N
  ·simp only [Ah]
   exact ⟨_,rfl,by simp [ByteArray.size,hl1];omega,by simp [ByteArray.size,hl1];omega⟩
 ·cases A
end
end
section
section
variable {P:Program} {Γ:Ao} {ρ:Env} {μ:As} {tm:Tr Ab} {a:Act} {w:World} {h:Al}
theorem Ij.one {AQ:Nat->Option Obj} {p:PV} {v:Value} (h:Ij AQ p v):v.oneCell'=true:=by
 cases p<;>simp only [Ij]at h
 case bool|int|nilp=>subst h;rfl
 case str=>obtain ⟨_,rfl,_⟩:=h;rfl
 case list=>
  obtain ⟨_,_,⟨_,_,rfl⟩|⟨_,_,_,_,rfl,_⟩⟩:=h<;>rfl
theorem AG.one {AQ:Nat->Option Obj} {c:Array Value}:∀{ps:List PV} {δ:Nat},AG AQ c δ ps->∀k v,k<ps.length->c[δ+k]?=some v->v.oneCell'=true
 |[],_,_,k,v,hk,_=>by simp at hk
 |p::ps,δ,h,k,v,hk,hv=>by
  simp only [AG]at h
  obtain ⟨⟨u,q,x⟩,j⟩:=h
  cases k with
  |zero=>
   rw [Nat.add_zero,q]at hv
   simp only [oI]at hv
   subst hv
   exact x.one
  |succ k=>exact AG.one j k v (by simpa using hk) (by rw [show δ+1+k=δ+(k+1) by omega];exact hv)
theorem Q9 (H:AD ρ μ h w) {f:Bool} {i z:Nat} {t:ST} {u:Value} (R:Ah ρ μ (.lst f i z t) u):
  (Builtin.lenOf u).run P w=.ok (ρ.lst i).length w/\∃L:Array Value,(Builtin.firstCells z (ρ.lst i).length u).run P w=.ok L w/\AG μ.AQ L 0 (ρ.lst i).flatten/\((ρ.lst i).length≠0->(∀p∈ρ.lst i,p.length=z)/\L.size=(ρ.lst i).length*z):=by
 obtain ⟨p,c,rfl,_,_,U⟩:=R.D7
 refine ⟨by simp [Builtin.lenOf],?_⟩
 by_cases hz:(ρ.lst i).length=0
 ·have I:ρ.lst i=[]:=List.eq_nil_of_length_eq_zero hz
  refine ⟨#[],?_,by rw [I];simp only [List.flatten_nil,AG],fun h=>absurd hz h⟩
  rw [hz]
  cases p<;>simp [Builtin.firstCells,loadCells,loadCellsFrom]
 ·obtain ⟨r,δ,a,e,rfl,k1,Q⟩:=U hz
  obtain ⟨_,k1⟩:=k1
  have J:=(H.AJ.AQ _ _ k1).1
  have x:=Bx.1 Q
  obtain ⟨l,A,C,M⟩:=x.2.values
  have B:=B9 x.1
  have N:=run_loadCells_list (P:=P) (w:=w) ⟨r,δ,none⟩ l (fun j v O=>by
   rw [Addr.AW]
   show w.cell? _=_
   rw [Cj J];exact C j v O)
  rw [A,B]at N
  refine ⟨l.toArray,by simp [Builtin.firstCells,N],AG.congr (fun q V=>?_) x.2,fun _=>⟨x.1,by simp [A,B]⟩⟩
  have:=M q V
  simpa using this.symm
theorem Bv.split:∀{p q:List AE} {l:List (List PV)},Bv ρ (p++q) l->∃x y,l=x++y/\Bv ρ p x/\Bv ρ q y
 |[],q,l,h=>⟨[],l,rfl,rfl,h⟩
 |z::p,q,l,h=>by
  obtain ⟨x,y,rfl,B,H⟩:=h
  obtain ⟨j,v,rfl,A,C⟩:=Bv.split H
  exact ⟨x++j,v,(List.append_assoc _ _ _).symm,⟨x,j,rfl,B,A⟩,C⟩
theorem Bv.single {p:AE} {l:List (List PV)} (h:Bv ρ [p] l):Ft ρ p l:=by
 obtain ⟨x,y,rfl,q,j⟩:=h
 have j:y=[]:=j
 subst j
 rw [List.append_nil];exact q
theorem Up {y:Ab} {bytes:Bool} {l:Nat×Nat×ST} (h:Wn y bytes=some l):∃f,y=.lst f l.1 l.2.1 l.2.2:=by
 unfold Wn at h
 split at h
 ·cases h
 ·simp only [oI]at h
  subst h
  exact ⟨_,rfl⟩
 ·cases h
theorem Rr {o:Oper} {c:Call} {t u e:TypeId} {d:TypeDesc} {x y:Operand} (ho:o.op=.call c) (aN:c.callee=.builtin .append) (av:c.args=#[x,y]) (aP:c.argTypes=#[t,u])
  (H:AD ρ μ h w) (hT:AP ρ μ tm a) (ht:P.underlying t=some (.slice e)) (hu:P.underlying u=some d) (hd:E2 d) {i:TypeInfo} (hi:P.info? e=some i) (hb:i.bytes<=1048576) (hz:(i.zero.map fun v=>Nat.beq v.cells.size i.size).getD false=true)
  {bytes:Bool} {l:Nat×Nat×ST} (hs:Wn (ev tm (A8 y)) bytes=some l) {r:Ab×Al} (hr:LA h i.size (ev tm (A8 x)) l.1 l.2.1 l.2.2=some r):Ez P ρ μ h a o w (.val r.1 r.2):=by
 have Z:=Au hT x
 have hy:=Au hT y
 obtain ⟨z,hz,hzs⟩:∃z,i.zero=some z/\z.cells.size=i.size:=by
  cases e:i.zero with
  |none=>rw [e]at hz;simp at hz
  |some z=>rw [e]at hz;exact ⟨z,rfl,An.1 (by simpa using hz)⟩
 obtain ⟨li,es,nt⟩:=l
 obtain ⟨f,e0⟩:=Up hs
 have e0:ev tm (A8 y)=.lst f li es nt:=e0
 rw [e0]at hy
 have hr:LA h i.size (ev tm (A8 x)) li es nt=some r:=hr
 unfold LA at hr
 by_cases hg:(Nat.beq i.size es&&Cz h.fx .gtr nt (.lit (.ofNat 0)))=false
 ·
  rw [hg]at hr
  obtain ⟨hc,aw⟩:=Ap (show (bif Nat.beq i.size es&&Cz h.fx .leq nt (.lit (.ofNat 0))then L9 (ev tm (A8 x)) h else none)=some r from hr)
  rw [aT,An]at hc
  obtain ⟨U,ai⟩:=hc
  have V:(ρ.lst li).length=0:=by
   have h1:=ER H.AJ.facts ai
   have h2:nt.den ρ=((ρ.lst li).length:Int):=hy.lst.2.1
   simp only [ST.den,Int.ofNat_eq_natCast]at h1
   omega
  obtain ⟨q,c',N,_,_⟩:=hy.D7
  refine Ed ho aN av aP H hT ht hu hd hi hb (by rw [hz];exact An.2 hzs) (n:=0) (new:=[]) (fun w' _=>⟨?_,by simp,#[],?_,by simp [Aw]⟩) (r:=r) (by unfold Gz;rw [AA,if_pos rfl];exact aw)
  ·rw [N];simp [Builtin.lenOf,V]
  ·rw [N,V];cases q<;>simp [Builtin.firstCells,loadCells,loadCellsFrom]
 rw [Bool.not_eq_false]at hg
 rw [hg]at hr
 obtain ⟨_,aw⟩:=Ap (c:=true) hr
 have hc:=hg
 obtain ⟨p,A,bb⟩:=Ac aw
 obtain ⟨j,hj,bh⟩:=Ac bb
 obtain ⟨tt,b2,a8⟩:=Ac bh
 obtain ⟨ai,C⟩:=Ap a8
 simp only [oI]at C
 clear hr aw bb bh a8
 rw [aT,An]at hc
 obtain ⟨U,bH⟩:=hc
 have hΓ:=H.AJ.facts
 have bP:nt.den ρ=((ρ.lst li).length:Int):=hy.lst.2.1
 have bC:0<(ρ.lst li).length:=by
  have:=U6 hΓ bH
  simp only [ST.den,Int.ofNat_eq_natCast]at this
  omega
 have b9:tt.den ρ<=1048576:=by
  have:=ER hΓ ai
  simpa [ST.den]using this
 have bk:tt.den ρ=((ρ.lst j).length:Int):=hΓ.Br _ (Cw b2)
 obtain ⟨M,Y0,bc,Q,bg⟩:=Bv.split (hΓ.defs _ (EJ hj))
 have b0:Y0=ρ.lst li:=Bv.single bg
 clear bg
 subst b0
 have ej:ρ.lst j=M++ρ.lst li:=bc
 clear bc
 subst U
 obtain ⟨aF,L,hL,aH,bq⟩:=Q9 (P:=P) H hy
 obtain ⟨af,a4⟩:=bq (by omega)
 obtain ⟨_,L',bo,aL,aQ⟩:=Q9 (P:=P) H.drew hy
 obtain ⟨_,aM⟩:=aQ (by omega)
 clear bq aQ
 generalize hBg:ρ.lst li=B at bC bP ej aF hL aH af a4 bo aL aM
 have bO:(sizeOf e).run P w=.ok i.size w:=by simp [sizeOf,typeInfo,hi]
 have run:∀{v:Value} {wf:World},(Builtin.append_ #[t,u] o.type #[a.eval x,a.eval y]).run P w=.ok v wf->(execOp a.eval o).run P w=.ok (.value v) wf:=fun {v wf} ao=>by
  simp [execOp,ho,resolve,aN,av,aP,invoke,builtin,ao]
 have J:∀(an:Option Addr) (len cap:Nat) (h1:Al) (X:List (List PV)) (O:Array Value),a.eval x=.slice an len cap->cap<len+B.length->Av ρ μ h w μ h1 w->M=X->X.length=len->(∀p∈X,p.length=i.size)->
   (Builtin.firstCells i.size len (.slice an len cap)).run P w.drew=.ok O w.drew->O.size=len*i.size->AG μ.AQ O 0 X.flatten->r=(.vec h1.next i.size tt,h1.add (.list j i.size))->Ez P ρ μ h a o w (.val r.1 r.2):=fun an len cap h1 X O e1 b3 aJ bL ax ac Y bK hX er=>by
  subst er
  subst bL
  have ae:(ρ.lst j).length=len+B.length:=by rw [ej,lA];omega
  obtain ⟨nc,rest,a3,a1,_,ao⟩:=DI (P:=P) (ty:=o.type) (O:=O) (L:=L') ht hu hd hi hz aF b3 Y bo hb (by omega)
  have bz:(O++L'++rest).size=nc*i.size:=by
   simp only [Array.size_append,bK,aM,a1,hzs]
   rw [<-Nat.add_mul,<-Nat.add_mul]
   congr 1;omega
  have cg:M.flatten.length=len*i.size:=by rw [B9 ac,ax]
  have b4:B.flatten.length=B.length*i.size:=B9 af
  have aq:BF μ.AQ i.size (O++L'++rest) 0 (ρ.lst j):=by
   rw [Bx]
   refine ⟨fun p A=>?_,?_⟩
   ·rw [ej,List.mem_append]at A
    exact A.elim (ac p) (af p)
   ·rw [ej,List.flatten_append,AG.append_iff]
    refine ⟨AG.congr (fun k hk=>?_) hX,AG.congr (fun k hk=>?_) aL⟩
    ·rw [Array.append_assoc,Array.getElem?_append_left (by omega)]
    ·rw [Array.append_assoc,Array.getElem?_append_right (by omega),Array.getElem?_append_left (by omega)]
     congr 1;omega
  have bB:=Av.add aJ.rel.drew (.list j i.size) (.cells (O++L'++rest) e) (0,Oc (len+B.length) nc) (fun μ' ai=>by
   refine ⟨_,e,rfl,rfl,?_,?_,?_,?_,BF.mono ai.AQ aq⟩
   ·rw [Bt (by omega)];omega
   ·rw [Bt (by omega)];omega
   ·rw [Bt (by omega),BE (by omega)];exact a3
   ·rw [BE (by omega),bz];exact Nat.le_refl _)
  refine ⟨.value _,_,_,_,run (by rw [e1];exact ao),.inl rfl,(aJ.trans (Av.drew aJ.rel)).trans bB,?_⟩
  simp only [Ah]
  refine ⟨_,_,len+B.length,As.BC _ _ _,?_,?_,?_,?_⟩
  ·rw [BE (by omega)]
  ·rw [bk,ae]
  ·rw [Bt (by omega)];exact Nat.le_refl _
  ·rw [Bt (by omega),BE (by omega)];exact a3
 unfold Pw at A
 split at A
 ·
  rename_i e1
  simp only [oI]at A
  subst A
  have Q:M=[]:=Q
  rw [e1]at Z C
  have N:a.eval x=.slice none 0 0:=by simpa only [Ah]using Z
  exact J none 0 0 h [] #[] N (by omega) (Av.refl H) Q rfl (fun _ R=>by cases R) (by simp [Builtin.firstCells]) (by simp) (by simp only [List.flatten_nil,AG]) C.symm
 ·
  rename_i b co len cap e1
  obtain ⟨aE,bn⟩:=Ap A
  clear A
  have a5:=An.1 aE
  clear aE
  subst a5
  have A:=bn
  clear bn
  have bN:=Z
  rw [e1]at Z C
  obtain ⟨r0,δ,m,hm,N,_⟩:=Z.slice
  rw [AA]at A
  split at A
  ·rename_i aB
   subst aB
   simp only [oI]at A
   subst A
   have Q:M=[]:=Q
   exact J _ 0 0 h [] #[] N (by omega) (Av.refl H) Q rfl (fun _ R=>by cases R) (by simp [Builtin.firstCells,loadCells,loadCellsFrom]) (by simp) (by simp only [List.flatten_nil,AG]) C.symm
  ·rename_i aB
   obtain ⟨s,aI,A⟩:=Ac A
   obtain ⟨cd,A⟩:=Ap A
   obtain ⟨cs,bl,A⟩:=Ac A
   simp only [oI]at A
   subst A
   have ab:DT ρ cs M:=Bv.single Q
   obtain ⟨c1,c2,c3⟩:=DA bl
   obtain ⟨f1,f2,f3⟩:=DT.flat ab
   have b1:Jh h i.size false (ev tm (A8 x))=some s:=by rw [e1];exact aI
   obtain ⟨_,a0,O,Y,au⟩:=Da (P:=P) (w:=w.drew) H.drew bN (n:=s.1) (cs:=s.2) b1
   have bM:s.1=len:=by
    have I:=aI
    unfold LV at I
    rw [AA,if_neg aB]at I
    obtain ⟨_,_,I⟩:=Ac I
    obtain ⟨_,_,I⟩:=Ac I
    simp only [oI]at I;rw [<-I]
   rw [bM]at a0 Y
   rw [N]at Y
   rw [c1]at f1
   refine J _ _ _ h M O N (by omega) (Av.refl H) rfl (by omega) (f3 _ c3) Y ?_ ?_ C.symm
   ·have:=au.length;simp at this;omega
   ·exact Aw.freeze f1 au fun q v hv=>by simpa using hv
 ·
  rename_i k ba m e1
  obtain ⟨U,A⟩:=Ap A
  simp only [oI]at A
  subst A
  have U:=An.1 U
  subst U
  have ab:M=ρ.lst k:=Bv.single Q
  rw [e1]at Z C
  obtain ⟨_,_,aZ⟩:=Z.lst
  obtain ⟨q,N⟩:=aZ rfl
  obtain ⟨_,O,Y,bQ,bX⟩:=Q9 (P:=P) H.drew Z
  rw [N]at Y
  by_cases V:(ρ.lst k).length=0
  ·have aC:ρ.lst k=[]:=List.eq_nil_of_length_eq_zero V
   refine J _ _ _ h (ρ.lst k) #[] N (by omega) (Av.refl H) ab rfl (fun q R=>by rw [aC]at R;cases R) ?_ (by simp [V]) (by rw [aC];simp only [List.flatten_nil,AG]) C.symm
   rw [V]
   cases q<;>simp [Builtin.firstCells,loadCells,loadCellsFrom]
  ·obtain ⟨h2,h3⟩:=bX V
   exact J _ _ _ h (ρ.lst k) O N (by omega) (Av.refl H) ab rfl h2 Y h3 bQ C.symm
 ·
  rename_i b ba m e1
  obtain ⟨⟨bi,bV⟩,a7,A⟩:=Ac A
  obtain ⟨a6,A⟩:=Ap A
  simp only [oI]at A
  subst A
  rw [aT,An,An]at a6
  obtain ⟨U,al⟩:=a6
  have al:bV=ba:=al
  subst al
  subst U
  have ab:Ft ρ (.take bi m) M:=Bv.single Q
  rw [e1]at Z C
  have C:(Ab.vec h.next i.size tt,(h.set b none).add (.list j i.size))=r:=C
  obtain ⟨r0,m0,k,hm,N,hk,ci,a5⟩:=Z.vec
  obtain ⟨r1,⟨δ1,m1⟩,aK,c0,ty,ap,h0,h1,h2,h3,h4,h5⟩:=H.blk b _ (CU a7)
  rw [hm]at aK
  simp only [oI,Prod.mk.injEq]at aK
  obtain ⟨rfl,rfl,rfl⟩:=aK
  have h1:(ρ.lst bi).length<=BD m0:=h1
  have h4:BM m0*i.size<=c0.size:=h4
  have h5:BF μ.AQ i.size c0 0 (ρ.lst bi):=h5
  obtain ⟨_,bm,ah⟩:=ab
  have bm:k<=(ρ.lst bi).length:=by rw [hk]at bm;omega
  have ah:M=(ρ.lst bi).take k:=by rw [ah,hk];rfl
  have ac:∀p∈M,p.length=i.size:=fun p A=>(Bx.1 h5).1 p (List.mem_of_mem_take (by rw [ah]at A;exact A))
  have ax:M.length=k:=by rw [ah,lT'];omega
  have hX:AG μ.AQ c0 0 M.flatten:=by
   have:=(Bx.1 h5).2
   rw [<-List.take_append_drop k (ρ.lst bi),List.flatten_append,AG.append_iff]at this
   rw [ah];exact this.1
  have bj:M.flatten.length=k*i.size:=by rw [B9 ac,ax]
  by_cases hfit:k+B.length<=BM m0
  ·
   have ae:(ρ.lst j).length=k+B.length:=by rw [ej,lA];omega
   have bE:(k+B.length)*i.size<=BM m0*i.size:=Nat.mul_le_mul_right _ hfit
   rw [Nat.add_mul]at bE
   have b4:B.flatten.length=B.length*i.size:=B9 af
   have cp:L.toList.length=B.length*i.size:=by simpa using a4
   have bG:∀v∈L.toList,v.oneCell'=true:=fun v hv=>by
    obtain ⟨q,R⟩:=List.mem_iff_getElem?.1 hv
    have cj:=(List.getElem?_eq_some_iff.1 R).1
    exact aH.one q v (by omega) (by rw [Nat.zero_add,<-Array.getElem?_toList];exact R)
   obtain ⟨c',b5,bl,be⟩:=DH (P:=P) L.toList ap (p:=k*i.size) (by omega) bG
   have aq:BF μ.AQ i.size c' 0 (ρ.lst j):=by
    rw [Bx]
    refine ⟨fun p A=>?_,?_⟩
    ·rw [ej,List.mem_append]at A
     exact A.elim (ac p) (af p)
    ·rw [ej,List.flatten_append,AG.append_iff]
     refine ⟨AG.congr (fun q R=>?_) hX,AG.congr (fun q R=>?_) aH⟩
     ·rw [be,if_neg (by omega)]
     ·rw [be,if_pos (by omega),<-Array.getElem?_toList]
      congr 1;omega
   have bW:=Av.Ws (w':=w.setRow r0 c') H (CU a7) hm (.list j i.size) (0,Oc (k+B.length) (BM m0)) (fun i hi=>setRow_other _ _ _ _ hi) (by simp) rfl rfl (fun μ' bx=>by
    rw [En _ _ _ _ _ _ ap]
    refine ⟨c',ty,rfl,rfl,?_,?_,?_,?_,BF.mono bx.AQ aq⟩
    ·rw [Bt (by omega)];omega
    ·rw [Bt (by omega)];omega
    ·rw [Bt (by omega),BE (by omega)];exact hfit
    ·rw [BE (by omega)];omega)
   subst C
   refine ⟨.value _,_,_,_,run (v:=.slice (some ⟨r0,0,none⟩) (k+B.length) (BM m0)) ?_,.inl rfl,bW,?_⟩
   ·rw [N]
    refine Cn ht hu hd bO aF hfit hL ?_
    simp only [Addr.AW,Nat.zero_add]
    exact b5
   ·simp only [Ah]
    refine ⟨_,_,k+B.length,As.BC _ _ _,?_,?_,?_,?_⟩
    ·rw [BE (by omega)]
    ·rw [bk,ae]
    ·rw [Bt (by omega)];exact Nat.le_refl _
    ·rw [Bt (by omega),BE (by omega)];exact hfit
  ·
   obtain ⟨l,a9,bD,bv⟩:=hX.values
   have Y:=run_loadCells_list (P:=P) (w:=w.drew) ⟨r0,0,none⟩ l (fun j v hv=>by
    rw [Addr.AW]
    show w.cell? _=_
    rw [Cj ap];exact bD j v hv)
   rw [a9,bj]at Y
   refine J _ _ _ (h.set b none) M l.toArray N (by omega) (Av.drop H b) rfl ax ac (by simp [Builtin.firstCells,Y]) (by simp [a9,bj]) (AG.congr (fun q R=>?_) hX) ?_
   ·have:=bv q R
    simpa using this.symm
   ·rw [<-C];rfl
 ·cases A
end
end
section
theorem HZ (b off len es j:Nat) (v:Ab) (r:List Ab):Lx b off len es j (v::r)=UO b off len es j v::Lx b off len es j r:=rfl
theorem MX {b off len es j:Nat}:∀{l:List Ab} {i:Nat},(Lx b off len es j l)[i]?=(l[i]?).map (UO b off len es j)
 |[],i=>by show ([]:List Ab)[i]?=_;simp
 |v::r,i=>by
  rw [HZ]
  cases i with
  |zero=>simp
  |succ i=>simpa using MX (l:=r) (i:=i)
def As.Ee (μ:As) (r:Nat) (o:Option Obj):As:=⟨μ.spot,fun g=>if g=r then o else μ.AQ g⟩
section
variable {ρ:Env} {μ:As} {w:World} {h:Al} {b off len es j:Nat}
theorem As.J0 {r:Nat} {o:Option Obj} (j:∀x,μ.AQ r=some x->o=some x):μ.le (μ.Ee r o):=
 ⟨fun _ _ e=>e,fun g x e=>by
  show (if g=r then o else μ.AQ g)=some x
  by_cases hg:g=r
  ·subst hg;rw [if_pos rfl];exact j x e
  ·rw [if_neg hg];exact e⟩
structure Frz (ρ:Env) (μ:As) (b off len es j r δ m:Nat) (c:Array Value) (e:TypeId):Prop where
 spot:μ b=some (r,δ,m)
 len:(ρ.lst j).length=len
 AQ:μ.AQ r=some (.cells c e (0,0))
 rep:BF μ.AQ es c (δ+off) (ρ.lst j)
theorem Hr {r δ m:Nat} {c:Array Value} {e:TypeId} (F:Frz ρ μ b off len es j r δ m c e) {v:Ab} {u:Value} (A:Ah ρ μ v u):Ah ρ μ (UO b off len es j v) u/\(UO b off len es j v).single=v.single:=by
 have key:∀(cap:Nat),u=.slice (some ⟨r,δ+off,none⟩) len cap->len<=cap->Ah ρ μ (.lst false j es (.lit (.ofNat len))) u:=fun cap L hc=>by
  simp only [Ah,Ij]
  refine ⟨⟨cap,by rw [F.len];exact hc,.inr ⟨r,δ+off,c,e,by rw [F.len];exact L,⟨_,F.AQ⟩,F.rep⟩⟩,?_,fun e=>by cases e⟩
  rw [F.len];rfl
 unfold UO
 split
 ·rename_i C q z cap
  cases hc:Nat.beq b C&&(Nat.beq off q&&Nat.beq len z)with
  |false=>exact ⟨A,rfl⟩
  |true=>
   rw [aT,aT,An,An,An]at hc
   obtain ⟨rfl,rfl,rfl⟩:=hc
   obtain ⟨N,O,M,x,B,H⟩:=A.slice
   rw [F.spot]at x
   simp only [oI,Prod.mk.injEq]at x
   obtain ⟨rfl,rfl,rfl⟩:=x
   refine ⟨?_,rfl⟩
   have I:=key cap B H
   simp only [Ah]at I⊢
   obtain ⟨J,P,_⟩:=I
   refine ⟨J,P,fun e=>?_⟩
   have e:=An.1 e
   exact ⟨_,by rw [F.len];rw [B,e]⟩
 ·rename_i C q z Q
  cases hc:Nat.beq b C&&(Nat.beq off q&&Nat.beq len z)with
  |false=>exact ⟨A,rfl⟩
  |true=>
   rw [aT,aT,An,An,An]at hc
   obtain ⟨rfl,rfl,rfl⟩:=hc
   obtain ⟨N,O,M,cap,x,B,H,_⟩:=A.gslice
   rw [F.spot]at x
   simp only [oI,Prod.mk.injEq]at x
   obtain ⟨rfl,rfl,rfl⟩:=x
   exact ⟨key cap B H,rfl⟩
 ·exact ⟨A,rfl⟩
theorem QY {r δ m:Nat} {c:Array Value} {e:TypeId} (F:Frz ρ μ b off len es j r δ m c e):∀{l:List Ab} {us:List Value},Aw ρ μ l us->Aw ρ μ (Lx b off len es j l) us
 |[],us,h=>h
 |v::l,us,h=>by
  rw [HZ]
  simp only [Aw]at h⊢
  obtain ⟨u,rest,rfl,⟨x,z⟩,q⟩:=h
  obtain ⟨k1,A⟩:=Hr F z
  exact ⟨u,rest,rfl,⟨by rw [A];exact x,k1⟩,QY F q⟩
theorem Fk {o:Option Bool}:Dh o=true↔o=some true:=by
 unfold Dh
 split
 ·simp
 ·rename_i h
  constructor
  ·intro e;cases e
  ·intro e;exact absurd e h
theorem MW {Γ:Ao} (hΓ:Γ.AB ρ) {vs:List Ab} (I:Pa Γ off len es j vs=true):∃cs,cut vs off (len*es)=some cs/\(ρ.lst j).length=len/\(∀p∈ρ.lst j,p.length=es)/\C8 ρ (CF cs) (ρ.lst j).flatten:=by
 unfold Pa at I
 obtain ⟨cs,H,z⟩:=Ac (Fk.1 I)
 obtain ⟨_,C⟩:=Ap z
 obtain ⟨E,N,L⟩:=Ac C
 obtain ⟨j',M,q⟩:=Ac L
 simp only [oI]at q
 have q:=An.1 q
 subst q
 obtain ⟨P,V,Q⟩:=DA N
 obtain ⟨A,B,v,R,x⟩:=hΓ.defs _ (EJ M)
 have x:B=[]:=x
 subst x
 rw [List.append_nil]at v
 have v:ρ.lst j'=A:=v
 subst v
 obtain ⟨J,U,O⟩:=DT.flat R
 exact ⟨cs,H,by omega,O es Q,by rw [P]at J;exact J⟩
theorem Nu {vs cs:List Ab} {c:Array Value} {δ n:Nat} (hc:∀(i:Nat) (x:Ab),vs[i]?=some x->∃v,c[δ+i]?=some v/\x.single=true/\Ah ρ μ x v) (j:cut vs off n=some cs) {ps:List PV} (hd:C8 ρ (CF cs) ps):AG μ.AQ c (δ+off) ps:=by
 obtain ⟨l,B,z,A⟩:=D9 hc j
 exact Aw.freeze hd z fun i v q=>A i v q
theorem XO (H:AD ρ μ h w) {B0:Block} {r:Nat} {O:Nat×Nat} (hb:h.get b=some B0) (Q:μ b=some (r,O)):
  AD ρ (μ.Ee r w.heap[r]?) (h.set b none) w/\Av ρ μ h w (μ.Ee r w.heap[r]?) (h.set b none) w:=by
 have z:AF μ h r:=⟨b,_,O,hb,Q⟩
 have L:∀x,μ.AQ r=some x->w.heap[r]?=some x:=fun x U=>absurd z (H.AJ.AQ r x U).2
 have C:μ.le (μ.Ee r w.heap[r]?):=As.J0 L
 have v:∀d B,(h.set b none).get d=some B->h.get d=some B/\d≠b:=fun d B hd=>by
  have hd:(Tr.set h.DE b none).get d=some B:=hd
  rw [Tr.AY]at hd
  by_cases e:d=b
  ·rw [if_pos e]at hd;cases hd
  ·rw [if_neg e]at hd;exact ⟨hd,e⟩
 have j:∀s,AF (μ.Ee r w.heap[r]?) (h.set b none) s->AF μ h s/\s≠r:=fun s ⟨d,B,x,I,A⟩=>by
  obtain ⟨k1,P⟩:=v d B I
  exact ⟨⟨d,B,x,k1,A⟩,fun e=>P (H.inj _ _ _ _ _ _ _ k1 hb A (e▸Q))⟩
 have N:AD ρ (μ.Ee r w.heap[r]?) (h.set b none) w:=by
  refine ⟨fun d hd=>H.fresh d hd,fun d B hd=>?_,fun d Y B X s x Z I A m1 m2=>?_,⟨fun g o hg=>?_,fun g o hg=>?_,H.AJ.facts⟩⟩
  ·obtain ⟨k1,P⟩:=v d B hd
   obtain ⟨s,x,R,V⟩:=H.blk d B k1
   exact ⟨s,x,R,V.mono C⟩
  ·exact H.inj _ _ _ _ _ _ _ (v _ _ I).1 (v _ _ A).1 m1 m2
  ·obtain ⟨M,J⟩:=H.AJ.AJ g o hg
   exact ⟨M,fun e=>J (j g e).1⟩
  ·have hg:(if g=r then w.heap[r]? else μ.AQ g)=some o:=hg
   by_cases e:g=r
   ·subst e
    rw [if_pos rfl]at hg
    exact ⟨hg,fun q=>(j _ q).2 rfl⟩
   ·rw [if_neg e]at hg
    obtain ⟨M,J⟩:=H.AJ.AQ g o hg
    exact ⟨M,fun q=>J (j g q).1⟩
 refine ⟨N,⟨C,N,Nat.le_refl _,fun s _ hs=>⟨rfl,fun q=>hs (j s q).1⟩,rfl,rfl,Nat.le_refl _,fun _ _=>rfl,fun g o hg=>?_,rfl⟩⟩
 have hg:(if g=r then w.heap[r]? else μ.AQ g)=some o:=hg
 by_cases e:g=r
 ·subst e;exact .inr (.inl z)
 ·rw [if_neg e]at hg;exact .inl hg
theorem N0 (H:AD ρ μ h w) (z:Nat×Nat×Nat×Nat×Nat) (new:List Ab):
  ∃q,AD ρ q (EW h z new).1 w/\Av ρ μ h w q (EW h z new).1 w/\∀us,Aw ρ μ new us->Aw ρ q (EW h z new).2 us:=by
 have same:∃q,AD ρ q h w/\Av ρ μ h w q h w/\∀us,Aw ρ μ new us->Aw ρ q new us:=⟨μ,H,Av.refl H,fun _ h=>h⟩
 unfold EW
 split
 case h_2=>exact same
 rename_i vs hb
 cases hk:Pa h.fx z.2.1 z.2.2.1 z.2.2.2.1 z.2.2.2.2 vs with
 |false=>exact same
 |true=>
 simp only [cond_true]
 obtain ⟨b,off,len,es,j⟩:=z
 simp only at hb hk⊢
 obtain ⟨cs,J,I,L,hd⟩:=MW H.AJ.facts hk
 obtain ⟨r,⟨δ,m⟩,A,c,t,M,Q,hc⟩:=H.blk b _ hb
 obtain ⟨P,N⟩:=XO H hb A
 have B:AF μ h r:=⟨b,_,(δ,m),hb,A⟩
 have v:μ.le (μ.Ee r w.heap[r]?):=As.J0 fun x O=>absurd B (H.AJ.AQ r x O).2
 have C:AG μ.AQ c (δ+off) (ρ.lst j).flatten:=Nu hc J hd
 have Z:Frz ρ (μ.Ee r w.heap[r]?) b off len es j r δ m c t:=by
  refine ⟨A,I,?_,?_⟩
  ·show (if r=r then w.heap[r]? else μ.AQ r)=_
   rw [if_pos rfl];exact M
  ·exact BF.mono v.AQ (Bx.2 ⟨L,C⟩)
 exact ⟨_,P,N,fun us h=>QY Z (h.mono v)⟩
theorem HE:∀(l:List (Nat×Nat×Nat×Nat×Nat)) {μ:As} {h:Al} (new:List Ab),AD ρ μ h w->
  ∃j,AD ρ j (FT l h new).1 w/\Av ρ μ h w j (FT l h new).1 w/\∀us,Aw ρ μ new us->Aw ρ j (FT l h new).2 us
 |[],μ,h,new,H=>⟨μ,H,Av.refl H,fun _ h=>h⟩
 |z::l,μ,h,new,H=>by
  obtain ⟨I,B,g1,q⟩:=N0 H z new
  obtain ⟨x,C,g2,A⟩:=HE l (EW h z new).2 B
  exact ⟨x,C,g1.trans g2,fun us v=>A us (q us v)⟩
end
section
variable {P:Program} {ρ:Env} {μ:As} {tm:Tr Ab} {a:Act} {w:World} {h:Al}
theorem Rt {o:Oper} {c:Call} {t u e:TypeId} {d:TypeDesc} {x y:Operand} (M:o.op=.call c) (z:c.callee=.builtin .append) (j:c.args=#[x,y]) (A:c.argTypes=#[t,u])
  (H:AD ρ μ h w) (C:AP ρ μ tm a) (Q:P.underlying t=some (.slice e)) (N:P.underlying u=some d) (hd:E2 d) {i:TypeInfo} (J:P.info? e=some i) (hb:i.bytes<=1048576) (L:(i.zero.map fun v=>Nat.beq v.cells.size i.size).getD false=true)
  {bytes:Bool} {s:Nat×List Ab} (hs:Jh h i.size bytes (ev tm (A8 y))=some s) {r:Ab×Al} (q:R7 h i.size (ev tm (A8 x)) s.1 s.2=some r):Ez P ρ μ h a o w (.val r.1 r.2):=by
 unfold R7 at q
 split at q
 ·rename_i b es m U
  rw [<-U]at q
  cases hden:Rv s.2 with
  |true=>rw [hden]at q;exact Lh M z j A H C Q N hd J hb L hs q
  |false=>
   rw [hden]at q
   simp only [cond_false]at q
   obtain ⟨n,new⟩:=s
   have R:=Au C y
   obtain ⟨μ1,H1,g1,O⟩:=HE h.fx.Oh new H
   obtain ⟨V,q2,X,q3,I⟩:=Da (P:=P) H R hs
   obtain ⟨p1,p2,Z,p3,p4⟩:=Da (P:=P) H.drew R hs
   have B:(FT h.fx.Oh h new).2.length=n*i.size:=by
    have U:=(O _ I).length
    have e2:=I.length
    omega
   have D:=Ed (P:=P) M z j A H1 (C.mono g1.le) Q N hd J hb L (n:=n) (new:=(FT h.fx.Oh h new).2) (fun w' hw=>by
    rcases hw with rfl|rfl
    ·exact ⟨V,B,X,q3,O _ I⟩
    ·exact ⟨p1,B,Z,p3,O _ p4⟩) q
   obtain ⟨Y,v,w',μ',d1,d2,d3,d4⟩:=D
   exact ⟨Y,v,w',μ',d1,d2,g1.trans d3,d4⟩
 ·exact Lh M z j A H C Q N hd J hb L hs q
end
end
section
section
variable {P:Program} {Γ:Ao} {ρ:Env} {μ:As} {tm:Tr Ab} {a:Act} {w:World} {h:Al}
theorem KT (H:AD ρ μ h w) (A:AP ρ μ tm a) {pl:List Co} {o:Oper} {q:MOp} (hc:Dq P pl o=some (.m q)) {r:GL} (C:Km tm h q=some r):Ez P ρ μ h a o w r:=by
 cases hop:o.op<;>simp only [Dq,hop,reduceCtorEq,oI]at hc
 case store t x y=>
  obtain ⟨n,B,e⟩:=mS hc
  simp only [DD.m.injEq]at e
  subst e
  obtain ⟨X,hs,e⟩:=Ac C
  simp only [oI]at e
  subst e
  exact Vc hop H A B hs
 case insert t m k x=>
  split at hc
  ·rename_i kt e I
   obtain ⟨kk,V,e⟩:=mS hc
   simp only [DD.m.injEq]at e
   subst e
   obtain ⟨X,hs,e⟩:=Ac C
   simp only [oI]at e
   subst e
   exact Nt (.inr hop) H A I V hs
  ·cases hc
 case mapUpdate t m k x=>
  split at hc
  ·rename_i kt e I
   obtain ⟨kk,V,e⟩:=mS hc
   simp only [DD.m.injEq]at e
   subst e
   obtain ⟨X,hs,e⟩:=Ac C
   simp only [oI]at e
   subst e
   exact Nt (.inl hop) H A I V hs
  ·cases hc
 case panic x=>
  simp only [DD.m.injEq]at hc
  subst hc
  exact Vd hop A C
 case call c=>
  unfold EV at hc
  split at hc
  ·rename_i f hf
   split at hc
   ·rename_i fn U
    split at hc
    ·simp only [oI,DD.m.injEq]at hc
     subst hc
     simp only [Km]at C
     obtain ⟨p,j,e⟩:=Ac C
     simp only [oI]at e
     subst e
     exact Po hop hf A j
    ·rename_i hb
     split at hc
     ·rename_i B
      split at hc
      ·rename_i x M
       have J:c.args=#[x]:=by rw [<-Array.toList_inj];simpa using M
       simp only [oI,DD.m.injEq]at hc
       subst hc
       rw [aT,beq_iff_eq,beq_iff_eq]at B
       exact Vg hop hf J U (by simpa using hb) B.1 B.2 H A C
      ·cases hc
     ·split at hc
      ·rename_i B
       split at hc
       ·rename_i x M
        have J:c.args=#[x]:=by rw [<-Array.toList_inj];simpa using M
        simp only [oI,DD.m.injEq]at hc
        subst hc
        rw [aT,beq_iff_eq,beq_iff_eq]at B
        exact Ve hop hf J U (by simpa using hb) B.1 B.2 H A C
       ·cases hc
      ·cases hc
   ·cases hc
  ·rename_i f _ hf
   simp only [oI,DD.m.injEq]at hc
   subst hc
   obtain ⟨p,j,e⟩:=Ac C
   simp only [oI]at e
   subst e
   exact Po hop hf A j
  ·cases hc
  ·rename_i b hb
   split at hc
   ·split at hc<;>simp at hc
   ·rename_i x y t u M R
    have J:c.args=#[x,y]:=by rw [<-Array.toList_inj];simpa using M
    have N:c.argTypes=#[t,u]:=by rw [<-Array.toList_inj];simpa using R
    have app:∀{e:TypeId} {bytes:Bool} {d:TypeDesc},P.underlying t=some (.slice e)->P.underlying u=some d->E2 d->EE P e bytes x y=some (.m q)->Ez P ρ μ h a o w r:=fun {e bytes d} L I hd hc=>by
     unfold EE at hc
     split at hc
     ·rename_i i O
      split at hc
      ·rename_i v
       rw [aT,decide_eq_true_eq]at v
       simp only [oI,DD.m.injEq]at hc
       subst hc
       obtain ⟨p,j,e⟩:=Ac C
       simp only [oI]at e
       subst e
       unfold Tl at j
       split at j
       ·rename_i e' h8 hh
        obtain ⟨s,hs,j⟩:=Ac j
        exact Ru hop hb J N H A L I hd O v.1 h8 hs j
       ·unfold WU at j
        split at j
        ·rename_i l hl
         exact Rr hop hb J N H A L I hd O v.1 v.2 hl j
        ·obtain ⟨s,hs,j⟩:=Ac j
         exact Rt hop hb J N H A L I hd O v.1 v.2 hs j
      ·cases hc
     ·cases hc
    split at hc
    ·rename_i L I
     exact app L I (.inl ⟨_,rfl⟩) hc
    ·rename_i L I
     exact app L I (.inr rfl) hc
    ·cases hc
   ·rename_i x y t u M R
    have J:c.args=#[x,y]:=by rw [<-Array.toList_inj];simpa using M
    have N:c.argTypes=#[t,u]:=by rw [<-Array.toList_inj];simpa using R
    split at hc
    ·rename_i L I
     obtain ⟨n,B,e⟩:=mS hc
     simp only [DD.m.injEq]at e
     subst e
     obtain ⟨s,hs,Q⟩:=Ac C
     obtain ⟨p,j,e⟩:=Ac Q
     simp only [oI]at e
     subst e
     exact Pn hop hb J N H A L B hs j
    ·rename_i L I
     obtain ⟨n,B,e⟩:=mS hc
     simp only [DD.m.injEq]at e
     subst e
     obtain ⟨s,hs,Q⟩:=Ac C
     obtain ⟨p,j,e⟩:=Ac Q
     simp only [oI]at e
     subst e
     exact Pn hop hb J N H A L B hs j
    ·cases hc
   ·simp at hc
   ·simp at hc
   ·simp only [oI,DD.m.injEq]at hc
    subst hc
    cases C
   ·simp at hc
   ·rename_i p n pt it M R
    have J:c.args=#[p,n]:=by rw [<-Array.toList_inj];simpa using M
    have N:c.argTypes=#[pt,it]:=by rw [<-Array.toList_inj];simpa using R
    split at hc
    ·rename_i e j
     split at hc
     ·rename_i Y
      simp only [oI,DD.m.injEq]at hc
      subst hc
      exact XN hop hb J N H A j (An.1 Y) C
     ·cases hc
    ·cases hc
   ·cases hc
 case convert s d x=>
  rcases CC hc with ⟨k0,k,hs,hd,e⟩|⟨hs,hd,e⟩|⟨t,n,hs,hd,B,e⟩|⟨u,n,hs,hd,B,e⟩|⟨el,hs,he,hd,e⟩<;>cases e
 case typeAssert x xt t ok=>
  obtain ⟨d,i,z,I,hd,O,hz,e⟩:=Cf hc
  cases e
 case defer c=>
  obtain ⟨Z,args,ac⟩:=c
  cases Z<;>simp at hc
  subst hc
  obtain ⟨p,j,e⟩:=Ac C
  simp only [oI]at e
  subst e
  exact Vf hop rfl A j
 case makeFunc fn x c=>cases fn<;>simp at hc
 case binOp op t x y yt=>obtain ⟨_,_,e⟩:=mS hc;cases e
 case slice t x lo O mx=>
  exfalso
  split at hc
  ·simp at hc
  ·obtain ⟨_,_,e⟩:=mS hc;cases e
  ·split at hc
   ·obtain ⟨_,_,e⟩:=mS hc;cases e
   ·cases hc
  ·cases hc
 case build t parts=>
  exfalso
  split at hc
  ·split at hc
   ·obtain ⟨_,_,e⟩:=mS hc;cases e
   ·cases hc
  ·obtain ⟨_,_,hc⟩:=Option.bind_eq_some_iff.1 hc
   obtain ⟨_,_,e⟩:=mS hc;cases e
  ·cases hc
 case fieldAddr t x f=>
  exfalso
  split at hc
  ·obtain ⟨_,_,hc⟩:=Option.bind_eq_some_iff.1 hc
   split at hc<;>simp at hc
  ·cases hc
 case field t x f=>
  exfalso
  split at hc
  ·obtain ⟨_,_,hc⟩:=Option.bind_eq_some_iff.1 hc
   obtain ⟨_,_,e⟩:=mS hc;cases e
  ·cases hc
 all_goals
  exfalso
  first
   |(cases hc;done)
   |(split at hc<;>first|(cases hc;done) |(simp at hc;done) |(obtain ⟨_,_,e⟩:=mS hc;cases e;done) |(split at hc<;>first|(cases hc;done) |(simp at hc;done) |(obtain ⟨_,_,e⟩:=mS hc;cases e;done) |(split at hc<;>first|(cases hc;done) |(simp at hc;done) |(obtain ⟨_,_,e⟩:=mS hc;cases e;done))))
   |(obtain ⟨_,_,e⟩:=mS hc;cases e;done)
end
end
end Go.AM
