/- Part 3 of TypesFunctions. -/
import Derived.Test.YtbmofjdmgjpfoaaGreatDoorF2
import Derived.WalkKit
import Derived.ProofKit
import Derived.OpenShut
import Derived.LoopN
import Derived.Defers
import Derived.Recover
import Derived.Laws.Sem
set_option linter.all false
namespace Go.AM
section
def C1 (ρ:Env) (μ:As):List (FuncId×List Ab)->List Deferred->Prop
 |[],ds=>ds=[]
 |d::r,ds=>∃c rest,ds=c::rest/\KK ρ μ d c/\C1 ρ μ r rest
theorem KK.mono {ρ:Env} {μ j:As} (h:μ.le j) {d:FuncId×List Ab} {c:Deferred} (hd:KK ρ μ d c):KK ρ j d c:=
 let ⟨cap,h1,h2⟩:=hd
 ⟨cap,h1,h2.mono h⟩
theorem C1.mono {ρ:Env} {μ j:As} (h:μ.le j):∀{l:List (FuncId×List Ab)} {ds:List Deferred},C1 ρ μ l ds->C1 ρ j l ds
 |[],_,e=>e
 |_::_,_,e=>let ⟨c,rest,e1,e2,e3⟩:=e;⟨c,rest,e1,e2.mono h,C1.mono h e3⟩
structure CG (ρ:Env) (μ:As) (nt:Nat) (f:Fr) (a:Act) (w:World):Prop where
 tmps:AP ρ μ f.tm a
 size:nt<=a.tmps.size
 heap:AD ρ μ f.h w
 defs:C1 ρ μ f.df a.defers
def KJ (ρ:Env) (μ:As):NK->Ending->Prop
 |.ret v,.returned u=>Ah ρ μ v u
 |.panic v,.panicked chain=>∃u,chain=[{v:=u,recovered:=false}]/\Ah ρ μ v u
 |_,_=>False
def B7 (P:Program) (ρ:Env) (call:Cm):Prop:=
 ∀g args h r v,call g args h=some (r,v)->JQ P g/\∀μ w (j:Array Value),AD ρ μ h w->A4 ρ μ args j.toList->
  Calls P g j w fun e w'=>∃q,Av ρ μ h w q v w'/\KJ ρ q r e
section
variable {P:Program} {Γ:Ao} {ρ:Env} {μ:As} {tm:Tr Ab} {a:Act} {w:World} {h:Al} {pl:List Co} {nt:Nat} {ops:Array Oper} {call:Cm}
theorem Iy:Ah ρ μ Iz undef:=by
 simp only [Iz,Ah]
 exact ⟨_,rfl,by simp only [A4]⟩
theorem E8 (C:AP ρ μ tm a) {o:Oper} {g:Option (Nat×Bool)} (hg:guardOf ops o.guard=some g) (hs:∀d b,g=some (d,b)->d<a.tmps.size) {b:Bool} (hb:CY tm g=some b):Region.wanted o (yielded ops a.tmps)=b:=by
 unfold Region.wanted
 cases hog:o.guard with
 |none=>
  rw [hog]at hg
  simp only [guardOf,oI]at hg
  subst hg
  simp only [CY,oI]at hb
  simp [<-hb]
 |some jw=>
  obtain ⟨j,x⟩:=jw
  rw [hog]at hg
  simp only [guardOf]at hg
  split at hg
  ·rename_i d hd
   simp only [oI]at hg
   subst hg
   simp only [CY]at hb
   have v:=hs d x rfl
   have q:=C d
   unfold V6 at hb
   split at hb
   ·rename_i B z
    simp only [oI]at hb
    subst hb
    rw [z]at q
    have q:=Ah.bool q
    simp only [SB.den]at q
    rw [Array.getD_eq_getD_getElem?,Array.getElem?_eq_getElem v,Option.getD_some]at q
    have A:yielded ops a.tmps j=some B:=by
     unfold yielded
     rw [hd]
     simp [v,q]
    simp only [A]
    cases x<;>cases B<;>rfl
   ·rename_i z
    simp only [oI]at hb
    subst hb
    rw [z]at q
    have q:Ah ρ μ (.tuple []) (a.tmps.getD d undef):=q
    simp only [Ah]at q
    obtain ⟨us,q,H⟩:=q
    rw [Array.getD_eq_getD_getElem?,Array.getElem?_eq_getElem v,Option.getD_some]at q
    have A:yielded ops a.tmps j=none:=by
     unfold yielded
     rw [hd]
     simp [v,q]
    simp only [A]
    rfl
   ·cases hb
  ·cases hg
structure NG (P:Program) (pl:List Co) (nt:Nat) (ops:Array Oper) (o:Oper) (s:Step):Prop where
 op:Dq P pl o=some s.op
 guard:guardOf ops o.guard=some s.guard
 dst:s.dst=o.dst
 small:∀d,o.dst=some d->d<nt
 seen:∀d b,s.guard=some (d,b)->d<nt
theorem Ff {o:Oper} {b:Nat} {s:Step} (h:stepOf P pl nt ops o b=some s):NG P pl nt ops o s:=by
 unfold stepOf at h
 split at h
 ·rename_i op g q v
  split at h
  ·rename_i hd
   simp only [oI]at h
   subst h
   rw [aT]at hd
   refine ⟨q,v,rfl,fun d j=>?_,fun d b j=>?_⟩
   ·have:=hd.1
    rw [j]at this
    simp only [Option.all_some]at this
    exact Nat.lt_of_lt_of_le (Nat.lt_succ_self d) (AI.1 this)
   ·have:=hd.2
    simp only at j
    rw [j]at this
    simp only [Option.all_some]at this
    exact Nat.lt_of_lt_of_le (Nat.lt_succ_self d) (AI.1 this)
  ·cases h
 ·cases h
inductive Ad6 where
 |val (v:Ab) (h:Al)
 |panic (v:Ab) (h:Al)
 |defer (g:FuncId) (args:List Ab)
def Su (call:Cm) (h:Al) (r:GL):Option Ad6:=
 match r with
 |.val v h=>some (.val v h)
 |.call g args=>match call g args h with
  |some (.ret v,h)=>some (.val v h)
  |some (.panic v,h)=>some (.panic v h)
  |none=>none
 |.panic v=>some (.panic v h)
 |.defer g args=>some (.defer g args)
noncomputable def AcS (f:Fr) (d:Option Nat) (o:Ad6):Cb:=
 match o with
 |.val v h=>Kz f d v h
 |.panic v h=>.panic v ⟨f.tm,h,f.df⟩
 |.defer g args=>.go ⟨DK f.tm d .any,f.h,(g,args)::f.df⟩
theorem MC {f:Fr} {d:Option Nat} {r:GL} {x:Cb} (j:AgJ call f d r=some x):∃o,Su call f.h r=some o/\x=AcS f d o:=by
 unfold AgJ at j
 split at j
 ·simp only [oI]at j
  exact ⟨_,rfl,j.symm⟩
 ·rename_i g args
  obtain ⟨r,z,j⟩:=Ac j
  simp only [oI]at j
  subst j
  obtain ⟨c,q⟩:=r
  cases c with
  |ret v=>exact ⟨.val v q,by simp [Su,z],rfl⟩
  |panic v=>exact ⟨.panic v q,by simp [Su,z],rfl⟩
 ·simp only [oI]at j
  exact ⟨_,rfl,j.symm⟩
 ·simp only [oI]at j
  exact ⟨_,rfl,j.symm⟩
def HV (u:Value):List PanicEntry:=[{v:=u,recovered:=false}]
def AlA (ρ:Env) (μ:As) (h:Al) (a:Act) (w:World) (d:Option Tmp) (K:Act->World->Prop) (Q:Exit->Act->World->Prop):Ad6->Prop
 |.val v h'=>∀j u w',Av ρ μ h w j h' w'->Ah ρ j v u->K (a.put d u) w'
 |.panic v h'=>∀j u w',Av ρ μ h w j h' w'->Ah ρ j v u->Q (.panic (HV u)) a w'
 |.defer g args=>∀x,KK ρ μ (g,args) x->K ({a with defers:=x::a.defers}.put d undef) w
theorem S1 (hc:B7 P ρ call) (H:AD ρ μ h w) {o:Oper} {res:GL} (hd:Ez P ρ μ h a o w res) {out:Ad6} (q:Su call h res=some out) {K:Act->World->Prop} {Q:Exit->Act->World->Prop}
  (I:AlA ρ μ h a w o.dst K Q out):o.wp P a w K Q:=by
 unfold Oper.wp
 cases res with
 |val v N=>
  simp only [Su,oI]at q
  subst q
  obtain ⟨U,u,w',C,j,R,hg,B⟩:=hd
  rw [j]
  rcases R with rfl|⟨rfl,rfl⟩
  ·exact I C u w' hg B
  ·exact I C undef w' hg B
 |call g args=>
  simp only [Su]at q
  split at q
  ·rename_i v N z
   simp only [oI]at q
   subst q
   obtain ⟨hf,L⟩:=hc _ _ _ _ _ z
   obtain ⟨x,j,J⟩:=hd hf
   rw [j]
   refine Calls.mono (L μ w x H J) fun e w' M=>?_
   obtain ⟨C,hg,A⟩:=M
   cases e with
   |returned u=>exact I C u w' hg A
   |panicked c=>exact A.elim
   |outgrown=>exact A.elim
  ·rename_i v N z
   simp only [oI]at q
   subst q
   obtain ⟨hf,L⟩:=hc _ _ _ _ _ z
   obtain ⟨x,j,J⟩:=hd hf
   rw [j]
   refine Calls.mono (L μ w x H J) fun e w' M=>?_
   obtain ⟨C,hg,A⟩:=M
   cases e with
   |returned u=>exact A.elim
   |panicked c=>
    obtain ⟨u,rfl,B⟩:=A
    exact I C u w' hg B
   |outgrown=>exact A.elim
  ·cases q
 |panic v=>
  simp only [Su,oI]at q
  subst q
  obtain ⟨u,j,B⟩:=hd
  rw [j]
  exact I μ u w (Av.refl H) B
 |defer g args=>
  simp only [Su,oI]at q
  subst q
  obtain ⟨d,j,O⟩:=hd
  rw [j]
  exact I d O
def Acs (ρ:Env) (μ:As):AX->Exit->Prop
 |.normal,e=>e=.normal
 |.exit i,e=>e=.exit i
 |.ret,e=>e=.ret
 |.panic v,e=>∃u,e=.panic (HV u)/\Ah ρ μ v u
def Dp (ρ:Env) (nt:Nat) (μ:As) (h:Al) (w:World) (Q:Exit->Act->World->Prop) (r:AX×Fr):Prop:=
 ∀j q w' e,CG ρ j nt r.2 q w'->Av ρ μ h w j r.2.h w'->Acs ρ j r.1 e->Q e q w'
theorem Dp.grow {j:As} {q:Al} {w':World} {Q:Exit->Act->World->Prop} {r:AX×Fr} (hl:Dp ρ nt μ h w Q r) (g:Av ρ μ h w j q w'):Dp ρ nt j q w' Q r:=
 fun _ _ _ _ hf hg v=>hl _ _ _ _ hf (g.trans hg) v
theorem JT {Q:Exit->Act->World->Prop} {i:Nat} {o:Oper} {K:Act->World->Prop} (q:ops[i]?=some o)
  (h:if Region.wanted o (yielded ops a.tmps)then o.wp P a w K Q else K (a.put o.dst undef) w):wpOp P ops Q i K a w:=by
 unfold wpOp
 rw [q]
 simp only
 split
 ·rename_i j
  rw [if_pos j]at h
  exact .inl h
 ·rename_i j
  rw [if_neg j]at h
  exact h
theorem CG.put {j:As} {f:Fr} {x:Al} {w':World} (F:CG ρ μ nt f a w) (q:μ.le j) (H:AD ρ j x w') {d:Option Tmp} (hd:∀t,d=some t->t<nt) {v:Ab} {u:Value} (z:Ah ρ j v u):CG ρ j nt ⟨DK f.tm d v,x,f.df⟩ (a.put d u) w':=
 ⟨(F.tmps.mono q).put (fun t e=>Nat.lt_of_lt_of_le (hd t e) F.size) z,by rw [Act.Mm];exact F.size,H,by
  have:(a.put d u).defers=a.defers:=by cases d<;>rfl
  rw [this];exact F.defs.mono q⟩
def Vy (ρ:Env) (nt:Nat) (μ:As) (h:Al) (a:Act) (w:World) (K:Act->World->Prop) (Q:Exit->Act->World->Prop):Cb->Prop
 |.go f'=>∀j q w',CG ρ j nt f' q w'->Av ρ μ h w j f'.h w'->K q w'
 |.panic v f'=>∀j u w',CG ρ j nt f' a w'->Av ρ μ h w j f'.h w'->Ah ρ j v u->Q (.panic (HV u)) a w'
theorem O7 (hΓ:Γ.AB ρ) (hc:B7 P ρ call) {f:Fr} (F:CG ρ μ nt f a w) {o:Oper} {s:Step} (hs:NG P pl nt ops o s) {r:Cb} (x:Ip Γ call s f=some r) {K:Act->World->Prop} {Q:Exit->Act->World->Prop}
  (j:Vy ρ nt μ f.h a w K Q r):if Region.wanted o (yielded ops a.tmps)then o.wp P a w K Q else K (a.put o.dst undef) w:=by
 unfold Ip at x
 obtain ⟨b,hb,x⟩:=Ac x
 rw [E8 F.tmps hs.guard (fun d b e=>Nat.lt_of_lt_of_le (hs.seen d b e) F.size) hb]
 cases b with
 |false=>
  simp only [cond_false,oI]at x
  subst x
  simp only [Bool.false_eq_true,if_false]
  have j:∀z A w',CG ρ z nt (⟨DK f.tm s.dst Iz,f.h,f.df⟩:Fr) A w'->Av ρ μ f.h w z f.h w'->K A w':=j
  rw [hs.dst]at j
  exact j μ _ w (F.put μ.le_refl F.heap hs.small Iy) (Av.refl F.heap)
 |true=>
  simp only [cond_true]at x
  simp only [if_true]
  have C:=hs.op
  unfold Wg at x
  split at x
  ·rename_i q L
   rw [L]at C
   obtain ⟨v,I,x⟩:=Ac x
   simp only [oI]at x
   subst x
   obtain ⟨u,H,J⟩:=M1 (w:=w) hΓ F.tmps C I
   unfold Oper.wp
   rw [H]
   have j:∀z A w',CG ρ z nt (⟨DK f.tm s.dst v,f.h,f.df⟩:Fr) A w'->Av ρ μ f.h w z f.h w'->K A w':=j
   rw [hs.dst]at j
   exact j μ _ w (F.put μ.le_refl F.heap hs.small J) (Av.refl F.heap)
  ·rename_i q L
   rw [L]at C
   obtain ⟨v,I,x⟩:=Ac x
   simp only [oI]at x
   subst x
   obtain ⟨u,H,J⟩:=Mz hΓ F.heap F.tmps C I
   unfold Oper.wp
   rw [H]
   have j:∀z A w',CG ρ z nt (⟨DK f.tm s.dst v,f.h,f.df⟩:Fr) A w'->Av ρ μ f.h w z f.h w'->K A w':=j
   rw [hs.dst]at j
   exact j μ _ w (F.put μ.le_refl F.heap hs.small J) (Av.refl F.heap)
  ·rename_i q L
   rw [L]at C
   obtain ⟨⟨B,v⟩,I,x⟩:=Ac x
   simp only [oI]at x
   subst x
   obtain ⟨O,u,H,m,hB,J⟩:=OK (w:=w) F.tmps C I
   have hg:=Av.add F.heap B O (0,m) hB
   unfold Oper.wp
   rw [H]
   have j:∀z A w',CG ρ z nt (⟨DK f.tm s.dst v,f.h.add B,f.df⟩:Fr) A w'->Av ρ μ f.h w z (f.h.add B) w'->K A w':=j
   rw [hs.dst]at j
   exact j _ _ _ (F.put hg.le hg.rel hs.small (J _ hg.le (As.BC _ _ _))) hg
  ·rename_i q L
   rw [L]at C
   obtain ⟨res,M,x⟩:=Ac x
   obtain ⟨out,N,rfl⟩:=MC x
   refine S1 hc F.heap (KT F.heap F.tmps C M) N ?_
   cases out with
   |val v h'=>
    have j:∀z A w',CG ρ z nt (⟨DK f.tm s.dst v,h',f.df⟩:Fr) A w'->Av ρ μ f.h w z h' w'->K A w':=j
    rw [hs.dst]at j
    exact fun z u w' hg I=>j z _ w' (F.put hg.le hg.rel hs.small I) hg
   |panic v h'=>exact fun z u w' hg I=>j z u w' ⟨F.tmps.mono hg.le,F.size,hg.rel,F.defs.mono hg.le⟩ hg I
   |defer g args=>
    have j:∀z A w',CG ρ z nt (⟨DK f.tm s.dst .any,f.h,(g,args)::f.df⟩:Fr) A w'->Av ρ μ f.h w z f.h w'->K A w':=j
    rw [hs.dst]at j
    refine fun d hd=>j μ _ w ?_ (Av.refl F.heap)
    have R:CG ρ μ nt ⟨f.tm,f.h,(g,args)::f.df⟩ {a with defers:=d::a.defers} w:=⟨F.tmps,F.size,F.heap,d,a.defers,rfl,hd,F.defs⟩
    exact R.put μ.le_refl F.heap hs.small trivial
theorem T6 (hΓ:Γ.AB ρ) (hc:B7 P ρ call) {f:Fr} (F:CG ρ μ nt f a w) {o:Oper} {s:Step} {i:Nat} (j:ops[i]?=some o) (hs:NG P pl nt ops o s) {r:Cb} (v:Ip Γ call s f=some r) {K:Act->World->Prop} {Q:Exit->Act->World->Prop}
  (q:Vy ρ nt μ f.h a w K Q r):wpOp P ops Q i K a w:=
 JT j (O7 hΓ hc F hs v q)
theorem Dk {α:Type}:∀{l:List (Option α)} {r:List α},B3 l=some r->l=r.map some
 |[],r,h=>by simp only [B3,oI]at h;subst h;rfl
 |some a::l,r,h=>by
  simp only [B3]at h
  obtain ⟨q,j,e⟩:=mS h
  subst e
  simp [Dk j]
 |none::l,r,h=>by simp [B3]at h
theorem OC (s:Step) (r:List Step) (f:Fr):Ud Γ call (s::r) f=A6 (Ip Γ call s f) fun x=>goes x fun j=>Ud Γ call r j:=rfl
theorem OB (hΓ:Γ.AB ρ) (hc:B7 P ρ call) {Q:Exit->Act->World->Prop}:∀(l:List Oper) (q:List Step) (k:Nat) {μ:As} {a:Act} {w:World} {f:Fr} {r:Cb},(∀j,l[j]?=ops[k+j]?)->B3 (l.map fun o=>stepOf P pl nt ops o 0)=some q->
  Ud Γ call q f=some r->CG ρ μ nt f a w->Dp ρ nt μ f.h w Q (F5 r)->wpOps P ops Q (List.range' k l.length) a w
 |[],q,k,μ,a,w,f,r,hl,hs,z,F,L=>by
  simp only [List.map_nil,B3,oI]at hs
  subst hs
  have z:some (Cb.go f)=some r:=z
  simp only [oI]at z
  subst z
  exact L μ a w .normal F (Av.refl F.heap) rfl
 |o::l,q,k,μ,a,w,f,r,hl,hs,z,F,L=>by
  have A:=Dk hs
  cases q with
  |nil=>simp at A
  |cons s q=>
   simp only [List.map_cons,List.cons.injEq]at A
   obtain ⟨J,C⟩:=A
   have H:B3 (l.map fun o=>stepOf P pl nt ops o 0)=some q:=by
    rw [C]
    clear C z hs
    induction q with
    |nil=>rfl
    |cons x r ih=>simp only [List.map_cons,B3,ih,Option.map_some]
   rw [OC]at z
   obtain ⟨x,O,z⟩:=Ac z
   have N:ops[k]?=some o:=by simpa using (hl 0).symm
   rw [lC,List.range'_succ,wpOps_cons]
   refine T6 hΓ hc F N (Ff J) O ?_
   cases x with
   |go f'=>exact fun I R w' B g=>OB hΓ hc l q (k+1) (fun j=>by simpa [Nat.add_assoc,Nat.add_comm 1 j]using hl (j+1)) H z B (L.grow g)
   |panic v f'=>
    simp only [goes,oI]at z
    subst z
    exact fun I u w' B g M=>L I a w' _ B g ⟨u,rfl,M⟩
end
end
section
section
variable {Γ:Ao} {tm tm':Tr Ab} {h h':Al}
def DC (tm tm':Tr Ab) (l:List Cr):Prop:=∀x∈l,ev tm x=ev tm' x
theorem EK:∀{l:List Cr},DC tm tm' l->RG tm l=RG tm' l
 |[],_=>rfl
 |x::r,h=>by
  show ev tm x::RG tm r=ev tm' x::RG tm' r
  rw [h x (by simp),EK fun y j=>h y (by simp [j])]
theorem Hv:∀{ps:List (Nat×Nat×Cr)} {cs:List Ab},DC tm tm' (ps.map (·.2.2))->Hw tm ps cs=Hw tm' ps cs
 |[],_,_=>rfl
 |p::r,cs,h=>by
  show (A6 (Fo cs (ev tm p.2.2) p.1 p.2.1) fun cs=>Hw tm r cs)=A6 (Fo cs (ev tm' p.2.2) p.1 p.2.1) fun cs=>Hw tm' r cs
  rw [h p.2.2 (by simp)]
  congr 1
  funext cs
  exact Hv fun y j=>h y (by simp only [List.map_cons,List.mem_cons];exact .inr j)
theorem EA {d:Nat} {o:Option Cr} (h:DC tm tm' o.toList):Ce tm d o=Ce tm' d o:=by
 cases o with
 |none=>rfl
 |some x=>simp only [Ce];rw [h x (by simp)]
theorem Uo {o:Option Cr} (h:DC tm tm' o.toList):AcT tm o=AcT tm' o:=by
 cases o with
 |none=>rfl
 |some x=>simp only [AcT];rw [h x (by simp)]
theorem M9 {o:Option Cr} (h:DC tm tm' o.toList):Lv tm o=Lv tm' o:=by
 cases o with
 |none=>rfl
 |some x=>simp only [Lv];rw [h x (by simp)]
theorem DC.app {l q:List Cr} (h:DC tm tm' (l++q)):DC tm tm' l/\DC tm tm' q:=⟨fun x j=>h x (by simp [j]),fun x j=>h x (by simp [j])⟩
theorem DC.cons {x:Cr} {l:List Cr} (h:DC tm tm' (x::l)):ev tm x=ev tm' x/\DC tm tm' l:=⟨h x (by simp),fun x j=>h x (by simp [j])⟩
theorem Ss {o:POp} (h:DC tm tm' o.BT):Is Γ tm o=Is Γ tm' o:=by
 cases o<;>simp only [POp.BT]at h<;>simp only [Is]
 case build zero parts=>rw [Hv h]
 case func f a c=>rw [EK h.app.1,EK h.app.2]
 case big m xs=>rw [EK h]
 case subs x lo hi=>
  obtain ⟨v,j⟩:=h.cons
  obtain ⟨j,q⟩:=j.app
  rw [v,EA j]
  congr 1
  funext d
  exact EA q
 case reslice n x lo hi mx=>
  obtain ⟨v,j⟩:=h.cons
  obtain ⟨j,q⟩:=j.app
  obtain ⟨q,z⟩:=q.app
  have e:(fun d=>Ce tm d hi)=fun d=>Ce tm' d hi:=funext fun d=>EA q
  rw [v]
  unfold FI
  rw [EA j,Uo z,e,M9 j,M9 q]
 case pick c a b=>rw [h.cons.1,h.cons.2.cons.1,h.cons.2.cons.2.cons.1]
 all_goals first
  |(rw [h.cons.1,h.cons.2.cons.1];done)
  |(rw [h.cons.1];done)
theorem Fh {o:NO} (j:DC tm tm' o.BT):Dm Γ tm h o=Dm Γ tm' h o:=by
 cases o<;>simp only [NO.BT]at j<;>simp only [Dm]
 case load n x=>rw [j.cons.1]
 case lenM x=>rw [j.cons.1]
 case uptr ok x=>rw [j.cons.1]
 case bstr x=>rw [j.cons.1]
 case lookup kk z ok x k=>rw [j.cons.1,j.cons.2.cons.1]
theorem Uv {id:Nat} {o:AOp} (j:DC tm tm' o.BT):X1 tm id o=X1 tm' id o:=by
 cases o<;>simp only [AOp.BT]at j<;>simp only [X1]
 case box t x=>rw [j.cons.1]
 case bslice len z ps=>rw [Hv j]
 case mkSlice z l c=>rw [j.cons.1,j.cons.2.cons.1]
theorem Qy {o:MOp} (j:DC tm tm' o.BT):Km tm h o=Km tm' h o:=by
 cases o<;>simp only [MOp.BT]at j<;>simp only [Km]
 case call f args=>rw [j.cons.1,EK j.cons.2]
 case defer f args=>rw [j.cons.1,EK j.cons.2]
 case mapUp kk m k v=>rw [j.cons.1,j.cons.2.cons.1,j.cons.2.cons.2.cons.1]
 all_goals first
  |(rw [j.cons.1,j.cons.2.cons.1];done)
  |(rw [j.cons.1];done)
theorem EY {l:List Cr} (h:∀t∈l.flatMap Cr.names,tm.get t=tm'.get t):DC tm tm' l:=fun x j=>by
 cases x with
 |con v=>rfl
 |tmp t=>
  simp only [ev]
  rw [h t (List.mem_flatMap.2 ⟨.tmp t,j,by simp [Cr.names]⟩)]
end
theorem Aa0 {P:Program} {pl:List Co} {o:Oper} {q:NO} (hc:Dq P pl o=some (.r q)):∀x∈q.BT,∃y:Operand,x=A8 y:=by
 cases hop:o.op<;>simp only [Dq,hop,reduceCtorEq,oI]at hc
 case load t x=>
  obtain ⟨n,v,e⟩:=mS hc
  simp only [DD.r.injEq]at e
  subst e
  intro y j
  simp only [NO.BT,List.mem_singleton]at j
  exact ⟨_,j⟩
 case lookup t x k ok=>
  split at hc
  ·split at hc
   ·obtain ⟨z,C,e⟩:=mS hc
    simp only [DD.r.injEq]at e
    subst e
    intro y j
    simp only [NO.BT,List.mem_cons,List.not_mem_nil,or_false]at j
    rcases j with j|j
    ·exact ⟨_,j⟩
    ·exact ⟨_,j⟩
   ·cases hc
  ·cases hc
 case call c=>
  unfold EV at hc
  split at hc
  ·split at hc
   ·split at hc
    ·simp at hc
    ·split at hc
     ·split at hc<;>simp at hc
     ·split at hc
      ·split at hc<;>simp at hc
      ·cases hc
   ·cases hc
  ·simp at hc
  ·cases hc
  ·rename_i b hb
   split at hc
   ·split at hc
    ·simp at hc
    ·simp at hc
    ·simp at hc
    ·simp only [oI,DD.r.injEq]at hc
     subst hc
     intro y j
     simp only [NO.BT,List.mem_singleton]at j
     exact ⟨_,j⟩
    ·cases hc
   ·exfalso
    unfold EE at hc
    split at hc<;>first|cases hc|skip
    all_goals (split at hc<;>first|(cases hc;done) |(split at hc<;>simp at hc))
   ·exfalso
    split at hc<;>first|(cases hc;done) |(obtain ⟨_,_,e⟩:=mS hc;cases e)
   ·simp at hc
   ·simp at hc
   ·simp at hc
   ·simp at hc
   ·exfalso
    split at hc
    ·split at hc<;>simp at hc
    ·cases hc
   ·cases hc
 case convert s d x=>
  rcases CC hc with ⟨k0,k,hs,hd,e⟩|⟨hs,hd,e⟩|⟨t,n,hs,hd,v,e⟩|⟨u,n,hs,hd,v,e⟩|⟨el,hs,he,hd,e⟩
  ·cases e
  ·cases e
  all_goals
   simp only [DD.r.injEq]at e
   subst e
   intro y j
   simp only [NO.BT,List.mem_singleton]at j
   exact ⟨_,j⟩
 case typeAssert x xt t ok=>
  obtain ⟨d,i,z,I,hd,B,C,e⟩:=Cf hc
  cases e
 case defer c=>
  obtain ⟨A,args,H⟩:=c
  cases A<;>simp at hc
 case makeFunc fn x c=>cases fn<;>simp at hc
 case binOp op t x y yt=>obtain ⟨_,_,e⟩:=mS hc;cases e
 case slice t x lo B mx=>
  exfalso
  split at hc
  ·simp at hc
  ·obtain ⟨_,_,e⟩:=mS hc;cases e
  ·split at hc
   ·obtain ⟨_,_,e⟩:=mS hc;cases e
   ·cases hc
  ·cases hc
 case build t parts=>
  exfalso
  split at hc
  ·split at hc
   ·obtain ⟨_,_,e⟩:=mS hc;cases e
   ·cases hc
  ·obtain ⟨_,_,hc⟩:=Option.bind_eq_some_iff.1 hc
   obtain ⟨_,_,e⟩:=mS hc;cases e
  ·cases hc
 case fieldAddr t x f=>
  exfalso
  split at hc
  ·obtain ⟨_,_,hc⟩:=Option.bind_eq_some_iff.1 hc
   split at hc<;>simp at hc
  ·cases hc
 case field t x f=>
  exfalso
  split at hc
  ·obtain ⟨_,_,hc⟩:=Option.bind_eq_some_iff.1 hc
   obtain ⟨_,_,e⟩:=mS hc;cases e
  ·cases hc
 all_goals
  exfalso
  first
   |(cases hc;done)
   |(split at hc<;>first|(cases hc;done) |(simp at hc;done) |(obtain ⟨_,_,e⟩:=mS hc;cases e;done) |(split at hc<;>first|(cases hc;done) |(simp at hc;done) |(obtain ⟨_,_,e⟩:=mS hc;cases e;done) |(split at hc<;>first|(cases hc;done) |(simp at hc;done) |(obtain ⟨_,_,e⟩:=mS hc;cases e;done))))
   |(obtain ⟨_,_,e⟩:=mS hc;cases e;done)
section
variable {P:Program} {ρ:Env} {μ:As} {tm:Tr Ab} {a:Act} {h h':Al}
theorem Uk {Γ:Ao} (Y:AP ρ μ tm a) {o:Oper} {pl:List Co} {q:NO} (hc:Dq P pl o=some (.r q)) (M:∀b B,μ b≠none->h.get b=some B->h'.get b=some B) {v:Ab} (A:Dm Γ tm h q=some v):Dm Γ tm h' q=some v:=by
 have cells:∀{b:Nat} {vs:List Ab},μ b≠none->cellsOf (h.get b)=some vs->cellsOf (h'.get b)=some vs:=fun {b vs} hb C=>by
  rcases EF C with e|⟨t,e⟩<;>rw [M _ _ hb e]<;>rfl
 have R:∀{b:Nat} {vs:List Entry×Nat},μ b≠none->mapOf (h.get b)=some vs->mapOf (h'.get b)=some vs:=fun {b vs} hb C=>by
  rw [M _ _ hb (Dw C)];rfl
 have Q:∀x∈q.BT,∃u,Ah ρ μ (ev tm x) u:=fun x hx=>by
  obtain ⟨y,rfl⟩:=Aa0 hc x hx
  exact ⟨_,Au Y y⟩
 cases q with
 |load n x=>
  obtain ⟨u,H⟩:=Q x (by simp [NO.BT])
  simp only [Dm]at A⊢
  unfold MI at A⊢
  split at A
  ·rename_i b X j L J
   rw [J]at H
   obtain ⟨r,m,I,_⟩:=H.vptr
   obtain ⟨vs,C,ac⟩:=Ac A
   obtain ⟨l,hl,_⟩:=Ac C
   have hb:=M _ _ (by rw [I];simp) (CU hl)
   have e2:elemV Γ (h'.get b) X j=elemV Γ (h.get b) X j:=by rw [hb,CU hl]
   simp only [e2]
   exact A
  ·exact A
  ·rename_i b L J
   rw [J]at H
   obtain ⟨r,δ,m,I,_⟩:=H.ptr
   obtain ⟨vs,C,A⟩:=Ac A
   simp only [cells (by rw [I];simp) C]
   exact A
  ·cases A
 |lookup kk z ok x k=>
  obtain ⟨u,H⟩:=Q x (by simp [NO.BT])
  simp only [Dm]at A⊢
  unfold Wu at A⊢
  split at A
  ·exact A
  ·rename_i b J
   rw [J]at H
   obtain ⟨r,I,_⟩:=H.NX
   unfold U2 at A⊢
   split at A
   ·rename_i i Z
    have O:I5 (h'.get b)=some i:=by rw [M _ _ (by rw [I];simp) (Em Z)];rfl
    simp only [O]
    exact A
   ·obtain ⟨vs,C,A⟩:=Ac A
    have O:I5 (h'.get b)=none:=by rw [M _ _ (by rw [I];simp) (Dw C)];rfl
    simp only [O,R (by rw [I];simp) C]
    exact A
  ·cases A
 |lenM x=>
  obtain ⟨u,H⟩:=Q x (by simp [NO.BT])
  simp only [Dm]at A⊢
  unfold Wv at A⊢
  split at A
  ·exact A
  ·rename_i b J
   rw [J]at H
   obtain ⟨r,I,_⟩:=H.NX
   obtain ⟨vs,C,A⟩:=Ac A
   simp only [R (by rw [I];simp) C]
   exact A
  ·cases A
 |bstr x=>
  obtain ⟨u,H⟩:=Q x (by simp [NO.BT])
  simp only [Dm]at A⊢
  have key:∀b L len,μ b≠none->N4 h b L len=some v->N4 h' b L len=some v:=fun b L len hb U=>by
   unfold N4 at U⊢
   cases hl:Nat.beq len 0 with
   |true=>rw [hl]at U;exact U
   |false=>
    rw [hl]at U
    obtain ⟨vs,C,V⟩:=Ac U
    simp only [cond_false,cells hb C]
    exact V
  unfold WO at A⊢
  split at A
  ·exact A
  ·rename_i b L len c J
   rw [J]at H
   obtain ⟨r,δ,m,I,_⟩:=H.slice
   exact key _ _ _ (by rw [I];simp) A
  ·rename_i b L len c J
   rw [J]at H
   obtain ⟨r,δ,m,_,I,_⟩:=H.gslice
   exact key _ _ _ (by rw [I];simp) A
  ·cases A
 |uptr ok x=>
  obtain ⟨u,H⟩:=Q x (by simp [NO.BT])
  simp only [Dm]at A⊢
  unfold Oz at A⊢
  split at A
  ·rename_i b J
   rw [J]at H
   obtain ⟨r,δ,m,I,_⟩:=H.ptr
   have N:=A
   unfold Yv at N
   split at N
   ·rename_i e vs hb
    rw [hb]at A
    rw [M _ _ (by rw [I];simp) hb]
    exact A
   ·cases N
  ·cases A
end
end
section
structure Item where
 i:Nat
 s:Step
 e:Option (Ab×Option Block)
def Item.pair (x:Item):Nat×Step:=(x.i,x.s)
def Gn:List Item->(Nat->Option Ab)->Nat->Option Ab
 |[],g,t=>g t
 |x::r,g,t=>match x.e with
  |some u=>if x.s.dst=some t then some u.1 else Gn r g t
  |none=>Gn r g t
def Eu:List Item->Nat->(Nat->Option Block)->Nat->Option Block
 |[],_,g,b=>g b
 |x::r,id,g,b=>match x.e with
  |some (_,some B)=>if b=id then some B else Eu r (id+1) g b
  |_=>Eu r (id+1) g b
def Clo (W:Nat->Nat->Bool):List Item->Prop
 |[]=>True
 |x::r=>(x.e=none->∀z∈r,z.e≠none->W x.i z.i=false)/\Clo W r
def Yg (Γ:Ao) (call:Cm):List Item->Nat->Fr->Prop
 |[],_,_=>True
 |x::r,id,f=>(∀u,x.e=some u->Ht Γ f.tm f.h id x.s=some u)/\
  ((∃j,Io Γ call x.s id f=some (.go j)/\Yg Γ call r (id+1) j)∨∀y∈r,y.e=none)
structure Xd (W:Nat->Nat->Bool) (x y:Nat×Step):Prop where
 ne:x.1≠y.1
 chg:BK y.2.op=true->W x.1 y.1=true
 dst:∀d,x.2.dst=some d->y.2.dst≠some d
 reads:∀d,x.2.dst=some d->d∈y.2.names->W x.1 y.1=true
 writes:∀d,y.2.dst=some d->d∈x.2.names->W x.1 y.1=true
section
variable {W:Nat->Nat->Bool}
theorem any_beq {l:List Nat} {d:Nat}:l.any (Nat.beq d)=true↔d∈l:=by
 rw [List.any_eq_true]
 constructor
 ·rintro ⟨x,hx,e⟩
  rw [An.1 e];exact hx
 ·intro h
  exact ⟨d,h,An.2 rfl⟩
theorem To {x y:Nat×Step} (h:Vu W x y=true):Xd W x y:=by
 unfold Vu at h
 rw [aT,aT,aT]at h
 obtain ⟨⟨⟨z,A⟩,j⟩,q⟩:=h
 refine ⟨fun e=>?_,fun B=>?_,fun d hd C=>?_,fun d hd v=>?_,fun d hd v=>?_⟩
 ·rw [An.2 e]at z;cases z
 ·rw [B]at A;simpa using A
 ·rw [hd,C]at j
  simp only [aT]at j
  rw [An.2 rfl]at j
  simp at j
 ·rw [hd]at j
  simp only [aT,Bool.or_eq_true]at j
  rcases j.2 with h|h
  ·rw [any_beq.2 v]at h;cases h
  ·exact h
 ·rw [hd]at q
  simp only [Bool.or_eq_true]at q
  rcases q with h|h
  ·rw [any_beq.2 v]at h;cases h
  ·exact h
structure OkD (W:Nat->Nat->Bool) (x:Nat×Step) (r:List (Nat×Step)):Prop where
 self:∀d,x.2.dst=some d->d∉x.2.names
 apart:∀y∈r,Xd W x y
 back:BK x.2.op=true->N9 W x.1 r 0=true
 rest:okD W r=true
theorem EO {x:Nat×Step} {r:List (Nat×Step)} (h:okD W (x::r)=true):OkD W x r:=by
 simp only [okD,aT]at h
 obtain ⟨j,C,q,z⟩:=h
 refine ⟨fun d hd A=>?_,fun y B=>To (List.all_eq_true.1 C y B),fun v=>?_,z⟩
 ·unfold AdJ at j
  rw [hd]at j
  simp only at j
  rw [any_beq.2 A]at j
  cases j
 ·rw [v]at q;simpa using q
def muts (l:List (Nat×Step)):Nat:=l.countP fun x=>BK x.2.op
theorem IU {x:Nat}:∀{pre post:List (Nat×Step)} {y:Nat×Step} {k:Nat},N9 W x (pre++y::post) k=true->BK y.2.op=false->W x y.1=false->k+muts pre<y.2.back
 |[],post,y,k,h,hm,hw=>by
  simp only [List.nil_append,N9,hm,Bool.false_eq_true,if_false,aT,Bool.or_eq_true,hw,or_false]at h
  have:=AI.1 h.1
  simp only [muts,List.countP_nil]
  omega
 |z::pre,post,y,k,h,hm,hw=>by
  simp only [List.cons_append,N9]at h
  cases hz:BK z.2.op with
  |true=>
   rw [hz]at h
   simp only [if_true]at h
   have:=IU h hm hw
   simp only [muts,List.countP_cons,hz,if_true]at this⊢
   omega
  |false=>
   rw [hz]at h
   simp only [Bool.false_eq_true,if_false,aT]at h
   have:=IU h.2 hm hw
   simp only [muts,List.countP_cons,hz]at this⊢
   simpa using this
theorem Li (s:Step) (r:List Step) (k:Nat):KA (s::r) k=bif BK s.op then KA r (k+1)else Nat.ble s.back k&&KA r k:=rfl
theorem HC:∀{pre post:List (Nat×Step)} {y:Nat×Step} {k:Nat},KA ((pre++y::post).map (·.2)) k=true->BK y.2.op=false->y.2.back<=k+muts pre
 |[],post,y,k,h,hm=>by
  simp only [List.nil_append,List.map_cons,Li,hm,cond_false,aT]at h
  have:=AI.1 h.1
  simp only [muts,List.countP_nil]
  omega
 |z::pre,post,y,k,h,hm=>by
  simp only [List.cons_append,List.map_cons,Li]at h
  cases hz:BK z.2.op with
  |true=>
   rw [hz]at h
   simp only [cond_true]at h
   have:=HC h hm
   simp only [muts,List.countP_cons,hz,if_true]at this⊢
   omega
  |false=>
   rw [hz]at h
   simp only [cond_false,aT]at h
   have:=HC h.2 hm
   simp only [muts,List.countP_cons,hz]at this⊢
   simpa using this
end
theorem Eb:∀{r:List Item} {g j:Nat->Option Ab} {t:Nat},g t=j t->Gn r g t=Gn r j t
 |[],_,_,_,h=>h
 |x::r,g,j,t,h=>by
  simp only [Gn]
  cases x.e with
  |none=>exact Eb h
  |some u=>
   dsimp only
   split
   ·rfl
   ·exact Eb h
theorem D8:∀{r:List Item} {g:Nat->Option Ab} {t:Nat},(∀z∈r,z.e≠none->z.s.dst≠some t)->Gn r g t=g t
 |[],_,_,_=>rfl
 |x::r,g,t,h=>by
  simp only [Gn]
  have ih:=D8 (g:=g) fun z j=>h z (List.mem_cons_of_mem _ j)
  cases hx:x.e with
  |none=>exact ih
  |some u=>
   dsimp only
   rw [if_neg (h x List.mem_cons_self (by rw [hx];simp))]
   exact ih
theorem DJ (tm:Tr Ab) (d:Option Nat) (v:Ab) (t:Nat):(DK tm d v).get t=if d=some t then some v else tm.get t:=by
 cases d with
 |none=>simp [DK]
 |some d=>
  simp only [DK,Tr.AY,oI]
  by_cases h:t=d
  ·rw [if_pos h,if_pos h.symm]
  ·rw [if_neg h,if_neg (Ne.symm h)]
theorem Eo (h:Al) (id:Nat) (B:Option Block) (b:Nat):(Ge h id B).get b=match B with|some B=>if b=id then some B else h.get b|none=>h.get b:=by
 cases B with
 |none=>rfl
 |some B=>exact Tr.AY _ _ _ _
theorem EI (h:Al) (id:Nat) (B:Option Block):(Ge h id B).next=h.next:=by cases B<;>rfl
theorem Gp:∀{r:List Item} {id:Nat} {g j:Nat->Option Block} {b:Nat},g b=j b->Eu r id g b=Eu r id j b
 |[],_,_,_,_,h=>h
 |x::r,id,g,j,b,h=>by
  simp only [Eu]
  split
  ·split
   ·rfl
   ·exact Gp h
  ·exact Gp h
theorem IJ:∀{r:List Item} {id:Nat} {g:Nat->Option Block} {b:Nat},b<id->Eu r id g b=g b
 |[],_,_,_,_=>rfl
 |x::r,id,g,b,h=>by
  simp only [Eu]
  split
  ·rw [if_neg (by omega)]
   exact IJ (by omega)
  ·exact IJ (by omega)
theorem II:∀{r:List Item} {id:Nat} {g:Nat->Option Block} {b:Nat} {B:Block},Eu r id g b=some B->g b=some B∨∃k x v,r[k]?=some x/\x.e=some (v,some B)/\b=id+k
 |[],_,_,_,_,h=>.inl h
 |x::r,id,g,b,B,h=>by
  simp only [Eu]at h
  split at h
  ·rename_i v q j
   split at h
   ·rename_i e
    simp only [oI]at h
    subst h
    exact .inr ⟨0,x,v,rfl,j,e⟩
   ·rcases II h with h|⟨k,y,v,h1,h2,h3⟩
    ·exact .inl h
    ·exact .inr ⟨k+1,y,v,by simpa using h1,h2,by omega⟩
  ·rcases II h with h|⟨k,y,v,h1,h2,h3⟩
   ·exact .inl h
   ·exact .inr ⟨k+1,y,v,by simpa using h1,h2,by omega⟩
theorem Rf:∀{r:List Item} {id:Nat} {g:Nat->Option Block} {k:Nat} {x:Item} {v:Ab} {B:Block},r[k]?=some x->x.e=some (v,some B)->Eu r id g (id+k)=some B
 |[],_,_,_,_,_,_,h,_=>by simp at h
 |y::r,id,g,0,x,v,B,h,hx=>by
  simp only [List.getElem?_cons_zero,oI]at h
  subst h
  simp [Eu,hx]
 |y::r,id,g,k+1,x,v,B,h,hx=>by
  have ih:=Rf (id:=id+1) (g:=g) (by simpa using h) hx
  rw [show id+1+k=id+(k+1)from by omega]at ih
  simp only [Eu]
  split
  ·rw [if_neg (by omega)];exact ih
  ·exact ih
theorem Nc:∀{r:List Item} {id:Nat} {g:Nat->Option Block} {b:Nat},(∀k x v B,r[k]?=some x->x.e=some (v,some B)->b≠id+k)->Eu r id g b=g b:=fun {r id g b} h=>by
 induction r generalizing id with
 |nil=>rfl
 |cons x r ih=>
  have ih:=ih (id:=id+1) fun k y v B q j=>by
   have:=h (k+1) y v B (by simpa using q) j
   omega
  simp only [Eu]
  split
  ·rename_i v B z
   rw [if_neg (by simpa using h 0 x v B rfl z)]
   exact ih
  ·exact ih
section
variable {Γ:Ao} {call:Cm} {all:List Step}
theorem Gs (s:Step) (r:List Step) (id:Nat) (f:Fr) (hs:List Al):Lg Γ call all (s::r) id f hs=
  bif L3 Γ s f hs then A6 (Io Γ call s id f) fun x=>SD all r x fun j=>Lg Γ call all r (id+1) j (bif BK s.op then f.h::hs else Mq id (KY f.h j.h id) hs)else none:=rfl
theorem Xm {id:Nat} {B:Option Block}:∀{hs:List Al} {n:Nat} {j:Al},hs[n]?=some j->(Mq id B hs)[n]?=some (Ge j id B):=by
 cases B with
 |none=>intro hs n j h;exact h
 |some B=>
  intro hs
  induction hs with
  |nil=>intro n j h;simp at h
  |cons x r ih=>
   intro n j h
   have e:Mq id (some B) (x::r)=Ge x id (some B)::Mq id (some B) r:=rfl
   rw [e]
   cases n with
   |zero=>simp only [List.getElem?_cons_zero,oI]at h⊢;rw [h]
   |succ n=>rw [List.getElem?_cons_succ]at h⊢;exact ih h
theorem HR {s:Step} {id:Nat} {f:Fr} (j:BK s.op=false) {x:Cb} (h:Io Γ call s id f=some x):∃u,Ht Γ f.tm f.h id s=some u/\x=.go ⟨DK f.tm s.dst u.1,Ge f.h id u.2,f.df⟩:=by
 unfold Io at h
 rw [j]at h
 obtain ⟨u,q,h⟩:=Ac h
 simp only [oI]at h
 exact ⟨u,q,h.symm⟩
theorem Jg {s:Step} {id:Nat} {f:Fr} (j:BK s.op=false) {u:Ab×Option Block} (h:Ht Γ f.tm f.h id s=some u):Io Γ call s id f=some (.go ⟨DK f.tm s.dst u.1,Ge f.h id u.2,f.df⟩):=by
 unfold Io
 rw [j,h]
 rfl
theorem O8 {s:Step} {id:Nat} {f:Fr} (j:BK s.op=true):Io Γ call s id f=Ip Γ call s f:=by
 unfold Io
 rw [j]
 rfl
theorem ZC {s:Step} {f j:Fr} (h:Ip Γ call s f=some (.go j)):∃v,j.tm=DK f.tm s.dst v:=by
 unfold Ip at h
 obtain ⟨b,hb,h⟩:=Ac h
 cases b with
 |false=>
  simp only [cond_false,XA,oI,Cb.go.injEq]at h
  exact ⟨_,by subst h;rfl⟩
 |true=>
  simp only [cond_true]at h
  unfold Wg at h
  split at h
  ·obtain ⟨v,_,h⟩:=Ac h
   simp only [XA,oI,Cb.go.injEq]at h
   exact ⟨_,by subst h;rfl⟩
  ·obtain ⟨v,_,h⟩:=Ac h
   simp only [XA,oI,Cb.go.injEq]at h
   exact ⟨_,by subst h;rfl⟩
  ·obtain ⟨v,_,h⟩:=Ac h
   simp only [Kz,oI,Cb.go.injEq]at h
   exact ⟨_,by subst h;rfl⟩
  ·obtain ⟨r,_,h⟩:=Ac h
   obtain ⟨o,_,h⟩:=MC h
   cases o with
   |val v h'=>
    simp only [AcS,Kz,Cb.go.injEq]at h
    exact ⟨_,by subst h;rfl⟩
   |panic v h'=>simp only [AcS,reduceCtorEq]at h
   |defer g args=>
    simp only [AcS,Cb.go.injEq]at h
    exact ⟨_,by subst h;rfl⟩
theorem ZB {s:Step} {id:Nat} {f j:Fr} (h:Io Γ call s id f=some (.go j)):∃v,j.tm=DK f.tm s.dst v:=by
 cases hm:BK s.op with
 |true=>rw [O8 hm]at h;exact ZC h
 |false=>
  obtain ⟨u,_,h⟩:=HR hm h
  simp only [Cb.go.injEq]at h
  exact ⟨_,by subst h;rfl⟩
theorem UQ {tm j:Tr Ab} {h:Al} {id:Nat} {s:Step} (v:∀t∈s.names,tm.get t=j.get t):Ht Γ tm h id s=Ht Γ j h id s:=by
 have z:CY tm s.guard=CY j s.guard:=by
  unfold CY
  cases hg:s.guard with
  |none=>rfl
  |some g=>
   dsimp only
   rw [v g.1 (by simp [Step.names,hg])]
 have q:DC tm j s.op.BT:=EY fun t x=>v t (by
  unfold Step.names
  split
  ·exact List.mem_cons_of_mem _ x
  ·exact x)
 unfold Ht
 rw [z]
 congr 1
 funext w
 cases w with
 |false=>rfl
 |true=>
  simp only [cond_true]
  unfold UR
  cases ho:s.op with
  |p o=>rw [ho]at q;simp only;rw [Ss q]
  |r o=>rw [ho]at q;simp only;rw [Fh q]
  |a o=>rw [ho]at q;simp only;rw [Uv q]
  |m o=>rfl
end
end
section
theorem Ab.Ab1 {x y:Ab} (h:x.eqs y=true):x=y:=by
 unfold Ab.eqs at h
 split at h
 ·rw [Ab.CW h]
 ·rw [Ab.CW h]
 ·exact Ab.Di h
section
variable {Γ:Ao} {call:Cm} {all:List Step} {W:Nat->Nat->Bool}
theorem Lr {Γ:Ao} {tm:Tr Ab} {o:NO} {v:Ab}:∀{k n:Nat} {hs:List Al} {h:Al},Vv Γ tm o v k hs=true->n<k->hs[n]?=some h->Dm Γ tm h o=some v
 |0,_,_,_,_,hn,_=>by omega
 |k+1,n,[],h,ha,hn,hh=>by simp at hh
 |k+1,n,g::hs,h,ha,hn,hh=>by
  have ha:(Aay v (Dm Γ tm g o)&&Vv Γ tm o v k hs)=true:=ha
  rw [aT]at ha
  cases n with
  |zero=>
   simp only [List.getElem?_cons_zero,oI]at hh
   subst hh
   have j:=ha.1
   unfold Aay at j
   split at j
   ·rename_i u q
    rw [q,Ab.Ab1 j]
   ·cases j
  |succ n=>exact Lr (k:=k) (n:=n) ha.2 (Nat.lt_of_succ_lt_succ hn) (by simpa using hh)
theorem P8 {Γ:Ao} {s:Step} {f:Fr} {hs:List Al} {o:NO} (z:s.op=.r o) (h:L3 Γ s f hs=true) (B:CY f.tm s.guard=some true) {v:Ab} (x:Dm Γ f.tm f.h o=some v) {n:Nat} {j:Al} (q:n<s.back) (A:hs[n]?=some j):Dm Γ f.tm j o=some v:=by
 unfold L3 at h
 cases hb:s.back with
 |zero=>omega
 |succ m=>
  rw [z,hb]at h
  simp only at h
  unfold VE at h
  rw [B]at h
  simp only [x]at h
  exact Lr (k:=m+1) h (by rw [hb]at q;exact q) A
def Acb (μ:As) (h:Al) (f:Fr) (hs:List Al) (pre:List Item) (back:Nat):Prop:=
 (∀b B,μ b≠none->f.h.get b=some B->h.get b=some B)∨
 ∃n j,hs[n]?=some j/\(∀b B,μ b≠none->j.get b=some B->h.get b=some B)/\n+muts (pre.map Item.pair)<back
theorem HY:∀{l:List Item} {id:Nat} {f:Fr},(∀y∈l,y.e=none)->Yg Γ call l id f
 |[],_,_,_=>trivial
 |z::_,_,_,h=>⟨fun _ e=>(by rw [h z (by simp)]at e;cases e),.inr fun w j=>h w (by simp [j])⟩
theorem early {μ:As} {tm:Tr Ab} {h:Al} {res:Cb} {y:Item} {post:List Item} (hy:y.e=none) (I:BK y.s.op=false)
  (L:∀o,y.s.op=.r o->∀M:Al,(∀b B,μ b≠none->M.get b=some B->h.get b=some B)->∀v,Dm Γ tm M o=some v->Dm Γ tm h o=some v):
  ∀(pre:List Item) {id:Nat} {f:Fr} {hs:List Al},okD W ((pre++y::post).map Item.pair)=true->Clo W (pre++y::post)->(∀x∈pre++y::post,x.e≠none->BK x.s.op=false)->
   (∀x∈pre,x.e=none->W x.i y.i=false)->Lg Γ call all ((pre++y::post).map (·.s)) id f hs=some res->Yg Γ call (pre++y::post) id f->
   (∀t∈y.s.names,tm.get t=Gn (pre++y::post) f.tm.get t)->Acb μ h f hs pre y.s.back->
   (∀(k:Nat) (x:Item) (v:Ab) (B:Block),pre[k]?=some x->x.e=some (v,some B)->h.get (id+k)=some B)->(∀(k:Nat) (x:Item),pre[k]?=some x->x.e=none->μ (id+k)=none)->
   ∃u,Ht Γ tm h (id+pre.length) y.s=some u/\Yg Γ call (pre++{y with e:=some u}::post) id f
 |[],id,f,hs,hok,hclo,hflo,_,hd,hfut,ht,hsee,_,_=>by
  have V:=EO (x:=y.pair) (r:=post.map Item.pair) hok
  simp only [List.nil_append,List.map_cons,Gs]at hd
  obtain ⟨ae,hd⟩:=Ap hd
  obtain ⟨x,hx,hd⟩:=Ac hd
  obtain ⟨u,q,rfl⟩:=HR I hx
  have P:∀t∈y.s.names,tm.get t=f.tm.get t:=fun t N=>by
   rw [ht t N]
   simp only [List.nil_append,Gn,hy]
   refine D8 fun z H ap aa=>?_
   have R:=(V.apart z.pair (List.mem_map_of_mem H)).writes t aa N
   have U:=hclo.1 hy z H ap
   simp only [Item.pair]at R
   rw [R]at U
   cases U
  refine ⟨u,?_,?_⟩
  ·rw [UQ P]at*
   simp only [lN,Nat.add_zero]
   cases hop:y.s.op with
   |m o=>rw [hop]at I;cases I
   |p o=>
    have:Ht Γ f.tm h id y.s=Ht Γ f.tm f.h id y.s:=by unfold Ht UR;rw [hop]
    rw [this];exact q
   |a o=>
    have:Ht Γ f.tm h id y.s=Ht Γ f.tm f.h id y.s:=by unfold Ht UR;rw [hop]
    rw [this];exact q
   |r o=>
    have aA:=q
    unfold Ht at q⊢
    obtain ⟨b,hb,q⟩:=Ac q
    rw [hb]
    show (bif b then UR Γ f.tm h id y.s.op else some (Iz,none))=some u
    cases b with
    |false=>exact q
    |true=>
     simp only [cond_true]at q⊢
     rw [hop]at q⊢
     simp only [UR]at q⊢
     obtain ⟨v,hv,q⟩:=Ac q
     simp only [oI]at q
     subst q
     have X:DC tm f.tm o.BT:=EY fun t N=>P t (by
      unfold Step.names
      rw [hop]
      split
      ·exact List.mem_cons_of_mem _ N
      ·exact N)
     have ah:Dm Γ f.tm h o=some v:=by
      rw [<-Fh X]
      rcases hsee with C|⟨n,M,hh,hs2,hlt⟩
      ·exact L o hop f.h C v (by rw [Fh X];exact hv)
      ·refine L o hop M hs2 v ?_
       rw [Fh X]
       exact P8 hop ae hb hv (n:=n) (by omega) hh
     rw [ah]
     rfl
  ·refine ⟨fun u' e=>?_,hfut.2⟩
   simp only [oI]at e
   subst e
   exact q
 |x::pre,id,f,hs,hok,hclo,hflo,hW,hd,hfut,ht,hsee,hE,hN=>by
  have V:=EO (x:=x.pair) (r:=(pre++y::post).map Item.pair) hok
  have aj:y.pair∈(pre++y::post).map Item.pair:=List.mem_map_of_mem (by simp)
  have hA:=V.apart y.pair aj
  have Y:(pre++y::post).map Item.pair=pre.map Item.pair++y.pair::post.map Item.pair:=by simp
  simp only [List.cons_append,List.map_cons,Gs]at hd
  obtain ⟨ae,hd⟩:=Ap hd
  obtain ⟨r,O,hd⟩:=Ac hd
  have af:x.e=none->BK x.s.op=true->muts (pre.map Item.pair)<y.s.back:=fun A j=>by
   have hb:=V.back j
   rw [Y]at hb
   have:=IU hb I (hW x (by simp) A)
   simp only [Item.pair]at this⊢
   omega
  have J:x.e≠none->BK x.s.op=false:=fun A=>hflo x (by simp) A
  cases r with
  |panic v f1=>
   exfalso
   have j:BK x.s.op=true:=by
    cases hb:BK x.s.op with
    |true=>rfl
    |false=>
     obtain ⟨u,_,e⟩:=HR hb O
     cases e
   have A:x.e=none:=by
    cases hb:x.e with
    |none=>rfl
    |some u=>rw [J (by rw [hb];simp)]at j;cases j
   simp only [SD]at hd
   obtain ⟨ao,_⟩:=Ap hd
   have ag:KA ((pre.map Item.pair++y.pair::post.map Item.pair).map (·.2)) 0=true:=by
    rw [<-Y]
    rw [List.map_map]
    exact ao
   have R:=HC ag I
   have U:=af A j
   simp only [Item.pair]at R U
   omega
  |go f'=>
   simp only [SD]at hd
   obtain ⟨v,hv⟩:=ZB O
   have ad:Yg Γ call (pre++y::post) (id+1) f':=by
    rcases hfut.2 with ⟨g,hg,hf⟩|hf
    ·rw [O]at hg
     simp only [oI,Cb.go.injEq]at hg
     subst hg
     exact hf
    ·exact HY hf
   have al:∀t∈y.s.names,tm.get t=Gn (pre++y::post) f'.tm.get t:=fun t N=>by
    rw [ht t N]
    simp only [List.cons_append,Gn]
    cases A:x.e with
    |none=>
     simp only
     refine Eb ?_
     rw [hv,DJ]
     rw [if_neg]
     intro hd
     have R:=hA.reads t hd N
     have U:=hW x (by simp) A
     simp only [Item.pair]at R
     rw [R]at U
     cases U
    |some u=>
     simp only
     have j:=J (by rw [A];simp)
     have Q:=hfut.1 u A
     rw [Jg j Q]at O
     simp only [oI,Cb.go.injEq]at O
     subst O
     by_cases hd:x.s.dst=some t
     ·rw [if_pos hd,D8,DJ,if_pos hd]
      intro z H _ aa
      exact (V.apart z.pair (List.mem_map_of_mem H)).dst t hd aa
     ·rw [if_neg hd]
      exact Eb (by rw [DJ,if_neg hd])
   have ac:Acb μ h f' (bif BK x.s.op then f.h::hs else Mq id (KY f.h f'.h id) hs) pre y.s.back:=by
    cases j:BK x.s.op with
    |true=>
     have A:x.e=none:=by
      cases hb:x.e with
      |none=>rfl
      |some u=>rw [J (by rw [hb];simp)]at j;cases j
     rcases hsee with C|⟨n,M,hh,hs2,hlt⟩
     ·exact .inr ⟨0,f.h,rfl,C,by have:=af A j;omega⟩
     ·refine .inr ⟨n+1,M,by simpa using hh,hs2,?_⟩
      have:muts ((x::pre).map Item.pair)=muts (pre.map Item.pair)+1:=by
       simp only [muts,List.map_cons,List.countP_cons]
       simp only [Item.pair,j,if_true]
      omega
    |false=>
     simp only [cond_false]
     obtain ⟨u,q,e⟩:=HR j O
     simp only [Cb.go.injEq]at e
     have Z:∀g:Al,(∀b B,μ b≠none->g.get b=some B->h.get b=some B)->∀b B,μ b≠none->(Ge g id u.2).get b=some B->h.get b=some B:=fun g C b B hb hB=>by
      simp only [Eo]at hB
      split at hB
      ·rename_i B' eB
       split at hB
       ·rename_i eb
        simp only [oI]at hB
        subst hB
        cases A:x.e with
        |none=>
         have:=hN 0 x rfl A
         rw [Nat.add_zero]at this
         rw [eb]at hb
         exact absurd this hb
        |some u'=>
         have Q:=hfut.1 u' A
         rw [q]at Q
         simp only [oI]at Q
         subst Q
         have:=hE 0 x u.1 B' rfl (by rw [A,<-eB])
         rw [eb];simpa using this
       ·exact C b B hb hB
      ·exact C b B hb hB
     have az:muts ((x::pre).map Item.pair)=muts (pre.map Item.pair):=by
      simp only [muts,List.map_cons,List.countP_cons]
      simp only [Item.pair,j]
      simp
     rcases hsee with C|⟨n,M,hh,hs2,hlt⟩
     ·left
      rw [e]
      exact Z f.h C
     ·have ak:(Ge f.h id u.2).get id=match u.2 with|some B=>some B|none=>f.h.get id:=by rw [Eo];cases u.2<;>simp
      cases hg:f.h.get id with
      |some B0=>
       have I:KY f.h f'.h id=none:=by unfold KY;rw [hg]
       rw [I]
       exact .inr ⟨n,M,hh,hs2,by omega⟩
      |none=>
       have I:KY f.h f'.h id=u.2:=by
        unfold KY;rw [hg,e];show (Ge f.h id u.2).get id=u.2
        rw [ak,hg];cases u.2<;>rfl
       rw [I]
       exact .inr ⟨n,_,Xm hh,Z M hs2,by omega⟩
   obtain ⟨u,q,hF⟩:=early hy I L pre V.rest hclo.2 (fun z H=>hflo z (by simp only [List.cons_append,List.mem_cons];exact .inr H)) (fun z H=>hW z (by simp [H])) hd ad al ac
    (fun k z v B H A=>by have:=hE (k+1) z v B (by simpa using H) A;rw [show id+(k+1)=id+1+k from by omega]at this;exact this)
    (fun k z H A=>by have:=hN (k+1) z (by simpa using H) A;rw [show id+(k+1)=id+1+k from by omega]at this;exact this)
   refine ⟨u,?_,hfut.1,.inl ⟨f',O,hF⟩⟩
   rw [lC,show id+(pre.length+1)=id+1+pre.length from by omega]
   exact q
end
end
section
section
variable {ρ:Env} {μ μ' μ0:As} {h h' h0 h1:Al} {w w' w0:World}
theorem Av.sub (H:AD ρ μ h w) (q:h'.next=h.next) (j:h'.fx=h.fx) (hs:∀b B,h'.get b=some B->h.get b=some B):Av ρ μ h w μ h' w:=
 ⟨μ.le_refl,H.drop _ q j hs,Nat.le_refl _,fun r _ v=>⟨rfl,fun ⟨c,B,δ,hc,hm⟩=>v ⟨c,B,δ,hs c B hc,hm⟩⟩,rfl,rfl,Nat.le_of_eq q.symm,fun _ _=>rfl,fun _ _ h=>.inl h,j⟩
theorem Av.under (H:AD ρ μ h w) (hn:h0.next=h.next) (hs:∀b B,h0.get b=some B->h.get b=some B) (g:Av ρ μ h0 w μ' h1 w') (ag:h'.next=h1.next) (Q:h'.fx=h1.fx) (Z:h0.fx=h.fx)
  (N:∀b B,h'.get b=some B->h1.get b=some B∨(h.get b=some B/\h0.get b=none)):Av ρ μ h w μ' h' w':=by
 have un:∀{b B r δ},h.get b=some B->h0.get b=none->μ b=some (r,δ)->¬AF μ h0 r:=fun {b B r δ} hb h0b j ⟨c,C,M,hc,hmc⟩=>by
  have:=H.inj _ _ _ _ _ _ _ (hs c C hc) hb hmc j
  subst this
  rw [h0b]at hc
  cases hc
 have old:∀{b B},h.get b=some B->h0.get b=none->∃r δ,μ b=some (r,δ)/\μ' b=some (r,δ)/\w'.heap[r]?=w.heap[r]?/\¬AF μ' h1 r/\C3 ρ μ B w.heap[r]? δ:=fun {b B} hb h0b=>by
  obtain ⟨r,δ,j,hB⟩:=H.blk b B hb
  obtain ⟨k1,R⟩:=g.kept r (H.lt hb j) (un hb h0b j)
  exact ⟨r,δ,j,g.le.to _ _ j,k1,R,hB⟩
 have L:∀r,r<w.heap.size->¬AF μ h r->w'.heap[r]?=w.heap[r]?/\¬AF μ' h' r:=fun r hr ho=>by
  have x:¬AF μ h0 r:=fun ⟨c,C,δ,hc,j⟩=>ho ⟨c,C,δ,hs c C hc,j⟩
  obtain ⟨k1,R⟩:=g.kept r hr x
  refine ⟨k1,?_⟩
  rintro ⟨b,B,δ,hb,j⟩
  rcases N b B hb with h1b|⟨hb',h0b⟩
  ·exact R ⟨b,B,δ,h1b,j⟩
  ·obtain ⟨V,M,q,v,_⟩:=old hb' h0b
   rw [v]at j
   simp only [oI,Prod.mk.injEq]at j
   obtain ⟨rfl,_⟩:=j
   exact ho ⟨b,B,M,hb',q⟩
 have U:∀k o,μ'.AQ k=some o->μ.AQ k=some o∨AF μ h k∨w.heap.size<=k:=fun k o J=>by
  rcases g.icy k o J with h1|⟨c,C,δ,hc,j⟩|h1
  ·exact .inl h1
  ·exact .inr (.inl ⟨c,C,δ,hs c C hc,j⟩)
  ·exact .inr (.inr h1)
 have P:Yi ρ μ' h' w':=by
  refine ⟨fun k o J=>?_,fun k o J=>?_,Q▸g.rel.AJ.facts⟩
  ·obtain ⟨O,X⟩:=H.AJ.AJ k o J
   obtain ⟨q3,q4⟩:=L k (Array.getElem?_eq_some_iff.1 O).1 X
   exact ⟨q3.trans O,q4⟩
  ·obtain ⟨O,X⟩:=g.rel.AJ.AQ k o J
   refine ⟨O,?_⟩
   rintro ⟨b,B,δ,hb,j⟩
   rcases N b B hb with h1b|⟨hb',h0b⟩
   ·exact X ⟨b,B,δ,h1b,j⟩
   ·obtain ⟨V,M,q,v,_⟩:=old hb' h0b
    rw [v]at j
    simp only [oI,Prod.mk.injEq]at j
    obtain ⟨rfl,_⟩:=j
    rcases g.icy _ o J with i1|i1|i1
    ·exact (H.AJ.AQ _ o i1).2 ⟨b,B,M,hb',q⟩
    ·exact un hb' h0b q i1
    ·have:=H.lt hb' q;omega
 refine ⟨g.le,⟨fun b hb=>g.rel.fresh b (by omega),fun b B hb=>?_,fun b c B C r δ M hb hc I A=>?_,P⟩,g.size,L,g.os,g.output,by have:=g.next;omega,fun b hb=>g.old b (by omega),U,by rw [Q,g.fx,Z]⟩
 ·rcases N b B hb with h1b|⟨hb',h0b⟩
  ·exact g.rel.blk b B h1b
  ·obtain ⟨r,δ,_,z,J,_,hB⟩:=old hb' h0b
   exact ⟨r,δ,z,by rw [J];exact hB.mono g.le⟩
 ·rcases N b B hb with h1b|⟨hb',h0b⟩<;>rcases N c C hc with h1c|⟨hc',h0c⟩
  ·exact g.rel.inj _ _ _ _ _ _ _ h1b h1c I A
  ·obtain ⟨V,δ2,_,z,_,x,_⟩:=old hc' h0c
   rw [z]at A
   simp only [oI,Prod.mk.injEq]at A
   obtain ⟨rfl,_⟩:=A
   exact absurd ⟨b,B,δ,h1b,I⟩ x
  ·obtain ⟨V,δ2,_,z,_,x,_⟩:=old hb' h0b
   rw [z]at I
   simp only [oI,Prod.mk.injEq]at I
   obtain ⟨rfl,_⟩:=I
   exact absurd ⟨c,C,M,h1c,A⟩ x
  ·obtain ⟨r1,δ1,q,v,_⟩:=old hb' h0b
   obtain ⟨r2,δ2,ac,Y,_⟩:=old hc' h0c
   rw [v]at I
   rw [Y]at A
   simp only [oI,Prod.mk.injEq]at I A
   obtain ⟨rfl,rfl⟩:=I
   obtain ⟨rfl,rfl⟩:=A
   exact H.inj _ _ _ _ _ _ _ hb' hc' q ac
theorem Av.Al6 (g:Av ρ μ0 h0 w0 μ h w) {id:Nat} (P:h0.next<=id) (I:μ id=none) (O:id<h.next) (B:Block) (o:Obj) (δ:Nat×Nat)
  (hB:∀μ':As,μ.le μ'->C3 ρ μ' B (some o) δ):Av ρ μ0 h0 w0 (μ.put id (w.heap.size,δ)) (Ge h id (some B)) (w.alloc o):=by
 have H:=g.rel
 have z:μ.le (μ.put id (w.heap.size,δ)):=As.QD I
 have x:∀b q r v,(Ge h id (some B)).get b=some q->μ.put id (w.heap.size,δ) b=some (r,v)->(b=id/\r=w.heap.size)∨(h.get b=some q/\μ b=some (r,v)/\r<w.heap.size):=fun b q r v hb j=>by
  rw [Eo]at hb
  by_cases e:b=id
  ·subst e
   rw [As.BC]at j
   simp only [oI,Prod.mk.injEq]at j
   exact .inl ⟨rfl,j.1.symm⟩
  ·simp only [if_neg e]at hb
   rw [As.BX _ _ e]at j
   exact .inr ⟨hb,j,H.lt hb j⟩
 have N:(w.alloc o).heap.size=w.heap.size+1:=by show (w.heap.push o).size=_;simp
 refine ⟨As.le_trans g.le z,⟨fun b hb=>?_,fun b q hb=>?_,fun b Q B1 R r V U h1 L m1 m2=>?_,H.FZ (fun r A C=>⟨World.Ds _ _ A,?_⟩)⟩,by have:=g.size;omega,fun r A C=>?_,g.os,g.output,by rw [EI];exact g.next,fun b hb=>?_,fun k o M=>g.icy k o M,g.fx⟩
 ·rw [EI]at hb
  rw [As.BX _ _ (by omega)]
  exact H.fresh b hb
 ·rw [Eo]at hb
  by_cases e:b=id
  ·subst e
   simp only [if_true,oI]at hb
   subst hb
   exact ⟨_,_,As.BC _ _ _,by rw [World.heap_alloc_new];exact hB _ z⟩
  ·simp only [if_neg e]at hb
   obtain ⟨r,v,j,A⟩:=H.blk b q hb
   exact ⟨r,v,by rw [As.BX _ _ e];exact j,by rw [World.Ds _ _ (H.lt hb j)];exact A.mono z⟩
 ·rcases x _ _ _ _ h1 m1 with ⟨e1,e2⟩|⟨g1,n1,l1⟩<;>rcases x _ _ _ _ L m2 with ⟨e3,e4⟩|⟨g2,n2,l2⟩
  ·rw [e1,e3]
  ·omega
  ·omega
  ·exact H.inj _ _ _ _ _ _ _ g1 g2 n1 n2
 ·rintro ⟨b,q,v,hb,j⟩
  rcases x _ _ _ _ hb j with ⟨_,e⟩|⟨g1,n1,_⟩
  ·omega
  ·exact C ⟨b,q,v,g1,n1⟩
 ·obtain ⟨k1,J⟩:=g.kept r A C
  have:=g.size
  refine ⟨by rw [World.Ds _ _ (by omega)];exact k1,?_⟩
  rintro ⟨b,q,v,hb,j⟩
  rcases x _ _ _ _ hb j with ⟨_,e⟩|⟨g1,n1,_⟩
  ·omega
  ·exact J ⟨b,q,v,g1,n1⟩
 ·rw [As.BX _ _ (by omega)]
  exact g.old b hb
theorem Av.reserve (H:AD ρ μ h w) (n:Nat):Av ρ μ h w μ ⟨h.DE,h.next+n,h.fx⟩ w:=
 ⟨μ.le_refl,⟨fun b hb=>H.fresh b (by have:h.next+n<=b:=hb;omega),H.blk,H.inj,H.AJ.of (fun _ _ j=>⟨rfl,j⟩) rfl rfl⟩,Nat.le_refl _,fun _ _ j=>⟨rfl,j⟩,rfl,rfl,Nat.le_add_right _ _,fun _ _=>rfl,fun _ _ h=>.inl h,rfl⟩
end
section
variable {P:Program} {Γ:Ao} {ρ:Env} {μ:As} {tm:Tr Ab} {a:Act} {w:World} {h:Al} {pl:List Co} {nt:Nat} {ops:Array Oper} {call:Cm}
theorem XF (hΓ:Γ.AB ρ) (J:AP ρ μ tm a) (R:nt<=a.tmps.size) (H:AD ρ μ h w) {o:Oper} {s:Step} {i:Nat} (U:ops[i]?=some o) (hs:NG P pl nt ops o s) {id:Nat} {u:Ab×Option Block}
  (j:Ht Γ tm h id s=some u) {K:Act->World->Prop} {Q:Exit->Act->World->Prop} (L:u.2=none->∀v,Ah ρ μ u.1 v->K (a.put s.dst v) w)
  (N:∀B,u.2=some B->∀M m v,(∀μ':As,μ.le μ'->C3 ρ μ' B (some M) (0,m))->(∀μ':As,μ.le μ'->μ' id=some (w.heap.size,0,m)->Ah ρ μ' u.1 v)->K (a.put s.dst v) (w.alloc M)):wpOp P ops Q i K a w:=by
 refine JT U ?_
 unfold Ht at j
 obtain ⟨b,hb,j⟩:=Ac j
 rw [E8 J hs.guard (fun d b e=>Nat.lt_of_lt_of_le (hs.seen d b e) R) hb]
 rw [hs.dst]at L N
 cases b with
 |false=>
  simp only [cond_false,oI]at j
  subst j
  simp only [Bool.false_eq_true,if_false]
  exact L rfl _ Iy
 |true=>
  simp only [cond_true]at j
  simp only [if_true]
  have z:=hs.op
  unfold UR at j
  split at j
  ·rename_i q I
   rw [I]at z
   obtain ⟨v,C,j⟩:=Ac j
   simp only [oI]at j
   subst j
   obtain ⟨O,x,A⟩:=M1 (w:=w) hΓ J z C
   unfold Oper.wp
   rw [x]
   exact L rfl _ A
  ·rename_i q I
   rw [I]at z
   obtain ⟨v,C,j⟩:=Ac j
   simp only [oI]at j
   subst j
   obtain ⟨O,x,A⟩:=Mz hΓ H J z C
   unfold Oper.wp
   rw [x]
   exact L rfl _ A
  ·rename_i q I
   rw [I]at z
   obtain ⟨⟨B,v⟩,C,j⟩:=Ac j
   simp only [oI]at j
   subst j
   obtain ⟨M,O,x,m,hB,A⟩:=OK (w:=w) J z C
   unfold Oper.wp
   rw [x]
   exact N B rfl M m O hB A
  ·cases j
theorem H9 {q:Array Bool} {j:Nat} (B:j∈Region.ready .any ops q):∀e∈CM ops j,q.getD e false=true:=fun e v=>by
 obtain ⟨_,o,A,z⟩:=mem_ready.1 B
 unfold CM at v
 rw [A]at v
 simp only [List.mem_map,List.mem_filter]at v
 obtain ⟨x,⟨C,hb⟩,rfl⟩:=v
 exact z x (Array.mem_toList_iff.1 C) hb
theorem My {q:Array Bool} {j:Nat} {o:Oper} (v:ops[j]?=some o) (hl:q.getD j true=false) (h:∀e∈CM ops j,q.getD e false=true):j∈Region.ready .any ops q:=
 mem_ready.2 ⟨hl,o,v,fun e x hb=>h e.on (by
  unfold CM
  rw [v]
  simp only [List.mem_map,List.mem_filter]
  exact ⟨e,⟨Array.mem_toList_iff.2 x,hb⟩,rfl⟩)⟩
theorem Jb {before:List Nat} (A:Ix ops before=true) {q:Array Bool} (hc:∀j,q.getD j false=true->∀e∈CM ops j,q.getD e false=true):
  ∀(n j:Nat),j<n->j<ops.size->(∀e∈CM ops j,q.getD e false=true)->∀i,i<ops.size->waits before i j=true->q.getD i false=true
 |0,_,hj,_,_,_,_,_=>by omega
 |n+1,j,hj,hjs,hl,i,hi,hw=>by
  unfold Ix at A
  have h1:=List.all_eq_true.1 A j (List.mem_range.2 hjs)
  have B:=List.all_eq_true.1 h1 i (List.mem_range.2 hi)
  rw [hw]at B
  simp only [Bool.not_true,Bool.false_or,List.any_eq_true,aT,Bool.or_eq_true]at B
  obtain ⟨e,C,x,v⟩:=B
  have x:e<j:=AI.1 x
  have z:=hl e C
  rcases v with v|v
  ·rw [<-An.1 v];exact z
  ·exact Jb A hc n e (by omega) (by omega) (hc e z) i hi v
end
end
section
section
variable {P:Program} {Γ:Ao} {ρ:Env} {μ:As} {tm:Tr Ab} {a:Act} {w:World} {h:Al} {pl:List Co} {nt:Nat} {ops:Array Oper} {call:Cm} {all:List Step} {W:Nat->Nat->Bool} {before:List Nat}
 {res:Cb} {μ0:As} {h0:Al} {w0:World}
structure GM (P:Program) (Γ:Ao) (ρ:Env) (call:Cm) (pl:List Co) (nt:Nat) (ops:Array Oper) (W:Nat->Nat->Bool) (all:List Step) (res:Cb) (μ0:As) (h0:Al) (w0:World)
  (q:List Item) (id:Nat) (f:Fr) (hs:List Al) (listed:Array Bool) (μ:As) (tm:Tr Ab) (h:Al) (a:Act) (w:World):Prop where
 ok:okD W (q.map Item.pair)=true
 src:∀x∈q,∃o,ops[x.i]?=some o/\NG P pl nt ops o x.s
 sub:∀x∈q,x.s∈all
 clo:Clo W q
 flo:∀x∈q,x.e≠none->BK x.s.op=false
 run:Lg Γ call all (q.map (·.s)) id f hs=some res
 fut:Yg Γ call q id f
 tmps:∀t,tm.get t=Gn q f.tm.get t
 tr:AP ρ μ tm a
 size:nt<=a.tmps.size
 mem:∀b,h.get b=Eu q id f.h.get b
 next:h.next=f.h.next
 Fm:Av ρ μ0 h0 w0 μ h w
 low:h0.next<=id
 high:id+q.length<=f.h.next
 free:∀k,k<q.length->f.h.get (id+k)=none
 unb:∀k x,q[k]?=some x->(∀v B,x.e≠some (v,some B))->μ (id+k)=none
 defs:C1 ρ μ f.df a.defers
 lsize:listed.size=ops.size
 lst:∀i,i<ops.size->(listed.getD i true=false↔∃x∈q,x.i=i/\x.e=none)
 closed:∀j,listed.getD j false=true->∀e∈CM ops j,listed.getD e false=true
 lin:X5 ops (q.map (·.i))=true
 fx:h.fx=f.h.fx
theorem Wk (h:Al) (id:Nat) (b:Option Block):(Ge h id b).fx=h.fx:=by cases b<;>rfl
theorem Ku {i:Nat} {r:List Nat} (h:X5 ops (i::r)=true):(∀e∈CM ops i,e<i/\e∉r)/\X5 ops r=true:=by
 simp only [X5,aT,List.all_eq_true]at h
 refine ⟨fun e q=>?_,h.2⟩
 have j:=h.1 e q
 refine ⟨AI.1 j.1,fun v=>?_⟩
 have:r.any (Nat.beq e)=true:=any_beq.2 v
 rw [this]at j;simp at j
theorem GM.skip {x:Item} {r:List Item} {id:Nat} {f:Fr} {hs:List Al} {A:Array Bool} (D:GM P Γ ρ call pl nt ops W all res μ0 h0 w0 (x::r) id f hs A μ tm h a w) {u:Ab×Option Block} (C:x.e=some u):
  ∃Q N,GM P Γ ρ call pl nt ops W all res μ0 h0 w0 r (id+1) Q N A μ tm h a w:=by
 have L:=EO (x:=x.pair) (r:=r.map Item.pair) D.ok
 have J:=D.flo x (by simp) (by rw [C];simp)
 have U:=D.fut.1 u C
 have I:=Jg (call:=call) J U
 have j:=D.run
 simp only [List.map_cons,Gs]at j
 obtain ⟨_,j⟩:=Ap j
 rw [I]at j
 have j:Lg Γ call all (r.map (·.s)) (id+1) ⟨DK f.tm x.s.dst u.1,Ge f.h id u.2,f.df⟩ (bif BK x.s.op then f.h::hs else Mq id (KY f.h (Ge f.h id u.2) id) hs)=some res:=j
 rw [J]at j
 have H:∀b,b≠id->(Ge f.h id u.2).get b=f.h.get b:=fun b hb=>by
  rw [Eo]
  split
  ·rw [if_neg hb]
  ·rfl
 have M:=D.high
 simp only [lC]at M
 refine ⟨_,_,⟨L.rest,fun z q=>D.src z (by simp [q]),fun z q=>D.sub z (by simp [q]),D.clo.2,fun z q=>D.flo z (by simp [q]),j,?_,fun t=>?_,D.tr,D.size,fun b=>?_,?_,D.Fm,?_,?_,fun k X=>?_,fun k z q V=>?_,D.defs,D.lsize,fun i R=>?_,D.closed,(Ku D.lin).2,by rw [D.fx];exact (Wk _ _ _).symm⟩⟩
 ·rcases D.fut.2 with ⟨g,hg,hf⟩|hf
  ·rw [I]at hg
   simp only [oI,Cb.go.injEq]at hg
   subst hg
   exact hf
  ·exact HY hf
 ·rw [D.tmps t]
  simp only [Gn,C]
  by_cases hd:x.s.dst=some t
  ·rw [if_pos hd,D8,DJ,if_pos hd]
   intro z q _ O
   exact (L.apart z.pair (List.mem_map_of_mem q)).dst t hd O
  ·rw [if_neg hd]
   exact Eb (by rw [DJ,if_neg hd])
 ·rw [D.mem b]
  obtain ⟨v,B⟩:=u
  simp only [Eu,C]
  cases B with
  |none=>simp only;exact Gp rfl
  |some B=>
   simp only
   by_cases hb:b=id
   ·rw [if_pos hb,IJ (by omega),Eo]
    simp [hb]
   ·rw [if_neg hb]
    exact Gp (H b hb).symm
 ·rw [D.next];exact (EI _ _ _).symm
 ·have:=D.low;omega
 ·show id+1+r.length<=(Ge f.h id u.2).next
  rw [EI];omega
 ·show (Ge f.h id u.2).get (id+1+k)=none
  rw [H _ (by omega)]
  have:=D.free (k+1) (by simp;omega)
  rw [show id+1+k=id+(k+1)from by omega];exact this
 ·have:=D.unb (k+1) z (by simpa using q) V
  rw [show id+1+k=id+(k+1)from by omega];exact this
 ·rw [D.lst i R]
  constructor
  ·rintro ⟨z,q,e1,e2⟩
   simp only [List.mem_cons]at q
   rcases q with rfl|q
   ·rw [C]at e2;cases e2
   ·exact ⟨z,q,e1,e2⟩
  ·rintro ⟨z,q,e1,e2⟩
   exact ⟨z,by simp [q],e1,e2⟩
theorem Wo:∀{pre:List Item} {y:Item} {post:List Item},okD W ((pre++y::post).map Item.pair)=true->(∀x∈pre,Xd W x.pair y.pair)/\∀z∈post,Xd W y.pair z.pair
 |[],y,post,h=>⟨fun _ A=>(by cases A),fun z j=>(EO (x:=y.pair) (r:=post.map Item.pair) h).apart z.pair (List.mem_map_of_mem j)⟩
 |x::pre,y,post,h=>by
  have q:=EO (x:=x.pair) (r:=(pre++y::post).map Item.pair) h
  obtain ⟨v,B⟩:=Wo (pre:=pre) q.rest
  refine ⟨fun z j=>?_,B⟩
  simp only [List.mem_cons]at j
  rcases j with rfl|j
  ·exact q.apart y.pair (List.mem_map_of_mem (by simp))
  ·exact v z j
theorem SM {g:Nat->Option Ab} {u:Ab×Option Block} {y:Item} {post:List Item} (j:y.e=none) {t:Nat}:∀{pre:List Item},(∀x∈pre,x.e≠none->x.s.dst=some t->y.s.dst≠some t)->
  Gn (pre++{y with e:=some u}::post) g t=if y.s.dst=some t then some u.1 else Gn (pre++y::post) g t
 |[],_=>by simp [Gn,j]
 |x::pre,h=>by
  have ih:=SM (g:=g) (u:=u) (y:=y) (post:=post) j (t:=t) (pre:=pre) fun z q=>h z (by simp [q])
  simp only [List.cons_append,Gn]
  cases hx:x.e with
  |none=>exact ih
  |some v=>
   simp only
   rw [ih]
   by_cases h1:x.s.dst=some t
   ·rw [if_pos h1,if_pos h1,if_neg (h x (by simp) (by rw [hx];simp) h1)]
   ·rw [if_neg h1,if_neg h1]
theorem Nd {g:Nat->Option Block} {v:Ab} {oB:Option Block} {y:Item} {post:List Item} (j:y.e=none) {b:Nat}:∀{pre:List Item} {id:Nat},
  Eu (pre++{y with e:=some (v,oB)}::post) id g b=match oB with|some B=>if b=id+pre.length then some B else Eu (pre++y::post) id g b|none=>Eu (pre++y::post) id g b
 |[],id=>by cases oB<;>simp [Eu,j]
 |x::pre,id=>by
  have ih:=Nd (g:=g) (v:=v) (oB:=oB) (y:=y) (post:=post) j (b:=b) (pre:=pre) (id:=id+1)
  simp only [List.cons_append,Eu,lC]
  rw [ih]
  cases oB with
  |none=>rfl
  |some B=>
   simp only
   rw [show id+1+pre.length=id+(pre.length+1)from by omega]
   by_cases hb:b=id+(pre.length+1)
   ·rw [if_pos hb,if_pos hb]
    split
    ·rw [if_neg (by omega)]
    ·rfl
   ·rw [if_neg hb,if_neg hb]
theorem WJ {y:Item} {post:List Item} {u:Ab×Option Block}:∀{pre:List Item},Clo W (pre++y::post)->(∀x∈pre,x.e=none->W x.i y.i=false)->Clo W (pre++{y with e:=some u}::post)
 |[],h,_=>⟨fun e=>(by cases e),h.2⟩
 |x::pre,h,hW=>by
  refine ⟨fun v z j q=>?_,WJ h.2 fun z j=>hW z (by simp [j])⟩
  have j:z∈pre++{y with e:=some u}::post:=j
  simp only [List.mem_append,List.mem_cons]at j
  rcases j with j|rfl|j
  ·exact h.1 v z (by simp [j]) q
  ·exact hW x (by simp) v
  ·exact h.1 v z (by simp [j]) q
theorem GM.lt {q:List Item} {id:Nat} {f:Fr} {hs:List Al} {j:Array Bool} (D:GM P Γ ρ call pl nt ops W all res μ0 h0 w0 q id f hs j μ tm h a w) {x:Item} (z:x∈q):x.i<ops.size:=by
 obtain ⟨o,v,_⟩:=D.src x z
 exact (Array.getElem?_eq_some_iff.1 v).1
theorem Abr {j:Array Bool} {i:Nat} (h:j.getD i true=false):j.getD i false=false:=by
 rcases Nat.lt_or_ge i j.size with h'|h'
 ·simp [h']at h⊢;exact h
 ·simp [Array.getElem?_eq_none h']at h
theorem GM.apart {q:List Item} {id:Nat} {f:Fr} {hs:List Al} {v:Array Bool} (D:GM P Γ ρ call pl nt ops (waits before) all res μ0 h0 w0 q id f hs v μ tm h a w) (B:Ix ops before=true) {x:Item} (z:x∈q) (H:x.e=none)
  {j:Nat} (C:j<ops.size) (J:∀e∈CM ops j,v.getD e false=true):waits before x.i j=false:=by
 cases hw:waits before x.i j with
 |false=>rfl
 |true=>
  have I:=Jb B D.closed (j+1) j (by omega) C J x.i (D.lt z) hw
  have A:=Abr ((D.lst x.i (D.lt z)).2 ⟨x,z,rfl,H⟩)
  rw [I]at A
  cases A
theorem Nz {q:Array Bool} (hc:∀j,q.getD j false=true->∀e∈CM ops j,q.getD e false=true) {i:Nat} (z:∀e∈CM ops i,q.getD e false=true):
  ∀j,(q.setIfInBounds i true).getD j false=true->∀e∈CM ops j,(q.setIfInBounds i true).getD e false=true:=fun j v e x=>by
 refine getD_set_true ?_
 by_cases hij:i=j
 ·exact z e (hij▸x)
 ·rw [getD_set_ne false hij]at v
  exact hc j v e x
theorem Iu {j:Array Bool} {i:Nat} (h:i<j.size):(j.setIfInBounds i true).getD i true=true:=by
 simp [h]
theorem QT {y:Item} {pre post:List Item} {z:Item} (k:Nat):(pre++z::post)[k]?=if k=pre.length then some z else (pre++y::post)[k]?:=by
 by_cases hk:k=pre.length
 ·subst hk
  simp
 ·rw [if_neg hk]
  by_cases hlt:k<pre.length
  ·rw [List.getElem?_append_left hlt,List.getElem?_append_left hlt]
  ·rw [List.getElem?_append_right (by omega),List.getElem?_append_right (by omega)]
   have:k-pre.length=(k-pre.length-1)+1:=by omega
   rw [this,List.getElem?_cons_succ,List.getElem?_cons_succ]
theorem GM.Ads {pre:List Item} {y:Item} {post:List Item} {id:Nat} {f:Fr} {hs:List Al} {A:Array Bool} (D:GM P Γ ρ call pl nt ops (waits before) all res μ0 h0 w0 (pre++y::post) id f hs A μ tm h a w)
  (hΓ:Γ.AB ρ) (hv:Ix ops before=true) (U:y.e=none) (hm:BK y.s.op=false) (hr:y.i∈Region.ready .any ops A) {K:Act->World->Prop} {Q:Exit->Act->World->Prop}
  (hK:∀u I ah M a' w',GM P Γ ρ call pl nt ops (waits before) all res μ0 h0 w0 (pre++{y with e:=some u}::post) id f hs (A.setIfInBounds y.i true) I ah M a' w'->K a' w'):wpOp P ops Q y.i K a w:=by
 have O:y∈pre++y::post:=by simp
 obtain ⟨o,ho,R⟩:=D.src y O
 have ac:=D.lt O
 have aa:=H9 hr
 have hW:∀x∈pre++y::post,x.e=none->waits before x.i y.i=false:=fun x j N=>D.apart hv j N ac aa
 obtain ⟨ab,ag⟩:=Wo D.ok
 have ap:(pre++y::post)[pre.length]?=some y:=by simp
 have V:μ (id+pre.length)=none:=D.unb _ _ ap fun v B e=>by rw [U]at e;cases e
 have al:=D.high
 simp only [lA,lC]at al
 obtain ⟨u,hu,ae⟩:=early (Γ:=Γ) (call:=call) (all:=all) (W:=waits before) (μ:=μ) (tm:=tm) (h:=h) (res:=res) (y:=y) (post:=post) U hm
  (fun q hq z hh v H=>Uk D.tr (by rw [<-hq];exact R.op) hh H) pre D.ok D.clo D.flo (fun x j N=>hW x (by simp [j]) N) D.run D.fut (fun t _=>D.tmps t)
  (.inl fun b B hb hB=>by
   rw [D.mem b]
   rw [Nc]
   ·exact hB
   ·intro k x v B' z j e
    have ao:=(List.getElem?_eq_some_iff.1 z).1
    have:=D.free k ao
    rw [<-e,hB]at this
    cases this)
  (fun k x v B z j=>by
   rw [D.mem]
   exact Rf (by rw [List.getElem?_append_left (List.getElem?_eq_some_iff.1 z).1];exact z) j)
  (fun k x z j=>D.unb k x (by rw [List.getElem?_append_left (List.getElem?_eq_some_iff.1 z).1];exact z) fun v B e=>by rw [j]at e;cases e)
 have fin:∀(I:As) (M:Al) (w':World) (v:Value),μ.le I->Ah ρ I u.1 v->Av ρ μ0 h0 w0 I M w'->M.next=h.next->(∀b,M.get b=Eu (pre++{y with e:=some u}::post) id f.h.get b)->(∀b,b≠id+pre.length->I b=μ b)->(u.2=none->I=μ)->
   GM P Γ ρ call pl nt ops (waits before) all res μ0 h0 w0 (pre++{y with e:=some u}::post) id f hs (A.setIfInBounds y.i true) I (DK tm y.s.dst u.1) M (a.put y.s.dst v) w':=fun I M w' v L H hg X af hμ ai=>by
  have C:∀{x:Item},x∈pre++{y with e:=some u}::post->x∈pre++y::post∨x={y with e:=some u}:=fun {x} j=>by
   simp only [List.mem_append,List.mem_cons]at j⊢
   rcases j with j|rfl|j
   ·exact .inl (.inl j)
   ·exact .inr rfl
   ·exact .inl (.inr (.inr j))
  have Y:(pre++{y with e:=some u}::post).map Item.pair=(pre++y::post).map Item.pair:=by simp [Item.pair]
  have Z:(pre++{y with e:=some u}::post).map (·.s)=(pre++y::post).map (·.s):=by simp
  have ad:(pre++{y with e:=some u}::post).map (·.i)=(pre++y::post).map (·.i):=by simp
  refine ⟨by rw [Y];exact D.ok,fun x j=>?_,fun x j=>?_,WJ D.clo fun x j N=>hW x (by simp [j]) N,fun x j N=>?_,by rw [Z];exact D.run,ae,fun t=>?_,(D.tr.mono L).put (fun t e=>?_) H,by rw [Act.Mm];exact D.size,af,by rw [X];exact D.next,hg,D.low,?_,fun k z=>?_,fun k x z j=>?_,?_,by simp [D.lsize],fun i hi=>?_,Nz D.closed aa,by rw [ad];exact D.lin,by rw [hg.fx,<-D.Fm.fx];exact D.fx⟩
  ·rcases C j with j|rfl
   ·exact D.src x j
   ·exact D.src y O
  ·rcases C j with j|rfl
   ·exact D.sub x j
   ·exact D.sub y O
  ·rcases C j with j|rfl
   ·exact D.flo x j N
   ·exact hm
  ·rw [SM U,DJ,D.tmps t]
   intro x j _ hd
   exact (ab x j).dst t hd
  ·rw [R.dst]at e
   exact Nat.lt_of_lt_of_le (R.small t e) D.size
  ·have:=D.high
   simp only [lA,lC]at this⊢
   exact this
  ·refine D.free k ?_
   simp only [lA,lC]at z⊢
   exact z
  ·rw [QT (y:=y)]at z
   split at z
   ·rename_i e
    simp only [oI]at z
    subst z
    have av:u.2=none:=by
     obtain ⟨v1,B1⟩:=u
     cases B1 with
     |none=>rfl
     |some B1=>exact absurd rfl (j v1 B1)
    rw [ai av,e]
    exact V
   ·rename_i e
    rw [hμ _ (by omega)]
    exact D.unb k x z j
  ·have:(a.put y.s.dst v).defers=a.defers:=by cases y.s.dst<;>rfl
   rw [this]
   exact D.defs.mono L
  ·by_cases e:y.i=i
   ·subst e
    rw [Iu (by rw [D.lsize];exact ac)]
    constructor
    ·intro J;cases J
    ·rintro ⟨x,j,e1,J⟩
     exfalso
     simp only [List.mem_append,List.mem_cons]at j
     rcases j with j|rfl|j
     ·exact (ab x j).ne e1
     ·cases J
     ·exact (ag x j).ne e1.symm
   ·rw [getD_set_ne true e,D.lst i hi]
    constructor
    ·rintro ⟨x,j,e1,J⟩
     simp only [List.mem_append,List.mem_cons]at j
     rcases j with j|rfl|j
     ·exact ⟨x,by simp [j],e1,J⟩
     ·exact absurd e1 e
     ·exact ⟨x,by simp [j],e1,J⟩
    ·rintro ⟨x,j,e1,J⟩
     rcases C j with j|rfl
     ·exact ⟨x,j,e1,J⟩
     ·cases J
 refine XF hΓ D.tr D.size D.Fm.rel ho R hu (fun X v H=>?_) (fun B hB ob m v aj H=>?_)
 ·refine hK u μ (DK tm y.s.dst u.1) h _ _ (fin μ h w v μ.le_refl H D.Fm rfl (fun b=>?_) (fun _ _=>rfl) fun _=>rfl)
  obtain ⟨u1,u2⟩:=u
  simp only at X
  subst X
  rw [Nd U,D.mem b]
 ·have aI:=D.low
  have hg:=D.Fm.Al6 (id:=id+pre.length) (by omega) V (by rw [D.next];omega) B ob (0,m) aj
  have L:μ.le (μ.put (id+pre.length) (w.heap.size,0,m)):=As.QD V
  refine hK u _ _ _ _ _ (fin _ _ _ v L (H _ L (As.BC _ _ _)) hg (EI _ _ _) (fun b=>?_) (fun b hb=>As.BX _ _ hb) fun e=>by rw [hB]at e;cases e)
  obtain ⟨u1,u2⟩:=u
  simp only at hB
  subst hB
  rw [Nd U,Eo,D.mem b]
end
end
section
noncomputable def Oy:List Item->Nat->Al->Al
 |[],_,h=>h
 |x::r,id,h=>match x.e with
  |some (_,some B)=>Ge (Oy r (id+1) h) id (some B)
  |_=>Oy r (id+1) h
theorem ND:∀{q:List Item} {id:Nat} {h:Al} {b:Nat},(Oy q id h).get b=Eu q id h.get b
 |[],_,_,_=>rfl
 |x::r,id,h,b=>by
  have ih:=ND (q:=r) (id:=id+1) (h:=h) (b:=b)
  simp only [Oy,Eu]
  cases hx:x.e with
  |none=>exact ih
  |some u=>
   obtain ⟨v,B⟩:=u
   cases B with
   |none=>exact ih
   |some B=>
    simp only
    rw [Eo]
    simp only
    rw [ih]
theorem LC:∀{q:List Item} {id:Nat} {h:Al},(Oy q id h).fx=h.fx
 |[],_,_=>rfl
 |x::r,id,h=>by
  simp only [Oy]
  split
  ·rw [Wk];exact LC
  ·exact LC
theorem Ig:∀{q:List Item} {id:Nat} {h:Al},(Oy q id h).next=h.next
 |[],_,_=>rfl
 |x::r,id,h=>by
  simp only [Oy]
  split
  ·rw [EI];exact Ig
  ·exact Ig
theorem MZ:∀{l:List Step} {tm:Tr Ab} {t:Nat},(forget l tm).get t=none∨((forget l tm).get t=tm.get t/\∀s∈l,s.dst≠some t)
 |[],tm,t=>.inr ⟨rfl,fun _ h=>(by cases h)⟩
 |s::r,tm,t=>by
  have q:forget (s::r) tm=forget r (match s.dst with|some d=>Tr.set tm d none|none=>tm):=rfl
  rw [q]
  rcases MZ (l:=r) (tm:=match s.dst with|some d=>Tr.set tm d none|none=>tm) (t:=t)with h|⟨h1,h2⟩
  ·exact .inl h
  ·cases hd:s.dst with
   |none=>
    rw [hd]at h1
    refine .inr ⟨h1,fun z j=>?_⟩
    simp only [List.mem_cons]at j
    rcases j with rfl|j
    ·rw [hd];simp
    ·exact h2 z j
   |some d=>
    rw [hd]at h1
    simp only [Tr.AY]at h1
    by_cases e3:t=d
    ·rw [if_pos e3]at h1
     exact .inl h1
    ·rw [if_neg e3]at h1
     refine .inr ⟨h1,fun z j=>?_⟩
     simp only [List.mem_cons]at j
     rcases j with rfl|j
     ·rw [hd]
      intro v
      exact e3 (Option.some.inj v).symm
     ·exact h2 z j
section
variable {P:Program} {Γ:Ao} {ρ:Env} {μ:As} {tm:Tr Ab} {a:Act} {w:World} {h:Al} {pl:List Co} {nt:Nat} {ops:Array Oper} {call:Cm} {all:List Step} {W:Nat->Nat->Bool} {before:List Nat}
 {res:Cb} {μ0:As} {h0:Al} {w0:World}
theorem GM.part {q:List Item} {id:Nat} {f:Fr} {hs:List Al} {j:Array Bool} (D:GM P Γ ρ call pl nt ops W all res μ0 h0 w0 q id f hs j μ tm h a w):∀b B,f.h.get b=some B->h.get b=some B:=fun b B hB=>by
 rw [D.mem b,Nc]
 ·exact hB
 ·intro k x v A z C e
  have:=D.free k (List.getElem?_eq_some_iff.1 z).1
  rw [<-e,hB]at this
  cases this
theorem S6 {x:Item} {r:List Item} {id:Nat} {f:Fr} {hs:List Al} {j:Array Bool} (D:GM P Γ ρ call pl nt ops W all res μ0 h0 w0 (x::r) id f hs j μ tm h a w) {v:Ab} {B:Al} {q:As} {w':World} (hg:Av ρ μ f.h w q B w')
  (A:res=.panic v ⟨forget all f.tm,B,f.df⟩) {Q:Exit->Act->World->Prop} (L:Dp ρ nt μ0 h0 w0 Q (F5 res)) {u:Value} (I:Ah ρ q v u):Q (.panic (HV u)) a w':=by
 subst A
 refine L q a w' _ ⟨fun t=>?_,D.size,hg.rel,D.defs.mono hg.le⟩ ((D.Fm.trans (Av.sub D.Fm.rel D.next.symm D.fx.symm D.part)).trans hg) ⟨u,rfl,I⟩
 show Ah ρ q (Ep ((forget all f.tm).get t)) _
 rcases MZ (l:=all) (tm:=f.tm) (t:=t)with h1|⟨h1,h2⟩
 ·rw [h1];trivial
 ·rw [h1]
  have C:=(D.tr t).mono hg.le
  rw [D.tmps t,D8]at C
  ·exact C
  ·exact fun z H _=>h2 z.s (D.sub z H)
theorem GM.change {x:Item} {r:List Item} {id:Nat} {f:Fr} {hs:List Al} {O:Array Bool} (D:GM P Γ ρ call pl nt ops (waits before) all res μ0 h0 w0 (x::r) id f hs O μ tm h a w)
  (hc:B7 P ρ call) (hv:Ix ops before=true) (hx:x.e=none) (hm:BK x.s.op=true) (hr:x.i∈Region.ready .any ops O) {K:Act->World->Prop} {Q:Exit->Act->World->Prop} (L:Dp ρ nt μ0 h0 w0 Q (F5 res))
  (hK:∀f' N aH h' a' w',GM P Γ ρ call pl nt ops (waits before) all res μ0 h0 w0 r (id+1) f' (f.h::hs) (O.setIfInBounds x.i true) N aH h' a' w'->K a' w'):wpOp P ops Q x.i K a w:=by
 have hO:=EO (x:=x.pair) (r:=r.map Item.pair) D.ok
 obtain ⟨o,ho,R⟩:=D.src x (by simp)
 have aL:=D.lt (x:=x) (by simp)
 have aN:=H9 hr
 have A:=D.run
 simp only [List.map_cons,Gs]at A
 obtain ⟨_,A⟩:=Ap A
 obtain ⟨xr,H,A⟩:=Ac A
 have aB:=H
 rw [O8 hm]at H
 rw [hm]at A
 have ac:∀t∈x.s.names,tm.get t=f.tm.get t:=fun t hn=>by
  rw [D.tmps t]
  simp only [Gn,hx]
  refine D8 fun z j aF aj=>?_
  have M:=(hO.apart z.pair (List.mem_map_of_mem j)).writes t aj hn
  have h2:=D.clo.1 hx z j aF
  simp only [Item.pair]at M
  rw [M]at h2
  cases h2
 have au:CY tm x.s.guard=CY f.tm x.s.guard:=by
  unfold CY
  cases hg:x.s.guard with
  |none=>rfl
  |some g=>
   dsimp only
   rw [ac g.1 (by simp [Step.names,hg])]
 have Hf:AD ρ μ f.h w:=D.Fm.rel.drop _ D.next.symm D.fx.symm D.part
 have aM:=D.high
 simp only [lC]at aM
 have aC:∀(X:Act) (u:Value),(X.put x.s.dst u).defers=X.defers:=fun X u=>by cases x.s.dst<;>rfl
 have fin:∀(v:Ab) (u:Value) (N:As) (M:Al) (w':World) (af:List (FuncId×List Ab)) (X:Act),xr=.go ⟨DK f.tm x.s.dst v,M,af⟩->X.tmps=a.tmps->C1 ρ N af X.defers->Av ρ μ f.h w N M w'->Ah ρ N v u->K (X.put x.s.dst u) w':=fun v u N M w' af X V ha aJ g Z=>by
  subst V
  have A:Lg Γ call all (r.map (·.s)) (id+1) ⟨DK f.tm x.s.dst v,M,af⟩ (f.h::hs)=some res:=A
  have ai:∀k z,r[k]?=some z->∀J B,z.e=some (J,some B)->h.get (id+1+k)=some B:=fun k z j J B Y=>by
   rw [D.mem]
   have:=Rf (r:=x::r) (id:=id) (g:=f.h.get) (k:=k+1) (by simpa using j) Y
   rw [show id+1+k=id+(k+1)from by omega];exact this
  have ae:∀k,k<r.length->f.h.get (id+1+k)=none:=fun k hk=>by
   have:=D.free (k+1) (by simp;omega)
   rw [show id+1+k=id+(k+1)from by omega];exact this
  have ao:∀k z,r[k]?=some z->(∀J B,z.e≠some (J,some B))->μ (id+1+k)=none:=fun k z j Y=>by
   have:=D.unb (k+1) z (by simpa using j) Y
   rw [show id+1+k=id+(k+1)from by omega];exact this
  have ag:Av ρ μ h w N (Oy r (id+1) M) w':=by
   refine Av.under D.Fm.rel D.next.symm D.part g Ig LC D.fx.symm fun b B hb=>?_
   rw [ND]at hb
   rcases II hb with hb|⟨k,z,J,j,Y,rfl⟩
   ·exact .inl hb
   ·exact .inr ⟨ai k z j J B Y,ae k (List.getElem?_eq_some_iff.1 j).1⟩
  have aO:AP ρ N tm X:=fun t=>by rw [ha];exact (D.tr t).mono g.le
  refine hK _ N (DK tm x.s.dst v) (Oy r (id+1) M) _ _ ⟨hO.rest,fun z j=>D.src z (by simp [j]),fun z j=>D.sub z (by simp [j]),D.clo.2,fun z j=>D.flo z (by simp [j]),A,?_,fun t=>?_,aO.put (fun t e=>?_) Z,by rw [Act.Mm,ha];exact D.size,fun b=>ND,Ig,D.Fm.trans ag,?_,?_,fun k hk=>?_,fun k z j Y=>?_,by rw [aC];exact aJ,by simp [D.lsize],fun i hi=>?_,Nz D.closed aN,(Ku D.lin).2,LC⟩
  ·rcases D.fut.2 with ⟨g',hg',hf⟩|hf
   ·rw [aB]at hg'
    simp only [oI,Cb.go.injEq]at hg'
    subst hg'
    exact hf
   ·exact HY hf
  ·rw [DJ,D.tmps t]
   simp only [Gn,hx]
   by_cases hd:x.s.dst=some t
   ·rw [if_pos hd,D8,DJ,if_pos hd]
    intro z j _ aj
    exact (hO.apart z.pair (List.mem_map_of_mem j)).dst t hd aj
   ·rw [if_neg hd]
    exact Eb (by rw [DJ,if_neg hd])
  ·rw [R.dst]at e
   rw [ha]
   exact Nat.lt_of_lt_of_le (R.small t e) D.size
  ·have:=D.low;omega
  ·show id+1+r.length<=M.next
   have:=g.next;omega
  ·show M.get (id+1+k)=none
   cases hb:M.get (id+1+k)with
   |none=>rfl
   |some B=>
    exfalso
    obtain ⟨s,δ,aw,_⟩:=g.rel.blk _ _ hb
    have ay:=g.old (id+1+k) (by omega)
    have U:=aw
    rw [ay]at U
    have j:r[k]?=some r[k]:=List.getElem?_eq_getElem hk
    have an:¬∀J B,(r[k]).e≠some (J,some B):=fun aa=>by
     rw [ao k _ j aa]at U
     cases U
    have an:∃J B',(r[k]).e=some (J,some B'):=Classical.byContradiction fun aa=>an fun J B' e=>aa ⟨J,B',e⟩
    obtain ⟨J,B',Y⟩:=an
    have hh:=ai k _ j J B' Y
    have aa:¬AF μ f.h s:=fun ⟨c,C,δ',hc',hmc⟩=>by
     have:=D.Fm.rel.inj _ _ _ _ _ _ _ (D.part c C hc') hh hmc U
     subst this
     rw [ae k hk]at hc'
     cases hc'
    exact (g.kept s (D.Fm.rel.lt hh U) aa).2 ⟨_,B,δ,hb,aw⟩
  ·rw [g.old _ (by have:=(List.getElem?_eq_some_iff.1 j).1;omega)]
   exact ao k z j Y
  ·by_cases e:x.i=i
   ·subst e
    rw [Iu (by rw [D.lsize];exact aL)]
    constructor
    ·intro e2;cases e2
    ·rintro ⟨z,j,I,_⟩
     exact absurd I.symm (hO.apart z.pair (List.mem_map_of_mem j)).ne
   ·rw [getD_set_ne true e,D.lst i hi]
    constructor
    ·rintro ⟨z,j,I,e2⟩
     simp only [List.mem_cons]at j
     rcases j with rfl|j
     ·exact absurd I e
     ·exact ⟨z,j,I,e2⟩
    ·rintro ⟨z,j,I,e2⟩
     exact ⟨z,by simp [j],I,e2⟩
 refine JT ho ?_
 unfold Ip at H
 obtain ⟨b,hb,H⟩:=Ac H
 rw [<-au]at hb
 rw [E8 D.tr R.guard (fun d b e=>Nat.lt_of_lt_of_le (R.seen d b e) D.size) hb]
 cases b with
 |false=>
  simp only [cond_false,oI]at H
  simp only [Bool.false_eq_true,if_false]
  rw [<-R.dst]
  exact fin Iz undef μ f.h w f.df a H.symm rfl D.defs (Av.refl Hf) Iy
 |true=>
  simp only [cond_true]at H
  simp only [if_true]
  have ax:=R.op
  unfold Wg at H
  split at H
  ·rename_i q I;rw [I]at hm;cases hm
  ·rename_i q I;rw [I]at hm;cases hm
  ·rename_i q I;rw [I]at hm;cases hm
  ·rename_i q I
   rw [I]at ax
   obtain ⟨aW,ad,H⟩:=Ac H
   obtain ⟨out,aD,V⟩:=MC H
   have aE:DC tm f.tm q.BT:=EY fun t hn=>ac t (by
    unfold Step.names
    rw [I]
    split
    ·exact List.mem_cons_of_mem _ hn
    ·exact hn)
   rw [<-Qy aE]at ad
   refine S1 hc Hf (KT Hf D.tr ax ad) aD ?_
   rw [<-R.dst]
   cases out with
   |val v h'=>exact fun N u w' hg Z=>fin v u N h' w' f.df a V rfl (D.defs.mono hg.le) hg Z
   |panic v h'=>
    intro N u w' hg Z
    have V:xr=.panic v ⟨f.tm,h',f.df⟩:=V
    subst V
    simp only [SD]at A
    obtain ⟨_,A⟩:=Ap A
    simp only [oI]at A
    exact S6 D hg A.symm L Z
   |defer g args=>
    intro d hd
    exact fin .any undef μ f.h w ((g,args)::f.df) {a with defers:=d::a.defers} V rfl ⟨d,a.defers,rfl,hd,D.defs⟩ (Av.refl Hf) trivial
def left (q:List Item):Nat:=q.countP fun x=>x.e.isNone
theorem XM (hΓ:Γ.AB ρ) (hc:B7 P ρ call) (Y:Ix ops before=true) {Q:Exit->Act->World->Prop} (L:Dp ρ nt μ0 h0 w0 Q (F5 res)):
  ∀(n:Nat) (q:List Item) {id:Nat} {f:Fr} {hs:List Al} {v:Array Bool} {μ:As} {tm:Tr Ab} {h:Al} {a:Act} {w:World},left q=n->
   GM P Γ ρ call pl nt ops (waits before) all res μ0 h0 w0 q id f hs v μ tm h a w->wpAny P .any ops Q n v a w:=by
 intro n
 induction n with
 |zero=>
  intro q
  induction q with
  |nil=>
   intro id f hs v μ tm h a w _ D
   have J:some (Cb.go f)=some res:=D.run
   simp only [oI]at J
   refine ⟨?_,?_⟩
   ·apply List.eq_nil_iff_forall_not_mem.2
    intro j H
    obtain ⟨M,o,Z,_⟩:=mem_ready.1 H
    obtain ⟨x,A,_⟩:=(D.lst j (Array.getElem?_eq_some_iff.1 Z).1).1 M
    cases A
   ·have hg:=D.Fm.trans (Av.sub D.Fm.rel D.next.symm D.fx.symm D.part)
    rw [<-J]at L
    refine L μ a w .normal ⟨fun t=>?_,D.size,hg.rel,D.defs⟩ hg rfl
    have:=D.tr t
    rw [D.tmps t]at this
    exact this
  |cons x r ih=>
   intro id f hs v μ tm h a w hl D
   cases A:x.e with
   |none=>simp [left,A]at hl
   |some u=>
    obtain ⟨f',_,C⟩:=D.skip A
    exact ih (by simpa [left,A]using hl) C
 |succ n ihn=>
  intro q
  induction q with
  |nil=>intro id f hs v μ tm h a w hl _;simp [left]at hl
  |cons x r ih=>
   intro id f hs v μ tm h a w hl D
   cases A:x.e with
   |some u=>
    obtain ⟨f',_,C⟩:=D.skip A
    exact ih (by simpa [left,A]using hl) C
   |none=>
    have ab:=D.lt (x:=x) (by simp)
    obtain ⟨o,Z,_⟩:=D.src x (by simp)
    have X:=Ku (i:=x.i) (r:=r.map (·.i)) D.lin
    have U:x.i∈Region.ready .any ops v:=by
     refine My Z ((D.lst x.i ab).2 ⟨x,by simp,rfl,A⟩) fun e he=>?_
     obtain ⟨M,O⟩:=X.1 e he
     cases hle:v.getD e true with
     |false=>
      exfalso
      obtain ⟨z,N,e1,_⟩:=(D.lst e (by omega)).1 hle
      simp only [List.mem_cons]at N
      rcases N with rfl|N
      ·omega
      ·exact O (e1▸List.mem_map_of_mem N)
     |true=>
      have:e<v.size:=by rw [D.lsize];omega
      simp [this]at hle⊢
      exact hle
    refine ⟨fun V=>?_,fun j H=>?_⟩
    ·rw [V]at U;cases U
    ·obtain ⟨M,oj,R,_⟩:=mem_ready.1 H
     obtain ⟨y,B,rfl,I⟩:=(D.lst j (Array.getElem?_eq_some_iff.1 R).1).1 M
     cases hm:BK y.s.op with
     |false=>
      obtain ⟨pre,post,hq⟩:=List.append_of_mem B
      rw [hq]at D hl
      refine D.Ads hΓ Y I hm H fun u μ' ad h' a' w' C=>ihn _ ?_ C
      simp only [left,List.countP_append,List.countP_cons,I,Option.isNone_none,if_true]at hl⊢
      simp only [Option.isNone_some,Bool.false_eq_true,if_false]
      omega
     |true=>
      have ae:y=x:=by
       simp only [List.mem_cons]at B
       rcases B with B|B
       ·exact B
       ·exfalso
        have O:=((EO (x:=x.pair) (r:=r.map Item.pair) D.ok).apart y.pair (List.mem_map_of_mem B)).chg hm
        have h3:=D.apart Y (x:=x) (by simp) A (Array.getElem?_eq_some_iff.1 R).1 (H9 H)
        simp only [Item.pair]at O
        rw [O]at h3
        cases h3
      subst ae
      refine D.change hc Y I hm H L fun f' μ' ad h' a' w' C=>ihn _ ?_ C
      simpa [left,A]using hl
theorem We:∀l:List Step,BQ l=l.length
 |[]=>rfl
 |_::r=>by show BQ r+1=_;rw [We r];rfl
theorem Te:∀{l:List Item},(∀x∈l,x.e=none)->Clo W l
 |[],_=>trivial
 |x::r,h=>⟨fun _ z j q=>absurd (h z (by simp [j])) q,Te fun z j=>h z (by simp [j])⟩
theorem Pg:∀{l:List Item} {id:Nat} {g:Nat->Option Block} {b:Nat},(∀x∈l,x.e=none)->Eu l id g b=g b
 |[],_,_,_,_=>rfl
 |x::r,id,g,b,h=>by
  simp only [Eu,h x (by simp)]
  exact Pg fun z j=>h z (by simp [j])
theorem Vb (hΓ:Γ.AB ρ) (hc:B7 P ρ call) (ah:P.follows .mixedOrders=true) {H:List Step} (v:Nw P pl nt ops=some H) {f:Fr} {r:Cb} (hr:Lg Γ call H H f.h.next (Hg (BQ H) f) []=some r)
  (F:CG ρ μ nt f a w) {Q:Exit->Act->World->Prop} (L:Dp ρ nt μ f.h w Q (F5 r)) {ap:Nat}:(Code.region ap ops true).wp P Q a w:=by
 unfold Nw at v
 simp only at v
 split at v
 ·cases v
 ·rename_i N _
  split at v
  ·rename_i I O
   split at v
   ·rename_i M
    simp only [oI]at v
    subst v
    generalize hord:Qz (Region.before ops) ops.size ((List.range ops.size).filter fun i=>(N[i]?.map BK).getD false) []=order at O M
    generalize hbk:(fun i=>AbL (Region.before ops) ((List.range ops.size).filter fun i=>(N[i]?.map BK).getD false) order i)=bk at O
    have ai:=Dk O
    unfold Ab7 at M
    simp only [aT]at M
    obtain ⟨⟨J,aa⟩,ak,aB,ae,aj,ad⟩:=M
    have J:=An.1 J
    have aa:=An.1 aa
    refine wp_region_any ah ?_
    have hq:∀(l:List Nat) (m:List Step),l.length=m.length->((l.zip m).map fun x=>(⟨x.1,x.2,none⟩:Item)).map Item.pair=l.zip m/\((l.zip m).map fun x=>(⟨x.1,x.2,none⟩:Item)).map (·.s)=m/\((l.zip m).map fun x=>(⟨x.1,x.2,none⟩:Item)).map (·.i)=l:=fun l m h=>by
     refine ⟨?_,?_,?_⟩
     ·rw [List.map_map];exact List.map_id'' (fun _=>rfl) _
     ·rw [List.map_map];exact List.map_snd_zip (by omega)
     ·rw [List.map_map];exact List.map_fst_zip (by omega)
    obtain ⟨q1,q2,U⟩:=hq order I J
    generalize hqq:((order.zip I).map fun x=>(⟨x.1,x.2,none⟩:Item))=q at q1 q2 U
    have A:∀x∈q,x.e=none:=fun x C=>by
     rw [<-hqq]at C
     obtain ⟨z,_,rfl⟩:=List.mem_map.1 C
     rfl
    have R:q.length=ops.size:=by
     have:=cL U
     rw [List.length_map]at this
     omega
    have Z:left q=ops.size:=by
     rw [<-R]
     unfold left
     rw [List.countP_eq_length]
     intro x C
     rw [A x C];rfl
    have V:∀i d,(Array.replicate ops.size false).getD i d=true->d=true/\ops.size<=i:=fun i d h=>by
     rcases Nat.lt_or_ge i ops.size with h'|h'
     ·simp [h']at h
     ·simp [Array.getElem?_eq_none,h']at h
      exact ⟨h,h'⟩
    refine XM (all:=I) (pl:=pl) hΓ hc aj (L.grow (Av.drew F.heap)) ops.size q (id:=f.h.next) (f:=Hg (BQ I) f) (hs:=[]) (μ:=μ) (tm:=f.tm) (h:=(Hg (BQ I) f).h) Z ?_
    have af:(Hg (BQ I) f).h.next=f.h.next+I.length:=by
     show f.h.next+BQ I=_
     rw [We]
    refine ⟨by rw [q1];exact ad,fun x C=>?_,fun x C=>?_,Te A,fun x C Y=>absurd (A x C) Y,by rw [q2];exact hr,HY A,fun t=>(D8 fun z hz Y=>absurd (A z hz) Y).symm,F.tmps,F.size,fun b=>(Pg A).symm,rfl,Av.reserve F.heap.drew _,Nat.le_refl _,?_,fun k X=>?_,fun k x X Y=>?_,F.defs,by simp,fun i hi=>?_,fun j hj=>?_,by rw [U];exact ae,rfl⟩
    ·have al:x.pair∈order.zip I:=by rw [<-q1];exact List.mem_map_of_mem C
     obtain ⟨k,X⟩:=List.mem_iff_getElem?.1 al
     rw [List.getElem?_zip_eq_some]at X
     obtain ⟨k1,k2⟩:=X
     have k3:(I.map some)[k]?=some (some x.s):=by rw [List.getElem?_map,k2];rfl
     rw [<-ai,List.getElem?_map,k1]at k3
     simp only [Option.map_some,oI]at k3
     obtain ⟨o,ho,k4⟩:=Option.bind_eq_some_iff.1 k3
     exact ⟨o,ho,Ff k4⟩
    ·rw [<-q2];exact List.mem_map_of_mem C
    ·rw [af];omega
    ·show f.h.get _=none
     cases hb:f.h.get (f.h.next+k)with
     |none=>rfl
     |some B=>
      have:=F.heap.Fj hb
      omega
    ·exact F.heap.fresh _ (Nat.le_add_right _ _)
    ·constructor
     ·intro _
      have h1:=List.all_eq_true.1 ak i (List.mem_range.2 hi)
      have h2:=any_beq.1 h1
      rw [<-U]at h2
      obtain ⟨x,C,e⟩:=List.mem_map.1 h2
      exact ⟨x,C,e,A x C⟩
     ·intro _
      simp [hi]
    ·exact absurd (V j false hj).1 (by simp)
   ·cases v
  ·cases v
end
end
section
theorem Tr.AaX {α:Type} (g:α->α) (v:Option α) (l r:Tr α):Tr.map g (Tr.node v l r)=.node (v.map g) (Tr.map g l) (Tr.map g r):=rfl
theorem Tr.AaW {α:Type} (g:α->α) (n:Nat) (v:Option α) (t:Tr α):Tr.map g (Tr.over n v t)=.over n (v.map g) (Tr.map g t):=rfl
theorem Tr.get_map {α:Type} (g:α->α):∀(t:Tr α) (n:Nat),(Tr.map g t).get n=(t.get n).map g
 |.nil,n=>rfl
 |.node v l r,n=>by
  rw [Tr.AaX,Tr.DN,Tr.DN,Tr.get_map g l,Tr.get_map g r]
  cases Nat.beq n 0 with
  |true=>rfl
  |false=>cases Nat.beq (n%2) 1<;>rfl
 |.over m v t,n=>by
  rw [Tr.AaW,Tr.ES,Tr.ES,Tr.get_map g t]
  cases Nat.beq n m<;>rfl
section
variable {ρ:Env} {μ:As} {w:World} {h:Al} {b off len es j:Nat}
theorem W0 {r δ m:Nat} {c:Array Value} {e:TypeId} (F:Frz ρ μ b off len es j r δ m c e):∀{l:List Ab} {us:List Value},A4 ρ μ l us->A4 ρ μ (Lx b off len es j l) us
 |[],us,h=>h
 |v::l,us,h=>by
  rw [HZ]
  simp only [A4]at h⊢
  obtain ⟨u,rest,rfl,x,q⟩:=h
  exact ⟨u,rest,rfl,(Hr F x).1,W0 F q⟩
theorem Abu {r δ m:Nat} {c:Array Value} {e:TypeId} (F:Frz ρ μ b off len es j r δ m c e) {v:Ab} {u:Value} (q:Ah ρ μ v u):Ah ρ μ (AgY b off len es j v) u:=by
 unfold AgY
 split
 ·obtain ⟨x,e,z⟩:=q.agg
  subst e
  simp only [Ah]
  exact ⟨x,rfl,QY F z⟩
 ·obtain ⟨x,e,z⟩:=q.tuple
  subst e
  simp only [Ah]
  exact ⟨x,rfl,W0 F z⟩
 ·exact (Hr F q).1
theorem Abt {r δ m:Nat} {c:Array Value} {e:TypeId} (F:Frz ρ μ b off len es j r δ m c e) {B:Block} {o:Option Obj} {x:Nat×Nat} (hB:C3 ρ μ B o x):C3 ρ μ (Akl b off len es j B) o x:=by
 cases B with
 |cells vs=>
  obtain ⟨d,t,z,A,hc⟩:=hB
  refine ⟨d,t,z,A,fun i a ha=>?_⟩
  rw [MX]at ha
  obtain ⟨H,q,rfl⟩:=mS ha
  obtain ⟨v,L,I,J⟩:=hc i H q
  obtain ⟨k1,C⟩:=Hr F J
  exact ⟨v,L,by rw [C];exact I,k1⟩
 |typed t vs=>
  obtain ⟨d,z,⟨M,hs⟩,A,hc⟩:=hB
  have hl:(Lx b off len es j vs).length=vs.length:=by
   have:∀l:List Ab,(Lx b off len es j l).length=l.length:=fun l=>by
    induction l with
    |nil=>rfl
    |cons v l ih=>rw [HZ];simp [ih]
   exact this vs
  refine ⟨d,z,⟨M,by rw [hl];exact hs⟩,A,fun i a ha=>?_⟩
  rw [MX]at ha
  obtain ⟨H,q,rfl⟩:=mS ha
  obtain ⟨v,L,I,J⟩:=hc i H q
  obtain ⟨k1,C⟩:=Hr F J
  exact ⟨v,L,by rw [C];exact I,k1⟩
 |map es clock=>exact hB
 |bytes n e=>exact hB
 |sbytes n e=>exact hB
 |list i es=>exact hB
 |smap i=>exact hB
theorem Abs {i:Nat} {t:ST} {r m:Nat} {c:Array Value} {e:TypeId} (hs:μ b=some (r,0,m)) (H:μ.AQ r=some (.cells c e (0,0))) (A:BF μ.AQ es c 0 (ρ.lst i)) (I:t.den ρ=((ρ.lst i).length:Int)) {v:Ab} {u:Value} (j:Ah ρ μ v u):Ah ρ μ (QV b i es t v) u/\(QV b i es t v).single=v.single:=by
 unfold QV
 split
 ·rename_i B z n
  cases hc:Nat.beq b B&&(Nat.beq es z&&n.eq t)with
  |false=>exact ⟨j,rfl⟩
  |true=>
   rw [aT,aT,An,An]at hc
   obtain ⟨rfl,rfl,x⟩:=hc
   have x:=ST.AV x
   subst x
   obtain ⟨O,L,k,q,J,P,M,N⟩:=j.vec
   rw [hs]at q
   simp only [oI,Prod.mk.injEq,true_and]at q
   obtain ⟨rfl,rfl⟩:=q
   have C:(ρ.lst i).length=k:=by omega
   refine ⟨?_,rfl⟩
   simp only [cond_true,Ah,Ij]
   exact ⟨⟨BM m,by omega,.inr ⟨r,0,c,e,by rw [C];exact J,⟨_,H⟩,A⟩⟩,I,fun e=>by cases e⟩
 ·exact ⟨j,rfl⟩
theorem Gl (b i es:Nat) (t:ST) (v:Ab) (r:List Ab):Hq b i es t (v::r)=QV b i es t v::Hq b i es t r:=rfl
theorem K1 {i:Nat} {t:ST}:∀{l:List Ab} {k:Nat},(Hq b i es t l)[k]?=(l[k]?).map (QV b i es t)
 |[],k=>by show ([]:List Ab)[k]?=_;simp
 |v::r,k=>by
  rw [Gl]
  cases k with
  |zero=>simp
  |succ k=>simpa using K1 (l:=r) (k:=k)
theorem SJ {nt:Nat} {f:Fr} {a:Act} (F:CG ρ μ nt f a w) {B0:Block} {r:Nat} {Z:Nat×Nat} (hb:f.h.get b=some B0) (V:μ b=some (r,Z)) (O:Ab->Ab) (I:Block->Block)
  (hA:∀v u,Ah ρ (μ.Ee r w.heap[r]?) v u->Ah ρ (μ.Ee r w.heap[r]?) (O v) u) (hB:∀B o x,C3 ρ (μ.Ee r w.heap[r]?) B o x->C3 ρ (μ.Ee r w.heap[r]?) (I B) o x):
  ∃μ',CG ρ μ' nt ⟨Tr.map O f.tm,⟨Tr.map I (Tr.set f.h.DE b none),f.h.next,f.h.fx⟩,f.df⟩ a w/\Av ρ μ f.h w μ' ⟨Tr.map I (Tr.set f.h.DE b none),f.h.next,f.h.fx⟩ w:=by
 have H:=F.heap
 have M:AF μ f.h r:=⟨b,_,Z,hb,V⟩
 have R:∀x,μ.AQ r=some x->w.heap[r]?=some x:=fun x Q=>absurd M (H.AJ.AQ r x Q).2
 have J:μ.le (μ.Ee r w.heap[r]?):=As.J0 R
 have A:∀d B,(⟨Tr.map I (Tr.set f.h.DE b none),f.h.next,f.h.fx⟩:Al).get d=some B->∃z,f.h.get d=some z/\B=I z/\d≠b:=fun d B hd=>by
  have hd:(Tr.map I (Tr.set f.h.DE b none)).get d=some B:=hd
  rw [Tr.get_map,Tr.AY]at hd
  obtain ⟨z,C,L⟩:=mS hd
  by_cases e:d=b
  ·rw [if_pos e]at C;cases C
  ·rw [if_neg e]at C;exact ⟨z,C,L.symm,e⟩
 have j:∀s,AF (μ.Ee r w.heap[r]?) ⟨Tr.map I (Tr.set f.h.DE b none),f.h.next,f.h.fx⟩ s->AF μ f.h s/\s≠r:=fun s ⟨d,B,x,C,L⟩=>by
  obtain ⟨z,k1,X,U⟩:=A d B C
  exact ⟨⟨d,z,x,k1,L⟩,fun e=>U (H.inj _ _ _ _ _ _ _ k1 hb L (e▸V))⟩
 have Y:AD ρ (μ.Ee r w.heap[r]?) ⟨Tr.map I (Tr.set f.h.DE b none),f.h.next,f.h.fx⟩ w:=by
  refine ⟨fun d hd=>H.fresh d hd,fun d B hd=>?_,fun d d' B z s x x' C L m1 m2=>?_,⟨fun g o hg=>?_,fun g o hg=>?_,H.AJ.facts⟩⟩
  ·obtain ⟨z,k1,rfl,U⟩:=A d B hd
   obtain ⟨s,x,e1,e2⟩:=H.blk d z k1
   exact ⟨s,x,e1,hB _ _ _ (e2.mono J)⟩
  ·obtain ⟨B1,k1,_,_⟩:=A _ _ C
   obtain ⟨B2,X,_,_⟩:=A _ _ L
   exact H.inj _ _ _ _ _ _ _ k1 X m1 m2
  ·obtain ⟨N,P⟩:=H.AJ.AJ g o hg
   exact ⟨N,fun e=>P (j g e).1⟩
  ·have hg:(if g=r then w.heap[r]? else μ.AQ g)=some o:=hg
   by_cases e:g=r
   ·subst e
    rw [if_pos rfl]at hg
    exact ⟨hg,fun q=>(j _ q).2 rfl⟩
   ·rw [if_neg e]at hg
    obtain ⟨N,P⟩:=H.AJ.AQ g o hg
    exact ⟨N,fun q=>P (j g q).1⟩
 refine ⟨μ.Ee r w.heap[r]?,⟨fun t=>?_,F.size,Y,F.defs.mono J⟩,⟨J,Y,Nat.le_refl _,fun s _ hs=>⟨rfl,fun q=>hs (j s q).1⟩,rfl,rfl,Nat.le_refl _,fun _ _=>rfl,fun g o hg=>?_,rfl⟩⟩
 ·show Ah _ _ (Ep ((Tr.map O f.tm).get t)) _
  rw [Tr.get_map]
  have ht:=(F.tmps t).mono J
  cases Q:f.tm.get t with
  |none=>trivial
  |some v=>
   rw [Q]at ht
   exact hA _ _ ht
 ·have hg:(if g=r then w.heap[r]? else μ.AQ g)=some o:=hg
  by_cases e:g=r
  ·subst e;exact .inr (.inl M)
  ·rw [if_neg e]at hg;exact .inl hg
theorem QW {Γ:Ao} (hΓ:Γ.AB ρ) {nt:Nat} {f:Fr} {a:Act} (F:CG ρ μ nt f a w) (z:Nat×Nat×Nat×Nat×Nat):∃V,CG ρ V nt (QX Γ z f) a w/\Av ρ μ f.h w V (QX Γ z f).h w:=by
 have same:∃V,CG ρ V nt f a w/\Av ρ μ f.h w V f.h w:=⟨μ,F,Av.refl F.heap⟩
 have H:=F.heap
 unfold QX
 split
 case h_3=>exact same
 ·rename_i vs hb
  cases hk:Pa Γ z.2.1 z.2.2.1 z.2.2.2.1 z.2.2.2.2 vs with
  |false=>exact same
  |true=>
  simp only [cond_true]
  obtain ⟨b,off,len,es,j⟩:=z
  simp only at hb hk⊢
  obtain ⟨cs,Y,ac,ae,hd⟩:=MW hΓ hk
  obtain ⟨r,⟨δ,m⟩,q,c,t,L,aj,hc⟩:=H.blk b _ hb
  have I:AF μ f.h r:=⟨b,_,(δ,m),hb,q⟩
  have N:∀x,μ.AQ r=some x->w.heap[r]?=some x:=fun x M=>absurd I (H.AJ.AQ r x M).2
  have U:μ.le (μ.Ee r w.heap[r]?):=As.J0 N
  have X:AG μ.AQ c (δ+off) (ρ.lst j).flatten:=Nu hc Y hd
  have Z:Frz ρ (μ.Ee r w.heap[r]?) b off len es j r δ m c t:=by
   refine ⟨q,ac,?_,?_⟩
   ·show (if r=r then w.heap[r]? else μ.AQ r)=_
    rw [if_pos rfl];exact L
   ·exact BF.mono U.AQ (Bx.2 ⟨ae,X⟩)
  exact SJ F hb q _ _ (fun v u J=>Abu Z J) (fun B o x hB=>Abt Z hB)
 ·rename_i i es hb
  cases hk:Nat.beq i z.2.2.2.2 with
  |false=>exact same
  |true=>
  simp only [cond_true]
  split
  case h_2=>exact same
  rename_i t ht
  obtain ⟨r,⟨δ,m⟩,q,c,e,L,h0,O,C,A,h4,h5⟩:=H.blk z.1 _ hb
  subst h0
  have I:AF μ f.h r:=⟨z.1,_,(0,m),hb,q⟩
  have N:∀x,μ.AQ r=some x->w.heap[r]?=some x:=fun x M=>absurd I (H.AJ.AQ r x M).2
  have U:μ.le (μ.Ee r w.heap[r]?):=As.J0 N
  have hi:(μ.Ee r w.heap[r]?).AQ r=some (.cells c e (0,0)):=by
   show (if r=r then w.heap[r]? else μ.AQ r)=_
   rw [if_pos rfl];exact L
  have ht:t.den ρ=((ρ.lst i).length:Int):=hΓ.Br _ (Cw ht)
  have J:∀{v:Ab} {u:Value},Ah ρ (μ.Ee r w.heap[r]?) v u->Ah ρ (μ.Ee r w.heap[r]?) (QV z.1 i es t v) u/\(QV z.1 i es t v).single=v.single:=fun {v u} h=>Abs (μ:=μ.Ee r w.heap[r]?) (m:=m) q hi (BF.mono U.AQ h5) ht h
  have af:∀{l:List Ab} {us:List Value},Aw ρ (μ.Ee r w.heap[r]?) l us->Aw ρ (μ.Ee r w.heap[r]?) (Hq z.1 i es t l) us:=by
   intro l
   induction l with
   |nil=>intro us h;exact h
   |cons v l ih=>
    intro us h
    rw [Gl]
    simp only [Aw]at h⊢
    obtain ⟨u,rest,rfl,⟨O,C⟩,A⟩:=h
    obtain ⟨k1,Q⟩:=J C
    exact ⟨u,rest,rfl,⟨by rw [Q];exact O,k1⟩,ih A⟩
  have ag:∀{l:List Ab} {us:List Value},A4 ρ (μ.Ee r w.heap[r]?) l us->A4 ρ (μ.Ee r w.heap[r]?) (Hq z.1 i es t l) us:=by
   intro l
   induction l with
   |nil=>intro us h;exact h
   |cons v l ih=>
    intro us h
    rw [Gl]
    simp only [A4]at h⊢
    obtain ⟨u,rest,rfl,C,A⟩:=h
    exact ⟨u,rest,rfl,(J C).1,ih A⟩
  refine SJ F hb q _ _ (fun v u R=>?_) (fun B o x hB=>?_)
  ·unfold AdU
   split
   ·obtain ⟨x,e,M⟩:=R.agg
    subst e
    simp only [Ah]
    exact ⟨x,rfl,af M⟩
   ·obtain ⟨x,e,M⟩:=R.tuple
    subst e
    simp only [Ah]
    exact ⟨x,rfl,ag M⟩
   ·exact (J R).1
  ·cases B with
   |cells vs=>
    obtain ⟨d,t',L,q,hc⟩:=hB
    refine ⟨d,t',L,q,fun k a ha=>?_⟩
    rw [K1]at ha
    obtain ⟨a',P,rfl⟩:=mS ha
    obtain ⟨v,O,C,A⟩:=hc k a' P
    obtain ⟨k1,Q⟩:=J A
    exact ⟨v,O,by rw [Q];exact C,k1⟩
   |typed t' vs=>
    obtain ⟨d,L,⟨h0,hs⟩,q,hc⟩:=hB
    have hl:(Hq z.1 i es t vs).length=vs.length:=by
     have:∀l:List Ab,(Hq z.1 i es t l).length=l.length:=fun l=>by
      induction l with
      |nil=>rfl
      |cons v l ih=>rw [Gl];simp [ih]
     exact this vs
    refine ⟨d,L,⟨h0,by rw [hl];exact hs⟩,q,fun k a ha=>?_⟩
    rw [K1]at ha
    obtain ⟨a',P,rfl⟩:=mS ha
    obtain ⟨v,O,C,A⟩:=hc k a' P
    obtain ⟨k1,Q⟩:=J A
    exact ⟨v,O,by rw [Q];exact C,k1⟩
   |map es clock=>exact hB
   |bytes n e=>exact hB
   |sbytes n e=>exact hB
   |list i es=>exact hB
   |smap i=>exact hB
theorem JA {Γ:Ao} (hΓ:Γ.AB ρ) {nt:Nat} {a:Act}:∀(l:List (Nat×Nat×Nat×Nat×Nat)) {μ:As} {f:Fr},CG ρ μ nt f a w->∃j,CG ρ j nt (UP Γ l f) a w/\Av ρ μ f.h w j (UP Γ l f).h w
 |[],μ,f,F=>⟨μ,F,Av.refl F.heap⟩
 |z::l,μ,f,F=>by
  obtain ⟨A,x,g1⟩:=QW hΓ F z
  obtain ⟨q,v,g2⟩:=JA hΓ l x
  exact ⟨q,v,g1.trans g2⟩
theorem Ql {Γ:Ao} (hΓ:Γ.AB ρ) {nt:Nat} {h:Al} {Q:Exit->Act->World->Prop} {r:AX×Fr} (L:Dp ρ nt μ h w Q (Qm Γ r)):Dp ρ nt μ h w Q r:=by
 unfold Qm at L
 split at L
 ·rename_i z l A C
  intro B x w' e F g j
  obtain ⟨v,q,g2⟩:=JA hΓ (z::l) F
  rw [A]at j
  exact L v x w' e q (g.trans g2) j
 ·exact L
end
end
section
def empty (d:Nat) (fx:Ao:={}):Al:=⟨Tr.full Block d,0,fx⟩
theorem Ia (d:Nat) (fx:Ao) (b:Nat):(empty d fx).get b=none:=Tr.J5 d b
theorem Nr {ρ:Env} {T:Nat->Option Obj} (d:Nat) {fx:Ao} (w:World) (j:∀g o,ρ.AJ g=some o->w.heap[g]?=some o) (q:∀g o,T g=some o->w.heap[g]?=some o) (hf:fx.AB ρ):AD ρ ⟨fun _=>none,T⟩ (empty d fx) w where
 AJ:=⟨fun g o h=>⟨j g o h,by rintro ⟨_,_,_,_,e⟩;cases e⟩,fun g o h=>⟨q g o h,by rintro ⟨_,_,_,_,e⟩;cases e⟩,hf⟩
 fresh:=fun _ _=>rfl
 blk:=fun b B hb=>by rw [Ia]at hb;cases hb
 inj:=fun b _ B _ _ _ _ hb=>by rw [Ia]at hb;cases hb
theorem XL {ρ:Env} (d:Nat) (w:World) (j:∀g o,ρ.AJ g=some o->w.heap[g]?=some o):AD ρ As.none (empty d) w:=
 Nr d w j (fun _ _ h=>by cases h) (Ao.AB.none ρ)
theorem Adc {σ:List Nat} {i b:Nat} (h:BY σ i=some b):i<σ.length:=by
 rw [Fi]at h
 exact (List.getElem?_eq_some_iff.1 h).1
theorem S3 {n:Nat}:∀{l:List Nat},AaV n l=true↔n∈l
 |[]=>by
  constructor
  ·intro h;cases h
  ·intro h;cases h
 |m::r=>by
  have e:AaV n (m::r)=(Nat.beq m n||AaV n r):=rfl
  rw [e,Bool.or_eq_true,An,S3,List.mem_cons]
  constructor
  ·rintro (h|h)
   ·exact .inl h.symm
   ·exact .inr h
  ·rintro (h|h)
   ·exact .inl h.symm
   ·exact .inr h
theorem EP:∀{l:List Nat},I8 l=true->l.Nodup
 |[],_=>List.nodup_nil
 |n::r,h=>by
  have e:I8 (n::r)=(!(AaV n r)&&I8 r):=rfl
  rw [e,aT]at h
  refine List.nodup_cons.2 ⟨fun j=>?_,EP h.2⟩
  rw [S3.2 j]at h
  cases h.1
theorem EH:∀l:List Block,Gy l=l.length
 |[]=>rfl
 |_::r=>by show Gy r+1=_;rw [EH r];rfl
theorem Gg:∀l:List (Option Block),Sy l=l.length
 |[]=>rfl
 |_::r=>by show Sy r+1=_;rw [Gg r];rfl
theorem S0 {σ:List Nat} (z:σ.Nodup) {i j b:Nat} (v:BY σ i=some b) (q:BY σ j=some b):i=j:=by
 rw [Fi]at v q
 obtain ⟨C,x⟩:=List.getElem?_eq_some_iff.1 v
 obtain ⟨B,A⟩:=List.getElem?_eq_some_iff.1 q
 exact (List.getElem_inj z).1 (x.trans A.symm)
theorem FL:∀(l:List (Option Block)) (k n i:Nat),(KX l k n)[i]?=if k+i<l.length then some (n+i)else none
 |[],k,n,i=>by rw [if_neg (by simp)];show ([]:List Nat)[i]?=none;simp
 |_::r,0,n,i=>by
  show (n::KX r 0 (n+1))[i]?=_
  cases i with
  |zero=>simp
  |succ i=>
   rw [List.getElem?_cons_succ,FL r 0 (n+1) i]
   simp only [lC,Nat.zero_add,Nat.add_lt_add_iff_right]
   rw [show n+1+i=n+(i+1) by omega]
 |_::r,k+1,n,i=>by
  show (KX r k n)[i]?=_
  rw [FL r k n i,lC]
  by_cases hc:k+i<r.length
  ·rw [if_pos hc,if_pos (by omega)]
  ·rw [if_neg hc,if_neg (by omega)]
theorem BU:∀(l:List Block) (h:Al),(AS l h).next=h.next+l.length/\(AS l h).fx=h.fx/\
  ∀b,(AS l h).get b=if h.next<=b/\b<h.next+l.length then l[b-h.next]? else h.get b
 |[],h=>⟨rfl,rfl,fun b=>by rw [if_neg (by simp only [lN];omega)];rfl⟩
 |B::r,h=>by
  have e:AS (B::r) h=AS r (h.add B):=rfl
  obtain ⟨j,hf,q⟩:=BU r (h.add B)
  rw [e]
  refine ⟨by rw [j,Al.Jw,lC];omega,hf,fun b=>?_⟩
  rw [q b,Al.Jw,lC,Al.J6]
  by_cases hb:b=h.next
  ·subst hb
   rw [if_neg (by omega),if_pos rfl,if_pos (by omega)]
   simp
  ·by_cases hc:h.next+1<=b/\b<h.next+1+r.length
   ·rw [if_pos hc,if_pos (by omega)]
    have:b-h.next=(b-(h.next+1))+1:=by omega
    rw [this,List.getElem?_cons_succ]
   ·rw [if_neg hc,if_neg hb,if_neg (by omega)]
theorem C0:∀(l:List (Option Block)) (h:Al),(Ct l h).next=h.next+l.length/\(Ct l h).fx=h.fx/\
  ∀b,(Ct l h).get b=if h.next<=b/\b<h.next+l.length then (l[b-h.next]?).join else h.get b
 |[],h=>⟨rfl,rfl,fun b=>by rw [if_neg (by simp only [lN];omega)];rfl⟩
 |B::r,h=>by
  have e:Ct (B::r) h=Ct r ⟨Tr.set h.DE h.next B,h.next+1,h.fx⟩:=rfl
  obtain ⟨j,hf,q⟩:=C0 r ⟨Tr.set h.DE h.next B,h.next+1,h.fx⟩
  rw [e]
  refine ⟨by rw [j,lC];show h.next+1+_=_;omega,hf,fun b=>?_⟩
  have hg:(⟨Tr.set h.DE h.next B,h.next+1,h.fx⟩:Al).get b=if b=h.next then B else h.get b:=Tr.AY _ _ _ _
  rw [q b,lC,hg]
  show (if h.next+1<=b/\b<h.next+1+r.length then (r[b-(h.next+1)]?).join else _)=_
  by_cases hb:b=h.next
  ·subst hb
   rw [if_neg (by omega),if_pos rfl,if_pos (by omega)]
   simp
  ·by_cases hc:h.next+1<=b/\b<h.next+1+r.length
   ·rw [if_pos hc,if_pos (by omega)]
    have:b-h.next=(b-(h.next+1))+1:=by omega
    rw [this,List.getElem?_cons_succ]
   ·rw [if_neg hc,if_neg hb,if_neg (by omega)]
theorem Cq {d:Nat} {fx:Ao} {l:List Block} {b:Nat}:(AS l (empty d fx)).get b=l[b]?:=by
 obtain ⟨_,_,h⟩:=BU l (empty d fx)
 rw [h b]
 have e:(empty d fx).next=0:=rfl
 rw [e]
 by_cases hb:b<l.length
 ·rw [if_pos (by omega)];rfl
 ·rw [if_neg (by omega),Ia,List.getElem?_eq_none (by omega)]
theorem Dr {d:Nat} {fx:Ao} {l:List (Option Block)} {b:Nat}:(Ct l (empty d fx)).get b=(l[b]?).join:=by
 obtain ⟨_,_,h⟩:=C0 l (empty d fx)
 rw [h b]
 have e:(empty d fx).next=0:=rfl
 rw [e]
 by_cases hb:b<l.length
 ·rw [if_pos (by omega)];rfl
 ·rw [if_neg (by omega),Ia,List.getElem?_eq_none (by omega)];rfl
theorem BR {d:Nat} {fx:Ao} {l:List Block}:(AS l (empty d fx)).next=l.length:=by
 have h:=(BU l (empty d fx)).1
 rw [h];show 0+_=_;omega
theorem D0 {d:Nat} {fx:Ao} {l:List (Option Block)}:(Ct l (empty d fx)).next=l.length:=by
 have h:=(C0 l (empty d fx)).1
 rw [h];show 0+_=_;omega
section
variable {ρ:Env} {μ μ':As} {σ:List Nat}
structure Ren (μ' μ:As) (σ:List Nat):Prop where
 spot:∀i b,BY σ i=some b->μ' i=μ b
 AQ:μ'.AQ=μ.AQ
theorem So (R:Ren μ' μ σ) {p a:Ab} (h:Aa7 σ p=some a) {u:Value}:(Ah ρ μ a u↔Ah ρ μ' p u)/\a.single=p.single:=by
 have q:=R.spot
 cases p<;>simp only [Aa7,oI,reduceCtorEq]at h
 case ptr b o=>
  obtain ⟨c,hc,e⟩:=Ac h
  simp only [oI]at e
  subst e
  simp only [Ah,q _ _ hc,Ab.single,and_self]
 case slice b o l c=>
  obtain ⟨c,hc,e⟩:=Ac h
  simp only [oI]at e
  subst e
  simp only [Ah,q _ _ hc,Ab.single,and_self]
 case gslice b o l es=>
  obtain ⟨c,hc,e⟩:=Ac h
  simp only [oI]at e
  subst e
  simp only [Ah,q _ _ hc,Ab.single,and_self]
 case map b=>
  obtain ⟨c,hc,e⟩:=Ac h
  simp only [oI]at e
  subst e
  simp only [Ah,q _ _ hc,Ab.single,and_self]
 case vec b es n=>
  obtain ⟨c,hc,e⟩:=Ac h
  simp only [oI]at e
  subst e
  simp only [Ah,q _ _ hc,Ab.single,and_self]
 case vptr b es j o=>
  obtain ⟨c,hc,e⟩:=Ac h
  simp only [oI]at e
  subst e
  simp only [Ah,q _ _ hc,Ab.single,and_self]
 case gbytes b=>
  obtain ⟨c,hc,e⟩:=Ac h
  simp only [oI]at e
  subst e
  simp only [Ah,q _ _ hc,Ab.single,and_self]
 all_goals
  subst h
  simp only [Ah,R.AQ,Ab.single,and_self]
theorem Kg (R:Ren μ' μ σ):∀{l r:List Ab} {us:List Value},Wj σ l=some r->(A4 ρ μ r us↔A4 ρ μ' l us)
 |[],r,us,h=>by
  have h:some []=some r:=h
  simp only [oI]at h
  subst h
  simp only [A4]
 |v::l,r,us,h=>by
  have h:(A6 (Aa7 σ v) fun u=>A6 (Wj σ l) fun us=>some (u::us))=some r:=h
  obtain ⟨u,q,h⟩:=Ac h
  obtain ⟨x,j,h⟩:=Ac h
  simp only [oI]at h
  subst h
  simp only [A4,(So R q).1,Kg R j]
theorem CS (R:Ren μ' μ σ) {p a:Ab} (h:Js σ p=some a) {u:Value}:(Ah ρ μ a u↔Ah ρ μ' p u)/\a.single=p.single:=by
 unfold Js at h
 split at h
 ·obtain ⟨x,q,h⟩:=Ac h
  obtain ⟨y,j,h⟩:=Ac h
  simp only [oI]at h
  subst h
  simp only [Ah,Kg R q,Kg R j,Ab.single,and_self]
 ·exact So R h
theorem X4 {a:Ab} {u:Value} (h:Ah ρ μ a u):Ah ρ μ (loose a) u/\(loose a).single=a.single:=by
 cases a<;>simp only [loose,and_true]<;>try exact h
 case lst f i es n=>
  obtain ⟨j,q,_⟩:=h.lst
  exact ⟨by simp only [Ah];exact ⟨j,q,fun e=>by cases e⟩,rfl⟩
theorem Ec {Γ:Ao} (hΓ:Γ.AB ρ) (R:Ren μ' μ σ) {p a:Ab} (h:H6 Γ σ p a=true) {u:Value} (x:Ah ρ μ a u):Ah ρ μ' p u/\p.single=a.single:=by
 unfold H6 at h
 split at h
 ·rename_i v z
  rw [Bool.or_eq_true,Bool.or_eq_true]at h
  rcases h with (h|h) |h
  ·have h:=Ab.Di h
   subst h
   obtain ⟨k1,q⟩:=CS (ρ:=ρ) R z (u:=u)
   exact ⟨k1.1 x,q.symm⟩
  ·have h:=Ab.Di h
   subst h
   obtain ⟨k1,q⟩:=CS (ρ:=ρ) R z (u:=u)
   obtain ⟨C,J⟩:=X4 x
   exact ⟨k1.1 C,by rw [<-q,J]⟩
  ·split at h
   ·rename_i j L n
    rw [aT,aT]at h
    obtain ⟨A,B,I⟩:=h
    have ha:a=.nilSlice:=by
     unfold Abk at A
     split at A
     ·rfl
     ·cases A
    subst ha
    have hl:(ρ.lst j).length=0:=by
     unfold Ab6 at B
     split at B
     ·rename_i e
      have:=hΓ.Br _ (Cw e)
      have this:(0:Int)=((ρ.lst j).length:Int):=this
      omega
     ·cases B
    have H:ρ.lst j=[]:=List.eq_nil_of_length_eq_zero hl
    have e:u=.slice none 0 0:=by simpa only [Ah]using x
    obtain ⟨k1,q⟩:=CS (ρ:=ρ) R z (u:=u)
    refine ⟨k1.1 ?_,by rw [<-q];rfl⟩
    rw [ST.AV I]
    simp only [Ah,Ij]
    exact ⟨⟨0,by rw [hl];exact Nat.le_refl _,.inl ⟨H,none,e⟩⟩,by rw [hl];rfl,fun e=>by cases e⟩
   ·cases h
 ·cases h
theorem Hz {Γ:Ao} (p a:Ab) (ps as:List Ab):Gq Γ σ (p::ps) (a::as)=(H6 Γ σ p a&&Gq Γ σ ps as):=rfl
theorem F6 {Γ:Ao}:∀{ps as:List Ab},Gq Γ σ ps as=true->ps.length=as.length
 |[],[],_=>rfl
 |[],_::_,h=>by cases h
 |_::_,[],h=>by cases h
 |p::ps,a::as,h=>by
  rw [Hz,aT]at h
  simp [F6 h.2]
theorem IL {Γ:Ao}:∀{ps as:List Ab},Gq Γ σ ps as=true->∀(i:Nat) (p a:Ab),ps[i]?=some p->as[i]?=some a->H6 Γ σ p a=true
 |[],[],_,i,p,a,h,_=>by simp at h
 |[],_::_,h,_,_,_,_,_=>by cases h
 |_::_,[],h,_,_,_,_,_=>by cases h
 |p::ps,a::as,h,i,q,b,h1,h2=>by
  rw [Hz,aT]at h
  cases i with
  |zero=>
   simp only [List.getElem?_cons_zero,oI]at h1 h2
   subst h1 h2
   exact h.1
  |succ i=>exact IL h.2 i q b (by simpa using h1) (by simpa using h2)
theorem K3 {Γ:Ao} (hΓ:Γ.AB ρ) (R:Ren μ' μ σ):∀{ps as:List Ab} {us:List Value},Gq Γ σ ps as=true->Aw ρ μ as us->Aw ρ μ' ps us
 |[],[],us,_,h=>by simp only [Aw]at h⊢;exact h
 |[],_::_,_,h,_=>by cases h
 |_::_,[],_,h,_=>by cases h
 |p::ps,a::as,us,h,hr=>by
  rw [Hz,aT]at h
  simp only [Aw]at hr⊢
  obtain ⟨u,rest,e,⟨q,x⟩,j⟩:=hr
  obtain ⟨k1,v⟩:=Ec hΓ R h.1 x
  exact ⟨u,rest,e,⟨by rw [v];exact q,k1⟩,K3 hΓ R h.2 j⟩
theorem K7 {Γ:Ao} (hΓ:Γ.AB ρ) (R:Ren μ' μ σ) {p a:Ab} (h:Nq Γ σ p a=true) {u:Value} (j:Ah ρ μ a u):Ah ρ μ' p u:=by
 unfold Nq at h
 split at h
 ·obtain ⟨x,e,q⟩:=j.agg
  subst e
  simp only [Ah]
  exact ⟨x,rfl,K3 hΓ R h q⟩
 ·exact (Ec hΓ R h j).1
theorem Gr {Γ:Ao} (hΓ:Γ.AB ρ) (R:Ren μ' μ σ):∀{ps as:List Ab} {us:List Value},K6 Γ σ ps as=true->A4 ρ μ as us->A4 ρ μ' ps us
 |[],[],us,_,h=>by simp only [A4]at h⊢;exact h
 |[],_::_,_,h,_=>by cases h
 |_::_,[],_,h,_=>by cases h
 |p::ps,a::as,us,h,hr=>by
  have e:K6 Γ σ (p::ps) (a::as)=(Nq Γ σ p a&&K6 Γ σ ps as):=rfl
  rw [e,aT]at h
  simp only [A4]at hr⊢
  obtain ⟨u,rest,e,j,q⟩:=hr
  exact ⟨u,rest,e,K7 hΓ R h.1 j,Gr hΓ R h.2 q⟩
theorem MG {i:Nat} {v:List (Ab×List Ab)}:∀{l:List (Nat×List (Ab×List Ab))},U1 i l=some v->(i,v)∈l
 |[],h=>by cases h
 |e::r,h=>by
  have h:(bif Nat.beq e.1 i then some e.2 else U1 i r)=some v:=h
  cases c:Nat.beq e.1 i with
  |true=>
   rw [c]at h
   simp only [cond_true,oI]at h
   rw [<-h,<-Nat.eq_of_beq_eq_true c]
   exact List.mem_cons_self
  |false=>rw [c]at h;exact List.mem_cons_of_mem _ (MG h)
theorem SU:∀{z:List Entry} {l:List (Ab×List Ab)} {ms:List MapEntry} {d:List (List Nat×List PV)},Ahb z l=true->Acf ρ l d->BN ρ μ z ms->IV μ.AQ d ms
 |[],[],ms,d,_,hd,h=>by
  have hd:d=[]:=hd
  subst hd
  exact h
 |[],_::_,_,_,h,_,_=>by cases h
 |_::_,[],_,_,h,_,_=>by cases h
 |e::z,x::l,ms,d,h,hd,hr=>by
  have h:(e.key.eq x.1&&((match e.val with|.agg cs=>Rv cs&&Ab.Pk (CF cs) x.2|_=>false)&&Ahb z l))=true:=h
  rw [aT,aT]at h
  obtain ⟨P,j,O⟩:=h
  obtain ⟨s,ps,rest,rfl,C,d2,J⟩:=hd
  obtain ⟨m,q,rfl,⟨_,m1,m2,_⟩,m4⟩:=hr
  rw [<-Ab.Di P]at C
  obtain ⟨b,k1,L⟩:=BH C m1
  split at j
  ·rename_i cs B
   rw [aT]at j
   rw [B]at m2
   obtain ⟨a,N,ha⟩:=m2.agg
   have A:a.size=ps.length:=by
    have I:=ha.length
    have Q:=d2.length
    have M:(CF cs).length=x.2.length:=by rw [Ab.CW j.2]
    rw [F4]at M
    simp at I
    omega
   refine ⟨m,q,rfl,⟨b,k1,L⟩,⟨a,N,A,?_⟩,SU O J m4⟩
   exact Aw.freeze (by rw [Ab.CW j.2];exact d2) ha fun i v H=>by simpa using H
  ·cases j
theorem M3 {i j:Nat}:∀{l:List (Nat×List AE)},(∀x∈l,Bv ρ x.2 (ρ.lst x.1))->AaE i j l=true->∃n,ρ.lst i=(ρ.lst j).take n
 |[],_,h=>by cases h
 |x::r,hl,h=>by
  have h:((Nat.beq x.1 i&&(match x.2 with|[.take k _]=>Nat.beq k j|_=>false)) ||AaE i j r)=true:=h
  rw [Bool.or_eq_true]at h
  rcases h with h|h
  ·rw [aT,An]at h
   obtain ⟨H,q⟩:=h
   have hd:=hl x List.mem_cons_self
   split at q
   ·rename_i k t e
    have q:=An.1 q
    rw [e,H,q]at hd
    obtain ⟨A,B,z,⟨_,_,C⟩,v⟩:=hd
    have v:B=[]:=v
    subst v
    rw [List.append_nil]at z
    exact ⟨_,z.trans C⟩
   ·cases q
  ·exact M3 (fun y I=>hl y (List.mem_cons_of_mem _ I)) h
theorem Lf {Γ:Ao} (hΓ:Γ.AB ρ) (R:Ren μ' μ σ):∀{ps as:List Entry} {ms:List MapEntry},Ri Γ σ ps as=true->BN ρ μ as ms->BN ρ μ' ps ms
 |[],[],ms,_,h=>h
 |[],_::_,ms,h,_=>by cases h
 |_::_,[],ms,h,_=>by cases h
 |p::ps,a::as,ms,h,he=>by
  have h:(H6 Γ σ p.key a.key&&(H6 Γ σ p.val a.val&&(Nat.beq p.born a.born&&Ri Γ σ ps as)))=true:=h
  rw [aT,aT,aT,An]at h
  obtain ⟨m,rest,rfl,⟨k1,z,j,v⟩,x⟩:=he
  obtain ⟨q,A⟩:=Ec hΓ R h.1 z
  exact ⟨m,rest,rfl,⟨by rw [A];exact k1,q,(Ec hΓ R h.2.1 j).1,by rw [v,h.2.2.1]⟩,Lf hΓ R h.2.2.2 x⟩
theorem Pm {Γ:Ao} (hΓ:Γ.AB ρ) (R:Ren μ' μ σ) {B A:Block} (h:Np Γ σ B A=true) {o:Option Obj} {δ:Nat×Nat} (q:C3 ρ μ A o δ):C3 ρ μ' B o δ:=by
 unfold Np at h
 split at h
 ·rename_i ps as
  obtain ⟨c,e,z,O,hc⟩:=q
  have hl:=F6 h
  refine ⟨c,e,z,O,fun i p L=>?_⟩
  have hi:=(List.getElem?_eq_some_iff.1 L).1
  obtain ⟨a,ha⟩:∃a,as[i]?=some a:=⟨_,List.getElem?_eq_getElem (by omega)⟩
  obtain ⟨v,x,H,Q⟩:=hc i a ha
  obtain ⟨k1,P⟩:=Ec hΓ R (IL h i p a L ha) Q
  exact ⟨v,x,by rw [P];exact H,k1⟩
 ·rename_i e ps e' as
  rw [aT,An]at h
  obtain ⟨rfl,h⟩:=h
  obtain ⟨c,z,⟨h0,hs⟩,O,hc⟩:=q
  have hl:=F6 h
  refine ⟨c,z,⟨h0,by rw [hl];exact hs⟩,O,fun i p L=>?_⟩
  have hi:=(List.getElem?_eq_some_iff.1 L).1
  obtain ⟨a,ha⟩:∃a,as[i]?=some a:=⟨_,List.getElem?_eq_getElem (by omega)⟩
  obtain ⟨v,x,H,Q⟩:=hc i a ha
  obtain ⟨k1,P⟩:=Ec hΓ R (IL h i p a L ha) Q
  exact ⟨v,x,by rw [P];exact H,k1⟩
 ·rename_i i es j ag
  rw [aT,Bool.or_eq_true,An,An]at h
  obtain ⟨h,rfl⟩:=h
  obtain ⟨c,e,I,C,U,X,V,N,M⟩:=q
  rcases h with rfl|h
  ·exact ⟨c,e,I,C,U,X,V,N,by rw [R.AQ];exact M⟩
  ·obtain ⟨n,hn⟩:=M3 hΓ.defs h
   refine ⟨c,e,I,C,?_,X,V,N,?_⟩
   ·rw [hn,lT'];omega
   ·rw [R.AQ,hn]
    rw [Bx]at M⊢
    refine ⟨fun ps aa=>M.1 ps (List.mem_of_mem_take aa),?_⟩
    have:=M.2
    rw [<-List.take_append_drop n (ρ.lst j),List.flatten_append,AG.append_iff]at this
    exact this.1
 ·have h:=An.1 h
  subst h
  obtain ⟨J,ms,c,I,C⟩:=q
  exact ⟨J,ms,c,I,by rw [R.AQ];exact C⟩
 ·rename_i ps c as d
  rw [aT,An]at h
  obtain ⟨rfl,h⟩:=h
  obtain ⟨J,ms,z,Y⟩:=q
  exact ⟨J,ms,z,Lf hΓ R h Y⟩
 ·rename_i i es Z
  obtain ⟨l,hl,H⟩:=Ac (Fk.1 h)
  simp only [oI]at H
  obtain ⟨J,ms,z,Y⟩:=q
  exact ⟨J,ms,Z,z,by rw [R.AQ];exact SU H (hΓ.C5 _ (MG hl)) Y⟩
 ·rw [aT,An]at h
  obtain ⟨x,rfl⟩:=h
  rw [ST.AV x]
  exact q
 ·rename_i t e n e'
  rw [aT,An]at h
  obtain ⟨x,rfl⟩:=h
  rw [ST.AV x]
  obtain ⟨c,I,C,U,X,V,N⟩:=q
  refine ⟨c,I,C,U,?_,?_,N⟩
  ·show (BD _:Int)<=Int.ofNat n
   simp only [Int.ofNat_eq_natCast];omega
  ·show Int.ofNat n<=1048576
   simp only [Int.ofNat_eq_natCast];omega
 ·rw [aT,An,An]at h
  obtain ⟨rfl,rfl⟩:=h
  exact q
 ·cases h
theorem Nn {Γ:Ao} {h:Al}:∀{l:List Block} {k:Nat},XK Γ h σ l k=true->∀i B,l[i]?=some B->∃b A,BY σ (k+i)=some b/\h.get b=some A/\Np Γ σ B A=true
 |[],_,_,i,vs,hv=>by simp at hv
 |W::r,k,hb,i,B,hv=>by
  have e:XK Γ h σ (W::r) k=(eqB Γ h σ k W&&XK Γ h σ r (k+1)):=rfl
  rw [e,aT]at hb
  cases i with
  |zero=>
   simp only [List.getElem?_cons_zero,oI]at hv
   subst hv
   have j:=hb.1
   unfold eqB at j
   split at j
   ·rename_i b v
    split at j
    ·rename_i A hg
     exact ⟨b,A,v,hg,j⟩
    ·cases j
   ·cases j
  |succ i=>
   obtain ⟨b,A,j,x,q⟩:=Nn hb.2 i B (by simpa using hv)
   exact ⟨b,A,by rw [<-j];congr 1;omega,x,q⟩
theorem Ke:∀{l r:List Ab},Mx σ l=some r->l.length=r.length/\∀(i:Nat) (a:Ab),r[i]?=some a->∃p,l[i]?=some p/\Js σ p=some a
 |[],r,h=>by
  have h:some []=some r:=h
  simp only [oI]at h
  subst h
  exact ⟨rfl,fun i a ha=>by simp at ha⟩
 |v::l,r,h=>by
  have h:(A6 (Js σ v) fun u=>A6 (Mx σ l) fun us=>some (u::us))=some r:=h
  obtain ⟨u,q,h⟩:=Ac h
  obtain ⟨us,j,h⟩:=Ac h
  simp only [oI]at h
  subst h
  obtain ⟨k1,x⟩:=Ke j
  refine ⟨by simp [k1],fun i a ha=>?_⟩
  cases i with
  |zero=>
   simp only [List.getElem?_cons_zero,oI]at ha
   subst ha
   exact ⟨v,rfl,q⟩
  |succ i=>simpa using x i a (by simpa using ha)
theorem Qq (R:Ren μ' μ σ):∀{l r:List Ab} {us:List Value},Mx σ l=some r->Aw ρ μ' l us->Aw ρ μ r us
 |[],r,us,h,hr=>by
  have h:some []=some r:=h
  simp only [oI]at h
  subst h
  exact hr
 |v::l,r,us,h,hr=>by
  have h:(A6 (Js σ v) fun u=>A6 (Mx σ l) fun us=>some (u::us))=some r:=h
  obtain ⟨u,q,h⟩:=Ac h
  obtain ⟨H,j,h⟩:=Ac h
  simp only [oI]at h
  subst h
  simp only [Aw]at hr⊢
  obtain ⟨x,rest,rfl,⟨A,C⟩,z⟩:=hr
  obtain ⟨k1,B⟩:=CS (ρ:=ρ) R q (u:=x)
  exact ⟨x,rest,rfl,⟨by rw [B];exact A,k1.2 C⟩,Qq R j z⟩
theorem Wi (R:Ren μ' μ σ):∀{l r:List Ab} {us:List Value},Mx σ l=some r->A4 ρ μ' l us->A4 ρ μ r us
 |[],r,us,h,hr=>by
  have h:some []=some r:=h
  simp only [oI]at h
  subst h
  exact hr
 |v::l,r,us,h,hr=>by
  have h:(A6 (Js σ v) fun u=>A6 (Mx σ l) fun us=>some (u::us))=some r:=h
  obtain ⟨u,q,h⟩:=Ac h
  obtain ⟨B,j,h⟩:=Ac h
  simp only [oI]at h
  subst h
  simp only [A4]at hr⊢
  obtain ⟨x,rest,rfl,A,z⟩:=hr
  obtain ⟨k1,C⟩:=CS (ρ:=ρ) R q (u:=x)
  exact ⟨x,rest,rfl,k1.2 A,Wi R j z⟩
theorem Aa3 (R:Ren μ' μ σ) {p a:Ab} (h:AcO σ p=some a) {u:Value} (j:Ah ρ μ' p u):Ah ρ μ a u:=by
 unfold AcO at h
 split at h
 ·obtain ⟨cs,q,e⟩:=Ac h
  simp only [oI]at e
  subst e
  obtain ⟨x,rfl,v⟩:=j.agg
  simp only [Ah]
  exact ⟨x,rfl,Qq R q v⟩
 ·exact (CS R h).1.2 j
theorem Sn (R:Ren μ' μ σ):∀{l r:List Ab} {us:List Value},Aa4 σ l=some r->A4 ρ μ' l us->A4 ρ μ r us
 |[],r,us,h,hr=>by
  have h:some []=some r:=h
  simp only [oI]at h
  subst h
  exact hr
 |v::l,r,us,h,hr=>by
  have h:(A6 (AcO σ v) fun u=>A6 (Aa4 σ l) fun us=>some (u::us))=some r:=h
  obtain ⟨a,ha,x⟩:=Ac h
  obtain ⟨as,j,q⟩:=Ac x
  simp only [oI]at q
  subst q
  simp only [A4]at hr⊢
  obtain ⟨u,rest,rfl,k1,z⟩:=hr
  exact ⟨u,rest,rfl,Aa3 R ha k1,Sn R j z⟩
theorem Sp (R:Ren μ' μ σ) {p a:Ab} (h:Uj σ p=some a) {u:Value} (q:Ah ρ μ' p u):Ah ρ μ a u:=by
 unfold Uj at h
 split at h
 ·obtain ⟨cs,j,e⟩:=Ac h
  simp only [oI]at e
  subst e
  obtain ⟨x,rfl,v⟩:=q.agg
  simp only [Ah]
  exact ⟨x,rfl,Qq R j v⟩
 ·obtain ⟨cs,j,e⟩:=Ac h
  simp only [oI]at e
  subst e
  obtain ⟨x,rfl,v⟩:=q.tuple
  simp only [Ah]
  exact ⟨x,rfl,Sn R j v⟩
 ·exact (CS R h).1.2 q
theorem OG (R:Ren μ' μ σ):∀{l r:List Entry} {ms:List MapEntry},Aa5 σ l=some r->BN ρ μ' l ms->BN ρ μ r ms
 |[],r,ms,h,he=>by
  have h:some []=some r:=h
  simp only [oI]at h
  subst h
  exact he
 |e::l,r,ms,h,he=>by
  have h:(A6 (Js σ e.key) fun k=>A6 (Js σ e.val) fun v=>A6 (Aa5 σ l) fun q=>some (⟨k,v,e.born⟩::q))=some r:=h
  obtain ⟨k,I,h⟩:=Ac h
  obtain ⟨v,z,h⟩:=Ac h
  obtain ⟨q,j,h⟩:=Ac h
  simp only [oI]at h
  subst h
  obtain ⟨m,rest,rfl,⟨k1,H,x,B⟩,C⟩:=he
  obtain ⟨A,J⟩:=CS (ρ:=ρ) R I (u:=m.key)
  exact ⟨m,rest,rfl,⟨by rw [J];exact k1,A.2 H,(CS R z).1.2 x,B⟩,OG R j C⟩
theorem Aa8 (R:Ren μ' μ σ) {B C:Block} (h:Xp σ B=some C) {o:Option Obj} {δ:Nat×Nat} (hB:C3 ρ μ' B o δ):C3 ρ μ C o δ:=by
 unfold Xp at h
 split at h
 ·rename_i vs
  obtain ⟨us,j,e⟩:=Ac h
  simp only [oI]at e
  subst e
  obtain ⟨k1,A⟩:=Ke j
  obtain ⟨c,e,q,z,hc⟩:=hB
  refine ⟨c,e,q,z,fun i a ha=>?_⟩
  obtain ⟨p,M,P⟩:=A i a ha
  obtain ⟨v,J,O,I⟩:=hc i p M
  obtain ⟨x,N⟩:=CS (ρ:=ρ) R P (u:=v)
  exact ⟨v,J,by rw [N];exact O,x.2 I⟩
 ·rename_i t vs
  obtain ⟨us,j,e⟩:=Ac h
  simp only [oI]at e
  subst e
  obtain ⟨k1,A⟩:=Ke j
  obtain ⟨c,q,⟨Z,hs⟩,z,hc⟩:=hB
  refine ⟨c,q,⟨Z,by rw [<-k1];exact hs⟩,z,fun i a ha=>?_⟩
  obtain ⟨p,M,P⟩:=A i a ha
  obtain ⟨v,J,O,I⟩:=hc i p M
  obtain ⟨x,N⟩:=CS (ρ:=ρ) R P (u:=v)
  exact ⟨v,J,by rw [N];exact O,x.2 I⟩
 ·simp only [oI]at h
  subst h
  obtain ⟨c,e,Q,L,Y,x4,x5,X,V⟩:=hB
  exact ⟨c,e,Q,L,Y,x4,x5,X,by rw [<-R.AQ];exact V⟩
 ·simp only [oI]at h
  subst h
  obtain ⟨H,ms,c,Q,L⟩:=hB
  exact ⟨H,ms,c,Q,by rw [<-R.AQ];exact L⟩
 ·simp only [oI]at h
  subst h
  exact hB
 ·simp only [oI]at h
  subst h
  exact hB
 ·obtain ⟨es,U,e⟩:=Ac h
  simp only [oI]at e
  subst e
  obtain ⟨H,ms,q,he⟩:=hB
  exact ⟨H,ms,q,OG R U he⟩
theorem Um (B:Option Block) (r:List (Option Block)) (i:Nat) (h:Al):OH σ (B::r) i h=A6 (AcR σ i B h) fun j=>OH σ r (i+1) j:=rfl
theorem Xs {i:Nat} {B:Option Block} {h q:Al} (j:AcR σ i B h=some q):q.next=h.next/\q.fx=h.fx/\∃b,BY σ i=some b/\∃C,(match B with|some B=>∃D,Xp σ B=some D/\C=some D|none=>C=none)/\∀d,q.get d=if d=b then C else h.get d:=by
 unfold AcR at j
 obtain ⟨b,hb,j⟩:=Ac j
 cases B with
 |none=>
  simp only [oI]at j
  subst j
  exact ⟨rfl,rfl,b,hb,none,rfl,fun d=>Al.AY _ _ _ _⟩
 |some B=>
  obtain ⟨D,v,j⟩:=Ac j
  simp only [oI]at j
  subst j
  exact ⟨rfl,rfl,b,hb,some D,⟨D,v,rfl⟩,fun d=>Al.AY _ _ _ _⟩
theorem M0 (M:σ.Nodup):∀{l:List (Option Block)} {i:Nat} {h q:Al},OH σ l i h=some q->q.next=h.next/\q.fx=h.fx/\(∀b,(∀j,j<l.length->BY σ (i+j)≠some b)->q.get b=h.get b)/\
  ∀j B,l[j]?=some B->∃b,BY σ (i+j)=some b/\(match B with|some B=>∃D,Xp σ B=some D/\q.get b=some D|none=>q.get b=none)
 |[],i,h,q,v=>by
  have v:some h=some q:=v
  simp only [oI]at v
  subst v
  exact ⟨rfl,rfl,fun _ _=>rfl,fun j B hB=>by simp at hB⟩
 |B::r,i,h,q,v=>by
  rw [Um]at v
  obtain ⟨R,L,J⟩:=Ac v
  obtain ⟨n1,O,b,hb,C,I,g1⟩:=Xs L
  obtain ⟨n2,N,g2,g3⟩:=M0 M J
  refine ⟨n2.trans n1,N.trans O,fun d hd=>?_,fun j D H=>?_⟩
  ·have z:∀j,j<r.length->BY σ (i+1+j)≠some d:=fun j P=>by
    rw [show i+1+j=i+(j+1) by omega];exact hd (j+1) (by simp;omega)
   have Q:d≠b:=fun e=>by
    subst e;exact hd 0 (by simp) (by simpa using hb)
   rw [g2 d z,g1 d,if_neg Q]
  ·cases j with
   |zero=>
    simp only [List.getElem?_cons_zero,oI]at H
    subst H
    have x:q.get b=C:=by
     have z:∀j,j<r.length->BY σ (i+1+j)≠some b:=fun j P e=>by
      have:=S0 M hb e
      omega
     rw [g2 b z,g1 b,if_pos rfl]
    refine ⟨b,by simpa using hb,?_⟩
    cases B with
    |none=>exact x.trans I
    |some B=>obtain ⟨D,k1,A⟩:=I;exact ⟨D,k1,x.trans A⟩
   |succ j=>
    obtain ⟨d,k1,A⟩:=g3 j D (by simpa using H)
    exact ⟨d,by rw [<-k1];congr 1;omega,A⟩
end
noncomputable def Fy (μ:As) (σ:List Nat):As:=⟨fun i=>(BY σ i).bind μ.spot,μ.AQ⟩
structure Fits (Γ:Ao) (h:Al) (σ:List Nat) (pre:List Block) (n:Nat):Prop where
 len:σ.length=pre.length
 ple:pre.length<=n
 nodup:σ.Nodup
 bs:XK Γ h σ pre 0=true
section
variable {ρ:Env} {μ:As} {Γ:Ao} {h:Al} {w:World} {σ:List Nat} {pre:List Block} {post:List (Option Block)}
theorem Fits.lt (F:Fits Γ h σ pre post.length) (H:AD ρ μ h w):∀i b,BY σ i=some b->i<pre.length/\b<h.next:=fun i b e=>by
 have j:=Adc e
 rw [F.len]at j
 obtain ⟨v,A,k1,q,_⟩:=Nn F.bs i _ (List.getElem?_eq_getElem j)
 rw [Nat.zero_add,e]at k1
 simp only [oI]at k1
 subst k1
 exact ⟨j,H.Fj q⟩
theorem Fits.ren:Ren (Fy μ σ) μ σ:=⟨fun i b e=>by show (BY σ i).bind μ.spot=_;rw [e];rfl,rfl⟩
theorem Fits.get (F:Fits Γ h σ pre post.length):∀b B,(AS pre (empty 0)).get b=some B->∃c A,pre[b]?=some B/\BY σ b=some c/\h.get c=some A/\Np Γ σ B A=true:=fun b B e=>by
 rw [Cq]at e
 obtain ⟨c,A,k1,q,j⟩:=Nn F.bs b B e
 rw [Nat.zero_add]at k1
 exact ⟨c,A,e,k1,q,j⟩
theorem Fits.own (F:Fits Γ h σ pre post.length):∀r,AF (Fy μ σ) (AS pre (empty 0)) r->∃i b B δ,BY σ i=some b/\h.get b=some B/\μ b=some (r,δ):=fun r ⟨b,B,δ,hb,hm⟩=>by
 obtain ⟨c,A,_,k1,j,_⟩:=F.get b B hb
 rw [Fits.ren.spot b c k1]at hm
 exact ⟨b,c,A,δ,k1,j,hm⟩
theorem Fits.before (hΓ:Γ.AB ρ) (F:Fits Γ h σ pre post.length) (H:AD ρ μ h w):AD ρ (Fy μ σ) (AS pre (empty 0)) w:=by
 have v:∀r,AF (Fy μ σ) (AS pre (empty 0)) r->AF μ h r:=fun r j=>by
  obtain ⟨i,b,B,δ,_,k1,q⟩:=F.own r j
  exact ⟨b,B,δ,k1,q⟩
 refine ⟨fun b hb=>?_,fun b B hb=>?_,fun b I B O r δ R hb L x C=>?_,⟨fun g o e=>⟨(H.AJ.AJ g o e).1,fun j=>(H.AJ.AJ g o e).2 (v g j)⟩,fun g o e=>⟨(H.AJ.AQ g o e).1,fun j=>(H.AJ.AQ g o e).2 (v g j)⟩,?_⟩⟩
 ·rw [BR]at hb
  show (BY σ b).bind μ.spot=none
  cases e:BY σ b with
  |none=>rfl
  |some c=>have:=(F.lt H b c e).1;omega
 ·obtain ⟨c,A,_,k1,q,M⟩:=F.get b B hb
  obtain ⟨r,δ,x,N⟩:=H.blk c A q
  exact ⟨r,δ,by rw [Fits.ren.spot b c k1];exact x,Pm hΓ Fits.ren M N⟩
 ·obtain ⟨c,A,_,k1,q,_⟩:=F.get b B hb
  obtain ⟨P,Q,_,z,J,_⟩:=F.get I O L
  rw [Fits.ren.spot b c k1]at x
  rw [Fits.ren.spot I P z]at C
  have:=H.inj _ _ _ _ _ _ _ q J x C
  subst this
  exact S0 F.nodup k1 z
 ·rw [(BU pre (empty 0)).2.1]
  exact Ao.AB.none ρ
theorem Fits.after (F:Fits Γ h σ pre post.length) (H:AD ρ μ h w) {Z:Al} (al:OH (σ++KX post pre.length h.next) post 0 ⟨h.DE,h.next+(post.length-pre.length),h.fx⟩=some Z) {μ':As} {w':World} (L:Av ρ (Fy μ σ) (AS pre (empty 0)) w μ' (Ct post (empty 0)) w'):
  ∃A,Av ρ μ h w A Z w'/\Ren μ' A (σ++KX post pre.length h.next):=by
 have aw:=F.len
 have aD:=F.ple
 have aB:=F.nodup
 have R:=F.lt H
 have own:=F.own (μ:=μ)
 have ao:∀r,AF (Fy μ σ) (AS pre (empty 0)) r->AF μ h r:=fun r ho=>by
  obtain ⟨i,b,B,δ,_,k1,v⟩:=own r ho
  exact ⟨b,B,δ,k1,v⟩
 generalize hσ':σ++KX post pre.length h.next=σ' at al⊢
 have hσ'get:∀i b,BY σ' i=some b↔(i<pre.length/\BY σ i=some b)∨(pre.length<=i/\i<post.length/\b=h.next+(i-pre.length)):=fun i b=>by
  rw [<-hσ',Fi,Fi]
  by_cases M:i<pre.length
  ·rw [List.getElem?_append_left (by omega)]
   constructor
   ·intro e;exact .inl ⟨M,e⟩
   ·rintro (⟨_,e⟩|⟨e,_⟩)
    ·exact e
    ·omega
  ·rw [List.getElem?_append_right (by omega),FL,aw]
   constructor
   ·intro e
    split at e
    ·simp only [oI]at e
     exact .inr ⟨by omega,by omega,e.symm⟩
    ·cases e
   ·rintro (⟨e,_⟩|⟨N,Y,e3⟩)
    ·omega
    ·rw [if_pos (by omega),e3]
 have au:σ'.Nodup:=by
  rw [<-hσ',List.nodup_append]
  refine ⟨aB,?_,fun a ha b hb e=>?_⟩
  ·rw [List.nodup_iff_pairwise_ne,List.pairwise_iff_getElem]
   intro i j M hj aG e
   have N:=List.getElem?_eq_getElem M
   have Y:=List.getElem?_eq_getElem hj
   rw [FL]at N Y
   split at N<;>split at Y<;>simp at N Y
   omega
  ·subst e
   obtain ⟨i,M⟩:=List.mem_iff_getElem?.1 ha
   obtain ⟨j,hj⟩:=List.mem_iff_getElem?.1 hb
   rw [FL]at hj
   split at hj
   ·simp only [oI]at hj
    have:=(R i a (by rw [Fi];exact M)).2
    omega
   ·cases hj
 obtain ⟨n1,f1,g1,g2⟩:=M0 au al
 have n1:Z.next=h.next+(post.length-pre.length):=n1
 let A:As:=⟨fun b=>if h.next<=b/\b<h.next+(post.length-pre.length)then μ' (pre.length+(b-h.next))else μ b,μ'.AQ⟩
 have x:∀b,b<h.next->A b=μ b:=fun b hb=>by
  show (if _ then _ else _)=_
  rw [if_neg (by omega)]
 have X:Ren μ' A σ':=⟨fun i b e=>by
  rcases (hσ'get i b).1 e with ⟨M,e⟩|⟨hi1,hi2,rfl⟩
  ·rw [x b (R i b e).2,L.old i (by rw [BR];exact M)]
   exact Fits.ren.spot i b e
  ·show _=(if _ then _ else _)
   rw [if_pos (by omega)]
   congr 1;omega,rfl⟩
 have ap:μ.le A:=⟨fun b y e=>by
  have hb:b<h.next:=by
   rcases Nat.lt_or_ge b h.next with hb|hb
   ·exact hb
   ·rw [H.fresh b hb]at e;cases e
  rw [x b hb];exact e,fun k o e=>L.le.AQ k o e⟩
 have ae:∀b B,Z.get b=some B->(∃i O,BY σ' i=some b/\(Ct post (empty 0)).get i=some O/\Xp σ' O=some B)∨((∀i,BY σ i≠some b)/\h.get b=some B):=fun b B hb=>by
  by_cases hex:∃i,BY σ' i=some b
  ·obtain ⟨i,M⟩:=hex
   left
   have aq:i<post.length:=by
    rcases (hσ'get i b).1 M with ⟨q,_⟩|⟨_,q,_⟩
    ·omega
    ·exact q
   obtain ⟨b',k1,v⟩:=g2 i _ (List.getElem?_eq_getElem aq)
   rw [Nat.zero_add,M]at k1
   simp only [oI]at k1
   subst k1
   cases V:post[i]with
   |none=>rw [V]at v;simp only at v;rw [hb]at v;cases v
   |some O=>
    rw [V]at v
    obtain ⟨D,I,k4⟩:=v
    rw [hb]at k4
    simp only [oI]at k4
    subst k4
    refine ⟨i,O,M,?_,I⟩
    rw [Dr,List.getElem?_eq_getElem aq,V];rfl
  ·right
   have Q:∀i,BY σ' i≠some b:=fun i e=>hex ⟨i,e⟩
   refine ⟨fun i e=>Q i ((hσ'get i b).2 (.inl ⟨(R i b e).1,e⟩)),?_⟩
   have:=g1 b fun j _=>by rw [Nat.zero_add];exact Q j
   rw [this]at hb
   exact hb
 have ac:∀r,AF μ' (Ct post (empty 0)) r->∀b B δ,(∀i,BY σ i≠some b)->h.get b=some B->μ b=some (r,δ)->False:=fun r ho b B δ Q hb z=>by
  have aA:=H.lt hb z
  refine (L.kept r aA fun V=>?_).2 ho
  obtain ⟨i,c,C,δ',k1,v,I⟩:=own r V
  have:=H.inj _ _ _ _ _ _ _ hb v z I
  subst this
  exact Q i k1
 have ak:∀r,AF A Z r->AF μ' (Ct post (empty 0)) r∨∃b B δ,(∀i,BY σ i≠some b)/\h.get b=some B/\μ b=some (r,δ):=fun r ⟨b,B,δ,hb,z⟩=>by
  rcases ae b B hb with ⟨i,O,k1,v,I⟩|⟨k1,v⟩
  ·left
   rw [<-X.spot i b k1]at z
   exact ⟨i,O,δ,v,z⟩
  ·right
   rw [x b (H.Fj v)]at z
   exact ⟨b,B,δ,k1,v,z⟩
 have ad:∀r,r<w.heap.size->¬AF μ h r->w'.heap[r]?=w.heap[r]?/\¬AF A Z r:=fun r hr ho=>by
  obtain ⟨P,U⟩:=L.kept r hr fun V=>ho (ao r V)
  refine ⟨P,fun hq=>?_⟩
  rcases ak r hq with hq|⟨b,B,δ,_,v,I⟩
  ·exact U hq
  ·exact ho ⟨b,B,δ,v,I⟩
 have ai:∀k o,μ'.AQ k=some o->μ.AQ k=some o∨AF (Fy μ σ) (AS pre (empty 0)) k∨w.heap.size<=k:=L.icy
 have H1:AD ρ A Z w':=by
  refine ⟨fun b hb=>?_,fun b B hb=>?_,fun b b' B B' r δ δ' hb az z J=>?_,⟨fun k o hk=>?_,fun k o hk=>?_,?_⟩⟩
  ·rw [n1]at hb
   show (if _ then _ else _)=none
   rw [if_neg (by omega)]
   exact H.fresh b (by omega)
  ·rcases ae b B hb with ⟨i,O,k1,v,I⟩|⟨k1,v⟩
   ·obtain ⟨r,δ,N,Y⟩:=L.rel.blk i O v
    exact ⟨r,δ,by rw [<-X.spot i b k1];exact N,Aa8 X I Y⟩
   ·obtain ⟨r,δ,N,Y⟩:=H.blk b B v
    refine ⟨r,δ,by rw [x b (H.Fj v)];exact N,?_⟩
    have Q:¬AF (Fy μ σ) (AS pre (empty 0)) r:=fun V=>by
     obtain ⟨i,c,C,δ',P,U,q3⟩:=own r V
     have:=H.inj _ _ _ _ _ _ _ v U N q3
     subst this
     exact k1 i P
    rw [(L.kept r (H.lt v N) Q).1]
    exact Y.mono ap
  ·rcases ae b B hb with ⟨i,O,k1,v,I⟩|⟨k1,v⟩<;>rcases ae b' B' az with ⟨i',Bp',k1',k2',k3'⟩|⟨k1',k2'⟩
   ·rw [<-X.spot i b k1]at z
    rw [<-X.spot i' b' k1']at J
    have:=L.rel.inj _ _ _ _ _ _ _ v k2' z J
    subst this
    rw [k1]at k1'
    simpa using k1'
   ·rw [<-X.spot i b k1]at z
    rw [x b' (H.Fj k2')]at J
    exact (ac r ⟨i,O,δ,v,z⟩ b' B' δ' k1' k2' J).elim
   ·rw [<-X.spot i' b' k1']at J
    rw [x b (H.Fj v)]at z
    exact (ac r ⟨i',Bp',δ',k2',J⟩ b B δ k1 v z).elim
   ·rw [x b (H.Fj v)]at z
    rw [x b' (H.Fj k2')]at J
    exact H.inj _ _ _ _ _ _ _ v k2' z J
  ·obtain ⟨P,U⟩:=H.AJ.AJ k o hk
   obtain ⟨q3,q4⟩:=ad k (Array.getElem?_eq_some_iff.1 P).1 U
   exact ⟨q3.trans P,q4⟩
  ·obtain ⟨P,U⟩:=L.rel.AJ.AQ k o hk
   refine ⟨P,fun hq=>?_⟩
   rcases ak k hq with hq|⟨b,B,δ,k1,v,I⟩
   ·exact U hq
   ·rcases ai k o hk with i1|i1|i1
    ·exact (H.AJ.AQ k o i1).2 ⟨b,B,δ,v,I⟩
    ·obtain ⟨i,c,C,δ',P,U,q3⟩:=own k i1
     have:=H.inj _ _ _ _ _ _ _ v U I q3
     subst this
     exact k1 i P
    ·have:=H.lt v I;omega
  ·rw [f1];exact H.AJ.facts
 refine ⟨A,⟨ap,H1,L.size,ad,L.os,L.output,by rw [n1];omega,x,fun k o hk=>?_,f1⟩,X⟩
 ·rcases ai k o hk with i1|i1|i1
  ·exact .inl i1
  ·exact .inr (.inl (ao k i1))
  ·exact .inr (.inr i1)
end
end
section
section
variable {P:Program} {Γ:Ao} {ρ:Env} {pl:List Co} {nt:Nat} {call:Cm} {fuel:Nat}
theorem Rg (d:Bool) (l:List Step) (k:Nat) (f:Fr):Fp Γ call fuel (.region d l) k f=Qr Γ call d l f:=rfl
theorem XI (a b:IC) (k:Nat) (f:Fr):Fp Γ call fuel (.seq a b) k f=A6 (Fp Γ call fuel a k f) fun r=>andThen r fun j=>Fp Γ call fuel b k j:=rfl
theorem Nh (c:Cr) (a b:IC) (k:Nat) (f:Fr):Fp Γ call fuel (.cond c a b) k f=AbA (ev f.tm c) (Fp Γ call fuel a k f) (Fp Γ call fuel b k f):=rfl
theorem SN (id:Nat) (b:IC) (k:Nat) (f:Fr):Fp Γ call fuel (.block id b) k f=A6 (Fp Γ call fuel b id f) fun r=>some (Gk id r):=rfl
theorem UW (b:IC) (k:Nat) (f:Fr):Fp Γ call fuel (.loop b) k f=iter (fun f=>It Γ k f Γ.loops) (fun f=>Fp Γ call fuel b k f) fuel f:=rfl
def Dd:Nat->Code->List (Nat×Code)
 |k,.seq a b=>Dd k a++Dd k b
 |k,.cond _ a b=>Dd k a++Dd k b
 |_,.block id b=>Dd id b
 |k,.loop b=>(k,b)::Dd k b
 |_,_=>[]
def B5.Ph (k:B5):Exit:=bif k.out then .ret else .exit k.id
theorem B5.Abz (k:B5) {ρ:Env} {μ:As}:Acs ρ μ k.Nf k.Ph:=by
 unfold B5.Nf B5.Ph
 cases k.out<;>exact rfl
theorem B5.Adm {k:B5} {ρ:Env} {μ:As} {e:Exit} (h:Acs ρ μ k.Nf e):e=k.Ph:=by
 unfold B5.Nf at h
 unfold B5.Ph
 cases hk:k.out<;>rw [hk]at h<;>exact h
def DS (P:Program) (ρ:Env) (nt:Nat) (x:Code) (k:B5):Prop:=
 ∃n,∀μ a w (Q:Exit->Act->World->Prop),CG ρ μ nt ⟨O0 k.Xe .nil,AS k.pre (empty 0),k.df⟩ a w->
  (∀j q w',CG ρ j nt ⟨O0 k.NR .nil,Ct k.post (empty 0),k.df⟩ q w'->Av ρ μ (AS k.pre (empty 0)) w j (Ct k.post (empty 0)) w'->Q k.Ph q w')->Code.rounds P x Q n a w
def Du (P:Program) (ρ:Env) (nt:Nat) (l:List B5) (cur:Nat) (c:Code):Prop:=∀y∈Dd cur c,∀k∈l,k.id=y.1->DS P ρ nt y.2 k
theorem Du.none {P:Program} {ρ:Env} {nt cur:Nat} {c:Code}:Du P ρ nt [] cur c:=fun _ _ k j=>by cases j
theorem P5:∀(l:List (Nat×Ab)) (t:Tr Ab) (n:Nat) (v:Ab),(O0 l t).get n=some v->(n,v)∈l∨t.get n=some v
 |[],t,n,v,e=>.inr e
 |x::l,t,n,v,e=>by
  have e:(O0 l (t.set x.1 (some x.2))).get n=some v:=e
  rcases P5 l _ n v e with k|k
  ·exact .inl (List.mem_cons_of_mem _ k)
  ·rw [Tr.AY]at k
   split at k
   ·rename_i hb
    simp only [oI]at k
    subst k
    rw [hb]
    exact .inl (List.mem_cons_self)
   ·exact .inr k
theorem K2 {σ:List Nat} {t:Tr Ab}:∀{l:List (Nat×Ab)},WA Γ σ t l=true->∀i v,(i,v)∈l->Nq Γ σ v (Ep (t.get i))=true
 |[],_,b,B,hm=>by simp at hm
 |x::l,hf,b,B,hm=>by
  have hf:(Nq Γ σ x.2 (Ep (t.get x.1))&&WA Γ σ t l)=true:=hf
  rw [aT]at hf
  rcases List.mem_cons.1 hm with e|hm
  ·subst e
   exact hf.1
  ·exact K2 hf.2 b B hm
theorem Mw {σ:List Nat}:∀{l:List (Nat×Ab)} {t t' u:Tr Ab},Ui σ l t=some t'->(∀n v,t.get n=some v->∃p,u.get n=some p/\Uj σ p=some v)->∀n v,t'.get n=some v->∃p,(O0 l u).get n=some p/\Uj σ p=some v
 |[],t,t',u,h,ht,n,v,e=>by
  have h:some t=some t':=h
  simp only [oI]at h
  subst h
  exact ht n v e
 |x::l,t,t',u,h,ht,n,v,e=>by
  have h:(A6 (Uj σ x.2) fun v=>Ui σ l (Tr.set t x.1 (some v)))=some t':=h
  obtain ⟨y,A,h⟩:=Ac h
  refine Mw (u:=u.set x.1 (some x.2)) h (fun m z j=>?_) n v e
  rw [Tr.AY]at j
  by_cases hm:m=x.1
  ·rw [if_pos hm]at j
   simp only [oI]at j
   subst j
   exact ⟨x.2,by rw [Tr.AY,if_pos hm],A⟩
  ·rw [if_neg hm]at j
   obtain ⟨p,k1,q⟩:=ht m z j
   exact ⟨p,by rw [Tr.AY,if_neg hm];exact k1,q⟩
theorem SV {μ j:As} {σ:List Nat} (hΓ:Γ.AB ρ) (R:Ren j μ σ) {p q:List (FuncId×List Ab)} (h:Adn Γ σ p q=true) {ds:List Deferred} (hd:C1 ρ μ q ds):C1 ρ j p ds:=by
 unfold Adn at h
 split at h
 ·exact hd
 ·rw [aT]at h
  obtain ⟨c,rest,x,⟨cap,A,v⟩,z⟩:=hd
  exact ⟨c,rest,x,⟨cap,by rw [A,An.1 h.1],Gr hΓ R h.2 v⟩,z⟩
 ·cases h
theorem Xo {μ j:As} {σ:List Nat} (R:Ren j μ σ) {p q:List (FuncId×List Ab)} (h:Aa6 σ p=some q) {ds:List Deferred} (hd:C1 ρ j p ds):C1 ρ μ q ds:=by
 unfold Aa6 at h
 split at h
 ·simp only [oI]at h
  subst h
  exact hd
 ·obtain ⟨l,hl,h⟩:=Ac h
  simp only [oI]at h
  subst h
  obtain ⟨c,rest,x,⟨cap,A,v⟩,z⟩:=hd
  exact ⟨c,rest,x,⟨cap,A,Wi R hl v⟩,z⟩
 ·cases h
theorem NZ {x:Code} {k:B5} (R:DS P ρ nt x k) {f:Fr} {r:AX×Fr} (j:L6 Γ k f=some r) (hΓ:Γ.AB ρ):
  ∃n,∀{μ:As} {a:Act} {w:World} {Q:Exit->Act->World->Prop},CG ρ μ nt f a w->Dp ρ nt μ f.h w Q r->Code.rounds P x Q n a w:=by
 obtain ⟨n,R⟩:=R
 refine ⟨n,fun {μ a w Q} F L=>?_⟩
 unfold L6 at j
 obtain ⟨z,j⟩:=Ap j
 generalize RH f.h k.pre 0 (Yo k.df f.df (T0 f.tm k.Xe []))=σ at z j
 unfold AdW at z
 rw [aT,aT,aT,aT,aT]at z
 obtain ⟨V,B,A,Z,O,X⟩:=z
 have B:=An.1 B
 rw [Db,EH]at B
 have A:=AI.1 A
 rw [EH,Gg]at A
 unfold AbN at j
 obtain ⟨h1,C,j⟩:=Ac j
 obtain ⟨tm,I,j⟩:=Ac j
 obtain ⟨df,J,j⟩:=Ac j
 simp only [oI]at j
 subst j
 rw [EH]at C I J
 rw [Gg]at C
 have H:=F.heap
 have FF:Fits Γ f.h σ k.pre k.post.length:=⟨B,A,EP Z,X⟩
 refine R (Fy μ σ) a w Q ⟨fun t=>?_,F.size,Fits.before hΓ FF H,SV hΓ Fits.ren V F.defs⟩ fun μ' a' w' U g'=>?_
 ·show Ah ρ (Fy μ σ) (Ep ((O0 k.Xe .nil).get t)) _
  cases hg:(O0 k.Xe .nil).get t with
  |none=>trivial
  |some v=>
   rcases P5 _ _ _ _ hg with q|q
   ·exact K7 hΓ Fits.ren (K2 O t v q) (F.tmps t)
   ·cases q
 ·obtain ⟨N,M,Y⟩:=FF.after H C g'
  refine L N a' w' k.Ph ⟨fun t=>?_,U.size,M.rel,?_⟩ M k.Abz
  ·show Ah ρ N (Ep (tm.get t)) _
   cases hg:tm.get t with
   |none=>trivial
   |some v=>
    obtain ⟨p,k1,k2⟩:=Mw (u:=.nil) I (fun n v e=>by cases e) t v hg
    have:=U.tmps t
    rw [k1]at this
    exact Sp Y k2 this
  ·exact Xo Y J U.defs
theorem KZ {x:Code} {cur:Nat} {f:Fr} {r:AX×Fr} (hΓ:Γ.AB ρ):∀{l:List B5},(∀k∈l,k.id=cur->DS P ρ nt x k)->It Γ cur f l=some r->
  ∃n,∀{μ:As} {a:Act} {w:World} {Q:Exit->Act->World->Prop},CG ρ μ nt f a w->Dp ρ nt μ f.h w Q r->Code.rounds P x Q n a w
 |[],_,h=>by cases h
 |k::l,hl,h=>by
  have h:(bif Nat.beq k.id cur then (match L6 Γ k f with|some x=>some x|none=>It Γ cur f l)else It Γ cur f l)=some r:=h
  have rest:It Γ cur f l=some r->∃n,∀{μ:As} {a:Act} {w:World} {Q:Exit->Act->World->Prop},CG ρ μ nt f a w->Dp ρ nt μ f.h w Q r->Code.rounds P x Q n a w:=KZ hΓ fun y j=>hl y (List.mem_cons_of_mem _ j)
  rw [AA]at h
  split at h
  ·rename_i e
   split at h
   ·rename_i y j
    simp only [oI]at h
    subst h
    exact NZ (hl k List.mem_cons_self e) j hΓ
   ·exact rest h
  ·exact rest h
theorem ID {μ:As} {h:Al} {w:World} {H r:AX×Fr} {k:Fr->Option (AX×Fr)} (j:andThen H k=some r) {K:Act->World->Prop} {Q:Exit->Act->World->Prop} (L:Dp ρ nt μ h w Q r)
  (I:∀z,H=(.normal,z)->k z=some r->∀A B w',CG ρ A nt z B w'->Av ρ μ h w A z.h w'->K B w'):Dp ρ nt μ h w (Exit.then K Q) H:=by
 intro A B w' e F g q
 obtain ⟨x,z⟩:=H
 cases x with
 |normal=>
  have q:e=.normal:=q
  subst q
  exact I z rfl j A B w' F g
 |exit i=>
  have j:some (AX.exit i,z)=some r:=j
  simp only [oI]at j
  subst j
  have C:=L A B w' e F g q
  have q:e=.exit i:=q
  subst q
  exact C
 |ret=>
  have j:some (AX.ret,z)=some r:=j
  simp only [oI]at j
  subst j
  have C:=L A B w' e F g q
  have q:e=.ret:=q
  subst q
  exact C
 |panic v=>
  have j:some (AX.panic v,z)=some r:=j
  simp only [oI]at j
  subst j
  have C:=L A B w' e F g q
  obtain ⟨u,rfl,_⟩:=q
  exact C
theorem S7 {μ:As} {h:Al} {w:World} {id:Nat} {r:AX×Fr} {Q:Exit->Act->World->Prop} (L:Dp ρ nt μ h w Q (Gk id r)):Dp ρ nt μ h w (Exit.inBlock id Q) r:=by
 intro z q w' e F g j
 obtain ⟨x,B⟩:=r
 cases x with
 |normal=>
  have A:=L z q w' e F g j
  have j:e=.normal:=j
  subst j
  exact A
 |ret=>
  have A:=L z q w' e F g j
  have j:e=.ret:=j
  subst j
  exact A
 |panic v=>
  have A:=L z q w' e F g j
  obtain ⟨u,rfl,_⟩:=j
  exact A
 |exit i=>
  have j:e=.exit i:=j
  subst j
  unfold Gk at L
  simp only at L
  show if i=id then Q .normal q w' else Q (.exit i) q w'
  rw [AA]at L
  by_cases hi:i=id
  ·rw [if_pos hi]at L
   rw [if_pos hi]
   exact L z q w' .normal F g rfl
  ·rw [if_neg hi]at L
   rw [if_neg hi]
   exact L z q w' (.exit i) F g rfl
theorem EN {x:Code} {cur:Nat} {body:Fr->Option (AX×Fr)} (hΓ:Γ.AB ρ) (z:∀k∈Γ.loops,k.id=cur->DS P ρ nt x k)
  (hb:∀{μ:As} {f:Fr} {a:Act} {w:World} {r:AX×Fr} {Q:Exit->Act->World->Prop},body f=some r->CG ρ μ nt f a w->Dp ρ nt μ f.h w Q r->x.wp P Q a w):
  ∀(n:Nat) {f:Fr} {r:AX×Fr},iter (fun f=>It Γ cur f Γ.loops) body n f=some r->∃m,∀{μ:As} {a:Act} {w:World} {Q:Exit->Act->World->Prop},CG ρ μ nt f a w->Dp ρ nt μ f.h w Q r->Code.rounds P x Q m a w
 |0,f,r,j=>by cases j
 |n+1,f,r,j=>by
  have j:(match It Γ cur f Γ.loops with
   |some r=>some r
   |none=>A6 (body f) fun r=>andThen r fun v=>iter (fun f=>It Γ cur f Γ.loops) body n v)=some r:=j
  split at j
  ·rename_i y C
   simp only [oI]at j
   subst j
   exact KZ hΓ z C
  ·obtain ⟨A,q,j⟩:=Ac j
   obtain ⟨H,O⟩:=A
   cases H with
   |normal=>
    obtain ⟨m,B⟩:=EN hΓ z hb n j
    refine ⟨m+1,fun {μ a w Q} F L=>?_⟩
    rw [rounds_succ]
    refine hb q F (ID j L fun v e I M N w' J g=>?_)
    simp only [Prod.mk.injEq,true_and]at e
    subst e
    exact B J (L.grow g)
   |_=>
    refine ⟨1,fun {μ a w Q} F L=>?_⟩
    rw [rounds_succ]
    exact hb q F (ID j L fun v e I=>by simp at e)
theorem Hy (hΓ:Γ.AB ρ) (hc:B7 P ρ call) (R:P.follows .mixedOrders=true):∀(c:Code) {cur:Nat} (_:Du P ρ nt Γ.loops cur c) {B:IC} {μ:As} {f:Fr} {a:Act} {w:World} {r:AX×Fr} {Q:Exit->Act->World->Prop},
  AO P pl nt c=some B->Fp Γ call fuel B cur f=some r->CG ρ μ nt f a w->Dp ρ nt μ f.h w Q r->c.wp P Q a w:=by
 intro c
 induction c with
 |skip=>
  intro cur A B μ f a w r Q q v F L
  simp only [AO,oI]at q
  subst q
  have v:some (AX.normal,f)=some r:=v
  simp only [oI]at v
  subst v
  exact wp_skip (L μ a w .normal F (Av.refl F.heap) rfl)
 |exit id=>
  intro cur A B μ f a w r Q q v F L
  simp only [AO,oI]at q
  subst q
  have v:some (AX.exit id,f)=some r:=v
  simp only [oI]at v
  subst v
  exact wp_exit (L μ a w (.exit id) F (Av.refl F.heap) rfl)
 |ret=>
  intro cur A B μ f a w r Q q v F L
  simp only [AO,oI]at q
  subst q
  have v:some (AX.ret,f)=some r:=v
  simp only [oI]at v
  subst v
  exact wp_ret (L μ a w .ret F (Av.refl F.heap) rfl)
 |region id ops draw=>
  intro cur A B μ f a w r Q q v F L
  simp only [AO]at q
  obtain ⟨N,hs,e⟩:=mS q
  subst e
  rw [Rg]at v
  unfold Qr at v
  obtain ⟨x,O,e⟩:=Ac v
  simp only [oI]at e
  subst e
  clear v
  have L:=Ql hΓ L
  cases draw with
  |true=>
   simp only [Gu,if_true]at hs
   exact Vb hΓ hc R hs O F L
  |false=>
   simp only [Gu,Bool.false_eq_true,if_false]at hs
   refine wp_region ?_
   rw [List.range_eq_range',<-Array.length_toList]
   exact OB hΓ hc ops.toList N 0 (fun j=>by simp) hs O F L
 |seq x y ihx ihy=>
  intro cur A B μ f a w r Q q v F L
  simp only [AO]at q
  split at q
  ·rename_i X i2 H U
   simp only [oI]at q
   subst q
   rw [XI]at v
   obtain ⟨r1,C,v⟩:=Ac v
   have J:Du P ρ nt Γ.loops cur x:=fun y I=>A y (List.mem_append_left _ I)
   have Z:Du P ρ nt Γ.loops cur y:=fun z hz=>A z (List.mem_append_right _ hz)
   exact wp_seq (ihx J H C F (ID v L fun f' _ V μ' a' w' F' g=>ihy Z U V F' (L.grow g)))
  ·cases q
 |cond c x y ihx ihy=>
  intro cur A B μ f a w r Q q v F L
  simp only [AO]at q
  split at q
  ·rename_i X i2 H U
   simp only [oI]at q
   subst q
   rw [Nh]at v
   have M:=Au F.tmps c
   unfold AbA at v
   split at v
   ·rename_i b e1
    rw [e1]at M
    have M:=Ah.bool M
    simp only [SB.den]at M
    refine wp_cond M ?_
    cases b with
    |true=>exact ihx (fun y I=>A y (List.mem_append_left _ I)) H v F L
    |false=>exact ihy (fun y I=>A y (List.mem_append_right _ I)) U v F L
   ·cases v
  ·cases q
 |block id x ih=>
  intro cur A B μ f a w r Q q v F L
  simp only [AO]at q
  obtain ⟨X,H,e⟩:=mS q
  subst e
  rw [SN]at v
  obtain ⟨r1,C,v⟩:=Ac v
  simp only [oI]at v
  subst v
  exact wp_block (ih A H C F (S7 L))
 |loop x ih=>
  intro cur A B μ f a w r Q q v F L
  simp only [AO]at q
  obtain ⟨X,H,e⟩:=mS q
  subst e
  rw [UW]at v
  have J:Du P ρ nt Γ.loops cur x:=fun y I=>A y (List.mem_cons_of_mem _ I)
  have Y:∀k∈Γ.loops,k.id=cur->DS P ρ nt x k:=fun k V e=>A (cur,x) List.mem_cons_self k V e
  obtain ⟨m,key⟩:=EN hΓ Y (fun C F L=>ih J H C F L) fuel v
  exact wp_loop_rounds m (key F L)
 |refuse why=>
  intro cur A B μ f a w r Q q v F L
  simp only [AO,oI]at q
  subst q
  rw [Nh]at v
  cases v
 |_=>
  intro cur A B μ f a w r Q q
  simp [AO]at q
theorem Ng (hΓ:Γ.AB ρ) (x:Γ.loops=[]) (hc:B7 P ρ call) (j:P.follows .mixedOrders=true) (c:Code) {q:IC} {μ:As} {f:Fr} {a:Act} {w:World} {r:AX×Fr} {Q:Exit->Act->World->Prop} (z:AO P pl nt c=some q) (v:exec Γ call fuel q f=some r) (F:CG ρ μ nt f a w) (L:Dp ρ nt μ f.h w Q r):c.wp P Q a w:=
 Hy hΓ hc j c (cur:=0) (by rw [x];exact Du.none) z v F L
end
end
section
section
variable {P:Program} {Γ:Ao} {ρ:Env} {μ:As} {tm:Tr Ab} {a:Act} {w:World} {h:Al} {pl:List Co} {call:Cm} {fuel:Nat}
theorem NA:∀(l:List Ab) (i:Nat) (t:Tr Ab) (n:Nat),(NC l i t).get n=if i<=n/\n<i+l.length then l[n-i]? else t.get n
 |[],i,t,n=>by
  show t.get n=_
  rw [if_neg (by simp)]
 |v::r,i,t,n=>by
  have e:NC (v::r) i t=NC r (i+1) (t.set i (some v)):=rfl
  rw [e,NA r,Tr.AY]
  simp only [lC]
  by_cases h1:i+1<=n/\n<i+1+r.length
  ·rw [if_pos h1,if_pos (by omega)]
   rw [show n-i=(n-(i+1))+1 from by omega,List.getElem?_cons_succ]
  ·rw [if_neg h1]
   by_cases h2:n=i
   ·subst h2
    rw [if_pos rfl,if_pos (by omega)]
    simp
   ·rw [if_neg h2,if_neg (by omega)]
theorem AbM {F:Ex} {args:List Ab} {j:Array Value} (x:A4 ρ μ args j.toList) (k:Nat):AP ρ μ (GW F args h).tm {tmps:=j++Array.replicate k undef,defers:=[]}:=by
 intro t
 show Ah ρ μ (Ep ((NC args 0 (Tr.full Ab F.depth)).get t)) _
 rw [NA]
 split
 ·rename_i A
  rw [Nat.sub_zero,List.getElem?_eq_getElem (by omega)]
  obtain ⟨v,q,z⟩:=x.get (List.getElem?_eq_getElem (show t<args.length from by omega))
  have hs:t<j.size:=by
   have:=(List.getElem?_eq_some_iff.1 q).1
   simpa using this
  have:(j++Array.replicate k undef).getD t undef=v:=by
   rw [Array.getD_eq_getD_getElem?,Array.getElem?_append_left hs]
   rw [Array.getElem?_toList]at q
   rw [q];rfl
  simp only [this]
  exact z
 ·rw [Tr.J5]
  trivial
theorem Xn (x:RE) (r:List RE):Aa1 tm h (x::r)=A6 (Qp tm h x) fun v=>A6 (Aa1 tm h r) fun vs=>some (v::vs):=rfl
def Jo (tmps:Array Value):ResultVar->Sem Value
 |.tmp t=>pure (tmps.getD t undef)
 |.cell a t=>do loadVar t (<-asAddr (tmps.getD a undef))
theorem Qo (H:AD ρ μ h w) (J:AP ρ μ tm a) {x:ResultVar} {i:RE} (hc:Gt P x=some i) {v:Ab} (q:Qp tm h i=some v):∃u,(Jo a.tmps x).run P w=.ok u w/\Ah ρ μ v u:=by
 cases x with
 |tmp t=>
  simp only [Gt,oI]at hc
  subst hc
  simp only [Qp,oI]at q
  subst q
  exact ⟨_,rfl,J t⟩
 |cell b t=>
  obtain ⟨n,M,e⟩:=mS hc
  subst e
  have q:MI h.fx h n (Ep (tm.get b))=some v:=q
  obtain ⟨u,A,L⟩:=MH H.AJ.facts H M (J b) q
  have B:=J b
  unfold MI at q
  split at q
  ·rename_i N O j I C
   rw [C]at B
   obtain ⟨r,m,_,z,_⟩:=B.vptr
   refine ⟨u,?_,L⟩
   rw [z]at A
   show (do loadVar t (<-asAddr (a.tmps.getD b undef)):Sem Value).run P w=_
   rw [z]
   exact A
  ·rename_i c j I C
   rw [C]at B
   obtain ⟨r,δ,_,_,_,z,_⟩:=B.lptr
   refine ⟨u,?_,L⟩
   rw [z]at A
   show (do loadVar t (<-asAddr (a.tmps.getD b undef)):Sem Value).run P w=_
   rw [z]
   exact A
  ·rename_i c I C
   rw [C]at B
   obtain ⟨r,δ,m,_,z⟩:=B.ptr
   refine ⟨u,?_,L⟩
   rw [z]at A
   show (do loadVar t (<-asAddr (a.tmps.getD b undef)):Sem Value).run P w=_
   rw [z]
   exact A
  ·cases q
theorem Mv (H:AD ρ μ h w) (z:AP ρ μ tm a):∀{l:List ResultVar} {is:List RE} {vs:List Ab},B3 (l.map (Gt P))=some is->Aa1 tm h is=some vs->∃us:List Value,(l.mapM (Jo a.tmps)).run P w=.ok us w/\A4 ρ μ vs us
 |[],is,vs,hc,j=>by
  simp only [List.map_nil,B3,oI]at hc
  subst hc
  have j:some []=some vs:=j
  simp only [oI]at j
  subst j
  exact ⟨[],by simp,by simp only [A4]⟩
 |x::l,is,vs,hc,j=>by
  have q:=Dk hc
  cases is with
  |nil=>simp at q
  |cons i is=>
   simp only [List.map_cons,List.cons.injEq]at q
   obtain ⟨M,B⟩:=q
   have I:B3 (l.map (Gt P))=some is:=by
    rw [B]
    clear B hc j
    induction is with
    |nil=>rfl
    |cons x r ih=>simp only [List.map_cons,B3,ih,Option.map_some]
   rw [Xn]at j
   obtain ⟨v,C,j⟩:=Ac j
   obtain ⟨Q,A,j⟩:=Ac j
   simp only [oI]at j
   subst j
   obtain ⟨u,J,N⟩:=Qo H z M C
   obtain ⟨us,O,L⟩:=Mv H z I A
   refine ⟨u::us,?_,?_⟩
   ·rw [List.mapM_cons]
    simp [J,O]
   ·simp only [A4]
    exact ⟨_,_,rfl,N,L⟩
theorem F3 (H:AD ρ μ h w) (z:AP ρ μ tm a) {fn:Func} {is:List RE} (hc:B3 (fn.results.toList.map (Gt P))=some is) {vs:List Ab} (x:Aa1 tm h is=some vs):∃u,(results fn a.tmps).run P w=.ok u w/\Ah ρ μ (oneOf vs) u:=by
 obtain ⟨us,I,j⟩:=Mv H z hc x
 have B:(fn.results.mapM (Jo a.tmps)).run P w=.ok us.toArray w:=by
  rw [Array.mapM_eq_mapM_toList]
  simp [I]
 have e:results fn a.tmps=(do
   let vs<-fn.results.mapM (Jo a.tmps)
   pure (if h:vs.size=1 then vs[0]else .tuple vs)):=by
  unfold results
  congr 2
 rw [e]
 refine ⟨(if h:us.toArray.size=1 then us.toArray[0]else .tuple us.toArray),by simp only [Sem.run_bind,B,Result.andThen_ok,Sem.run_pure],?_⟩
 cases vs with
 |nil=>
  simp only [A4]at j
  subst j
  simp only [oneOf,Ah]
  exact ⟨#[],by simp,by simp only [A4]⟩
 |cons v vs=>
  cases vs with
  |nil=>
   simp only [A4]at j
   obtain ⟨u,_,rfl,C,rfl⟩:=j
   simpa [oneOf]using C
  |cons v' vs=>
   have q:=j
   simp only [A4]at q
   obtain ⟨u,_,rfl,_,A,r,rfl,_⟩:=q
   simp only [oneOf,Ah]
   exact ⟨(u::A::r).toArray,by simp,j⟩
end
end
section
section
variable {P:Program} {Γ:Ao} {ρ:Env} {μ:As} {tm:Tr Ab} {a:Act} {w:World} {h:Al} {pl:List Co} {call:Cm} {dcall:RF} {fuel:Nat}
def EZ (ρ:Env) (μ:As):C9->FrameMode->Prop
 |.returning,u=>u=.returning
 |.panicking v,u=>∃x,u=.panicking (HV x)/\Ah ρ μ v x
theorem EZ.mono {j:As} (hl:μ.le j) {m:C9} {u:FrameMode} (q:EZ ρ μ m u):EZ ρ j m u:=by
 cases m with
 |returning=>exact q
 |panicking v=>obtain ⟨x,e,z⟩:=q;exact ⟨x,e,z.mono hl⟩
theorem EZ.settle {m:C9} {u:FrameMode} (j:EZ ρ μ m u):settle u=u:=by
 cases m with
 |returning=>have j:u=.returning:=j;subst j;rfl
 |panicking v=>obtain ⟨x,rfl,q⟩:=j;rfl
theorem EZ.AgI {m:C9} {u:FrameMode} (j:EZ ρ μ m u):u≠.run:=by
 cases m with
 |returning=>have j:u=.returning:=j;subst j;simp
 |panicking v=>obtain ⟨x,rfl,q⟩:=j;simp
def Yj (ρ:Env) (μ:As) (h:Al) (w:World) (x:C9) (z:Al) (e:Ending) (q:FrameMode) (w':World):Prop:=
 ∃j,Av ρ μ h w j z w'/\EZ ρ j x (Go.settle q)/\∃v,e=.returned v
def Vz (P:Program) (ρ:Env) (dcall:RF):Prop:=
 ∀g args m h q v,dcall g args m h=some (q,v)->JQ P g/\∀μ w (j:Array Value) u,AD ρ μ h w->A4 ρ μ args j.toList->EZ ρ μ m u->CallsD P g j u w (Yj ρ μ h w q v)
theorem S5 (d:FuncId×List Ab) (ds:List (FuncId×List Ab)) (m:C9) (h:Al):QC dcall (d::ds) m h=A6 (dcall d.1 d.2 m h) fun r=>QC dcall ds r.1 r.2:=rfl
theorem Lb (hd:Vz P ρ dcall) {fn:Func} {tmps:Array Value} {R:Ending->World->Prop}:∀(ds:List (FuncId×List Ab)) {cs:List Deferred} {μ:As} {m:C9} {u:FrameMode} {h:Al} {w:World} {r:C9×Al},
  QC dcall ds m h=some r->C1 ρ μ ds cs->AD ρ μ h w->EZ ρ μ m u->(∀C w' B,Av ρ μ h w C r.2 w'->EZ ρ C r.1 B->Leaves P fn tmps R [] B w')->Leaves P fn tmps R cs u w
 |[],cs,μ,m,u,h,w,r,j,q,H,hm,hR=>by
  have j:some (m,h)=some r:=j
  simp only [oI]at j
  subst j
  have q:cs=[]:=q
  subst q
  exact hR μ w u (Av.refl H) hm
 |d::ds,cs,μ,m,u,h,w,r,j,q,H,hm,hR=>by
  rw [S5]at j
  obtain ⟨⟨m1,X⟩,Q,j⟩:=Ac j
  obtain ⟨c,rest,rfl,⟨cap,O,L⟩,x⟩:=q
  obtain ⟨hf,z⟩:=hd _ _ _ _ _ _ Q
  refine ⟨hm.AgI,.func d.1,cap,d.1,c.args++cap,O,?_,?_⟩
  ·rw [O]
   simp only [invoke]
   exact GD hf _
  ·refine CallsD.mono (z μ w (c.args++cap) u H L hm) fun e B w' V=>?_
   obtain ⟨C,g,I,v,rfl⟩:=V
   exact Lb hd ds j (x.mono g.le) g.rel I fun N M J U A=>hR N M J (g.trans U) A
theorem DQ {fn:Func} {F:Ex} (hc:ED P pl fn=some F):∃c,fn.body=some c/\AO P pl fn.ntmps c=some F.body/\B3 (fn.results.toList.map (Gt P))=some F.results:=by
 unfold ED at hc
 split at hc
 ·cases hc
 ·rename_i c hb
  split at hc
  ·rename_i body results q j
   simp only [oI]at hc
   subst hc
   exact ⟨c,hb,q,j⟩
  ·cases hc
theorem JY {F:Ex} {args:List Ab} {j:Array Value} (H:AD ρ μ h w) (q:A4 ρ μ args j.toList) (n:Nat):CG ρ μ n (GW F args h) {tmps:=j++Array.replicate (n-j.size) undef,defers:=[]} w:=
 ⟨AbM q _,by simp;omega,H,rfl⟩
theorem N5 (hΓ:Γ.AB ρ) (hc:B7 P ρ call) (hd:Vz P ρ dcall) (Q:P.follows .mixedOrders=true) {g:FuncId} {fn:Func} (hf:P.funcs[g]?=some fn) {F:Ex} (J:ED P pl fn=some F) (hL:∀c,fn.body=some c->Du P ρ fn.ntmps Γ.loops 0 c) {args:List Ab} {r:NK} {N:Al}
  (j:Pu Γ call dcall fuel F args h=some (r,N)) {I:Array Value} (H:AD ρ μ h w) (hv:A4 ρ μ args I.toList):Calls P g I w fun e w'=>∃B,Av ρ μ h w B N w'/\KJ ρ B r e:=by
 obtain ⟨c,hb,ab,X⟩:=DQ J
 unfold Pu at j
 obtain ⟨x,V,j⟩:=Ac j
 obtain ⟨m,q,j⟩:=Ac j
 obtain ⟨y,ac,j⟩:=Ac j
 refine calls_of_wp_defers hf hb (Hy hΓ hc Q c (hL c hb) ab V (JY H hv fn.ntmps) ?_)
 intro B Z w' e U L C
 have L:Av ρ μ h w B x.2.h w':=L
 have fin:∀u,EZ ρ B m u->Leaves P fn Z.tmps (fun e w'=>∃B,Av ρ μ h w B N w'/\KJ ρ B r e) Z.defers u w':=fun u hm=>by
  refine Lb hd x.2.df ac U.defs U.heap hm fun M aj Y g2 A=>?_
  unfold AdP at j
  split at j
  ·rename_i R
   obtain ⟨vs,aa,j⟩:=Ac j
   simp only [oI,Prod.mk.injEq]at j
   obtain ⟨rfl,rfl⟩:=j
   rw [R]at A
   have A:Y=.returning:=A
   subst A
   obtain ⟨v,h1,h2⟩:=F3 g2.rel (U.tmps.mono g2.le) X aa
   exact ⟨v,h1,M,L.trans g2,h2⟩
  ·rename_i v R
   simp only [oI,Prod.mk.injEq]at j
   obtain ⟨rfl,rfl⟩:=j
   rw [R]at A
   obtain ⟨z,rfl,O⟩:=A
   exact ⟨M,L.trans g2,z,rfl,O⟩
 obtain ⟨x1,x2⟩:=x
 cases x1 with
 |normal=>
  have C:e=.normal:=C
  subst C
  simp only [Q6,oI]at q
  subst q
  exact fin .returning rfl
 |ret=>
  have C:e=.ret:=C
  subst C
  simp only [Q6,oI]at q
  subst q
  exact fin .returning rfl
 |exit i=>cases q
 |panic v=>
  obtain ⟨z,rfl,O⟩:=C
  simp only [Q6,oI]at q
  subst q
  exact fin _ ⟨z,rfl,O⟩
theorem Pp {m x:C9} {r:AX×Fr} {z:Al} (j:FR m r=some (x,z)):x=m/\z=r.2.h/\r.2.df=[]/\(r.1=.normal∨r.1=.ret):=by
 unfold FR at j
 split at j
 ·rename_i q v
  simp only [oI,Prod.mk.injEq]at j
  exact ⟨j.1.symm,j.2.symm,v,.inl q⟩
 ·rename_i q v
  simp only [oI,Prod.mk.injEq]at j
  exact ⟨j.1.symm,j.2.symm,v,.inr q⟩
 ·cases j
theorem Ta (hΓ:Γ.AB ρ) (h0:Γ.loops=[]) (hc:B7 P ρ call) (M:P.follows .mixedOrders=true) {g:FuncId} {fn:Func} (hf:P.funcs[g]?=some fn) {F:Ex} (I:ED P pl fn=some F) (L:F.results=[]) {args:List Ab} {m Z:C9} {X:Al} {x:AX×Fr}
  (Q:exec Γ call fuel F.body (GW F args h)=some x) (hx:FR m x=some (Z,X)) {z:Array Value} {u:FrameMode} (H:AD ρ μ h w) (hv:A4 ρ μ args z.toList) (U:EZ ρ μ m u):CallsD P g z u w (Yj ρ μ h w Z X):=by
 obtain ⟨c,hb,aa,J⟩:=DQ I
 obtain ⟨rfl,rfl,V,A⟩:=Pp hx
 refine CallsD.mono (callsD_of_wp (R:=fun e w'=>∃q,Av ρ μ h w q x.2.h w'/\∃v,e=.returned v) hf hb (Ng hΓ h0 hc M c aa Q (JY H hv fn.ntmps) ?_)) fun e u' w' j=>?_
 ·intro q N w' e O C j
  have C:Av ρ μ h w q x.2.h w':=C
  have B:=O.defs
  rw [V]at B
  have B:N.defers=[]:=B
  rw [L]at J
  obtain ⟨v,h1,_⟩:=F3 (vs:=[]) O.heap O.tmps J rfl
  have fin:N.defers=[]/\∃v,(results fn N.tmps).run P w'=.ok v w'/\∃q,Av ρ μ h w q x.2.h w'/\∃v',Ending.returned v=.returned v':=⟨B,v,h1,q,C,v,rfl⟩
  rcases A with A|A<;>rw [A]at j
  ·have j:e=.normal:=j
   subst j
   exact fin
  ·have j:e=.ret:=j
   subst j
   exact fin
 ·obtain ⟨rfl,q,C,Y⟩:=j
  exact ⟨q,C,by rw [U.settle];exact U.mono C.le,Y⟩
theorem Sq {o:Oper} (hc:Dq P pl o=some (.m .recover)):(execOp a.eval o).run P w=.ok .recover w:=by
 cases hop:o.op<;>simp only [Dq,hop,reduceCtorEq,oI]at hc
 case call c=>
  unfold EV at hc
  split at hc
  ·split at hc
   ·split at hc
    ·simp at hc
    ·split at hc
     ·split at hc<;>simp at hc
     ·split at hc
      ·split at hc<;>simp at hc
      ·cases hc
   ·cases hc
  ·simp at hc
  ·cases hc
  ·rename_i b hb
   split at hc
   ·split at hc<;>simp at hc
   ·exfalso
    unfold EE at hc
    split at hc<;>first|cases hc|skip
    all_goals (split at hc<;>first|(cases hc;done) |(split at hc<;>simp at hc))
   ·exfalso
    split at hc<;>first|(cases hc;done) |(obtain ⟨_,_,e⟩:=mS hc;cases e)
   ·simp at hc
   ·simp at hc
   ·rename_i v
    have q:c.args=#[]:=by rw [<-Array.toList_inj];simpa using v
    simp [execOp,hop,resolve,hb,q,invoke,builtin]
   ·simp at hc
   ·exfalso
    split at hc
    ·split at hc<;>simp at hc
    ·cases hc
   ·cases hc
 case convert s d x=>
  rcases CC hc with ⟨k0,k,hs,hd,e⟩|⟨hs,hd,e⟩|⟨t,n,hs,hd,hn,e⟩|⟨u,n,hs,hd,hn,e⟩|⟨el,hs,he,hd,e⟩<;>cases e
 case typeAssert x xt t ok=>
  obtain ⟨d,i,z,C,hd,A,H,e⟩:=Cf hc
  cases e
 case defer c=>
  obtain ⟨j,args,B⟩:=c
  cases j<;>simp at hc
 case makeFunc fn x c=>cases fn<;>simp at hc
 case binOp op t x y yt=>obtain ⟨_,_,e⟩:=mS hc;cases e
 case slice t x lo A mx=>
  exfalso
  split at hc
  ·simp at hc
  ·obtain ⟨_,_,e⟩:=mS hc;cases e
  ·split at hc
   ·obtain ⟨_,_,e⟩:=mS hc;cases e
   ·cases hc
  ·cases hc
 case build t parts=>
  exfalso
  split at hc
  ·split at hc
   ·obtain ⟨_,_,e⟩:=mS hc;cases e
   ·cases hc
  ·obtain ⟨_,_,hc⟩:=Option.bind_eq_some_iff.1 hc
   obtain ⟨_,_,e⟩:=mS hc;cases e
  ·cases hc
 case fieldAddr t x f=>
  exfalso
  split at hc
  ·obtain ⟨_,_,hc⟩:=Option.bind_eq_some_iff.1 hc
   split at hc<;>simp at hc
  ·cases hc
 case field t x f=>
  exfalso
  split at hc
  ·obtain ⟨_,_,hc⟩:=Option.bind_eq_some_iff.1 hc
   obtain ⟨_,_,e⟩:=mS hc;cases e
  ·cases hc
 all_goals
  exfalso
  first
   |(cases hc;done)
   |(split at hc<;>first|(cases hc;done) |(simp at hc;done) |(obtain ⟨_,_,e⟩:=mS hc;cases e;done) |(split at hc<;>first|(cases hc;done) |(simp at hc;done) |(obtain ⟨_,_,e⟩:=mS hc;cases e;done) |(split at hc<;>first|(cases hc;done) |(simp at hc;done) |(obtain ⟨_,_,e⟩:=mS hc;cases e;done))))
   |(obtain ⟨_,_,e⟩:=mS hc;cases e;done)
theorem Mo (hΓ:Γ.AB ρ) (hc:B7 P ρ call) {nt:Nat} {B:Array Oper} {cs:List Frame} {Q:Exit->Act->List Frame->World->Prop}:∀(l:List Oper) (q:List Step) (k:Nat) {μ:As} {a:Act} {w:World} {f:Fr} {r:Cb},(∀j,l[j]?=B[k+j]?)->B3 (l.map fun o=>stepOf P pl nt B o 0)=some q->
  Ud Γ call q f=some r->CG ρ μ nt f a w->Dp ρ nt μ f.h w (fun e C w'=>Q e C cs w') (F5 r)->wpOpsS P B Q (List.range' k l.length) a cs w
 |[],q,k,μ,a,w,f,r,hl,hs,A,F,L=>by
  simp only [List.map_nil,B3,oI]at hs
  subst hs
  have A:some (Cb.go f)=some r:=A
  simp only [oI]at A
  subst A
  exact L μ a w .normal F (Av.refl F.heap) rfl
 |o::l,q,k,μ,a,w,f,r,hl,hs,A,F,L=>by
  have H:=Dk hs
  cases q with
  |nil=>simp at H
  |cons s q=>
   simp only [List.map_cons,List.cons.injEq]at H
   obtain ⟨X,O⟩:=H
   have R:B3 (l.map fun o=>stepOf P pl nt B o 0)=some q:=by
    rw [O]
    clear O A hs
    induction q with
    |nil=>rfl
    |cons x r ih=>simp only [List.map_cons,B3,ih,Option.map_some]
   rw [OC]at A
   obtain ⟨x,hx,A⟩:=Ac A
   have Z:B[k]?=some o:=by simpa using (hl 0).symm
   have N:∀j,l[j]?=B[k+1+j]?:=fun j=>by simpa [Nat.add_assoc,Nat.add_comm 1 j]using hl (j+1)
   rw [lC,List.range'_succ]
   have U:Vy ρ nt μ f.h a w (fun C w'=>wpOpsS P B Q (List.range' (k+1) l.length) C cs w') (fun e C w'=>Q e C cs w') x:=by
    cases x with
    |go f'=>exact fun V C w' M g=>Mo hΓ hc l q (k+1) N R A M (L.grow g)
    |panic v f'=>
     simp only [goes,oI]at A
     subst A
     exact fun V u w' M g Y=>L V a w' _ M g ⟨u,rfl,Y⟩
   have z:=O7 hΓ hc F (Ff X) hx U
   unfold wpOpsS
   rw [Z]
   simp only
   split
   ·rename_i I
    rw [if_pos I]at z
    unfold Oper.wp at z
    split
    ·rename_i w' J
     rw [J]at z
     exact z.elim
    ·exact z
   ·rename_i I
    rw [if_neg I]at z
    exact z
theorem Qs {m:C9} {c₀:Frame} {cs:List Frame} (j:EZ ρ μ m c₀.mode):
  ∃v q,(match recoverD (c₀::cs)with|some (v,cs')=>(v,cs') |none=>(.nilIface,c₀::cs))=(v,{c₀ with mode:=q}::cs)/\settle q=.returning/\Ah ρ μ (recovered m) v:=by
 cases m with
 |returning=>
  have j:c₀.mode=.returning:=j
  refine ⟨.nilIface,c₀.mode,?_,by rw [j];rfl,by simp only [recovered,Ah]⟩
  have e:recoverD (c₀::cs)=none:=by simp [recoverD,j]
  rw [e]
 |panicking v=>
  obtain ⟨x,A,z⟩:=j
  refine ⟨x,.panicking [{v:=x,recovered:=true}],?_,rfl,z⟩
  simp [recoverD,A,HV]
theorem Ot (hΓ:Γ.AB ρ) (h0:Γ.loops=[]) (hc:B7 P ρ call) (ae:P.follows .mixedOrders=true) {g:FuncId} {fn:Func} (hf:P.funcs[g]?=some fn) {F:Ex} (Z:ED P pl fn=some F) (ac:F.results=[]) {dst:Option Nat} {bk:Nat} {A:List Step} {rest:IC}
  (R:F.body=.seq (.region false (⟨dst,none,.m .recover,bk⟩::A)) rest) {args:List Ab} {m m':C9} {h':Al} {r:Cb} {x:AX×Fr}
  (hr:Ud Γ call A ⟨DK (GW F args h).tm dst (recovered m),h,[]⟩=some r) (I:(andThen (F5 r) fun f=>exec Γ call fuel rest f)=some x) (hx:FR .returning x=some (m',h')) {z:Array Value} {u:FrameMode} (H:AD ρ μ h w) (hv:A4 ρ μ args z.toList) (hm:EZ ρ μ m u):
  CallsD P g z u w (Yj ρ μ h w m' h'):=by
 obtain ⟨c,hb,q,ab⟩:=DQ Z
 obtain ⟨rfl,rfl,ap,C⟩:=Pp hx
 rw [R]at q
 cases c<;>simp only [AO,reduceCtorEq,oI]at q
 case region=>obtain ⟨_,_,e⟩:=mS q;cases e
 case cond=>split at q<;>simp at q
 case block=>obtain ⟨_,_,e⟩:=mS q;cases e
 case loop=>obtain ⟨_,_,e⟩:=mS q;cases e
 case seq c1 c2=>
  split at q
  case h_2=>cases q
  rename_i i1 i2 L h2
  simp only [oI,IC.seq.injEq]at q
  obtain ⟨rfl,rfl⟩:=q
  cases c1<;>simp only [AO,reduceCtorEq,oI]at L
  case seq=>split at L<;>simp at L
  case cond=>split at L<;>simp at L
  case block=>obtain ⟨_,_,e⟩:=mS L;cases e
  case loop=>obtain ⟨_,_,e⟩:=mS L;cases e
  case region id ops draw=>
   obtain ⟨st,Q,e⟩:=mS L
   simp only [IC.region.injEq]at e
   obtain ⟨rfl,rfl⟩:=e
   simp only [Gu,Bool.false_eq_true,if_false]at Q
   have J:=Dk Q
   generalize hol:ops.toList=ol at Q J
   cases ol with
   |nil=>simp at J
   |cons o l=>
    simp only [List.map_cons,List.cons.injEq]at J
    obtain ⟨k1,k2⟩:=J
    have aw:B3 (l.map fun o=>stepOf P pl fn.ntmps ops o 0)=some A:=by
     rw [k2]
     clear k2 hr Q R L
     induction A with
     |nil=>rfl
     |cons x r ih=>simp only [List.map_cons,B3,ih,Option.map_some]
    have M:=Ff k1
    have U:∀j:Nat,(o::l)[j]?=ops[j]?:=fun j=>by rw [<-hol,Array.getElem?_toList]
    have ho:ops[0]?=some o:=by simpa using (U 0).symm
    have ao:ops.size=l.length+1:=by
     have:=cL hol
     simpa using this
    refine callsD_of_wpS hf hb fun c₀ cs hu=>wpS_seq (wpS_region ?_)
    rw [List.range_eq_range',ao,List.range'_succ]
    have F0:=JY (F:=F) H hv fn.ntmps
    unfold wpOpsS
    rw [ho]
    simp only
    rw [E8 F0.tmps M.guard (fun d b e=>Nat.lt_of_lt_of_le (M.seen d b e) F0.size) (b:=true) rfl]
    simp only [if_true]
    rw [Sq M.op]
    simp only
    obtain ⟨v,u',B,ag,aj⟩:=Qs (c₀:=c₀) (cs:=cs) (m:=m) (ρ:=ρ) (μ:=μ) (by rw [hu];exact hm)
    have F1:CG ρ μ fn.ntmps ⟨DK (GW F args h).tm dst (recovered m),h,[]⟩ (Act.put {tmps:=z++Array.replicate (fn.ntmps-z.size) undef,defers:=[]} o.dst v) w:=by
     have:=F0.put (d:=o.dst) μ.le_refl F0.heap M.small aj
     rw [<-M.dst]at this⊢
     exact this
    have Y:wpOpsS P ops (Exit.thenS (c2.wpS P (bodyPostS P fn c₀ cs (Yj ρ μ h w .returning x.2.h))) (bodyPostS P fn c₀ cs (Yj ρ μ h w .returning x.2.h))) (List.range' 1 l.length)
      (Act.put {tmps:=z++Array.replicate (fn.ntmps-z.size) undef,defers:=[]} o.dst v) ({c₀ with mode:=u'}::cs) w:=by
     refine Mo hΓ hc l A 1 (fun j=>by have:=U (j+1);simpa [Nat.add_comm 1 j]using this) aw hr F1 ?_
     intro μ1 a1 w1 e1 F2 g1 X
     have g1:Av ρ μ h w μ1 (F5 r).2.h w1:=g1
     cases r with
     |panic v f'=>
      exfalso
      have I:some (AX.panic v,f')=some x:=I
      simp only [oI]at I
      subst I
      rcases C with C|C<;>cases C
     |go f'=>
     have X:e1=.normal:=X
     subst X
     have I:exec Γ call fuel i2 f'=some x:=I
     refine wpS_of_wp (Ng hΓ h0 hc ae c2 h2 I F2 ?_)
     intro μ' V w' e F' g' N
     have g':Av ρ μ h w μ' x.2.h w':=g1.trans g'
     have O:=F'.defs
     rw [ap]at O
     have O:V.defers=[]:=O
     rw [ac]at ab
     obtain ⟨vr,r1,_⟩:=F3 (vs:=[]) F'.heap F'.tmps ab rfl
     have fin:V.defers=[]/\∃u2,({c₀ with mode:=u'}::cs:List Frame)={c₀ with mode:=u2}::cs/\∃v,(results fn V.tmps).run P w'=.ok v w'/\Yj ρ μ h w .returning x.2.h (.returned v) u2 w':=
      ⟨O,u',rfl,vr,r1,μ',g',by rw [ag];rfl,vr,rfl⟩
     rcases C with C|C<;>rw [C]at N
     ·have N:e=.normal:=N
      subst N
      exact fin
     ·have N:e=.ret:=N
      subst N
      exact fin
    cases hrd:recoverD (c₀::cs)with
    |none=>
     rw [hrd]at B
     simp only [Prod.mk.injEq]at B
     obtain ⟨rfl,ak⟩:=B
     simp only
     rw [ak]
     exact Y
    |some p=>
     obtain ⟨pv,aN⟩:=p
     rw [hrd]at B
     simp only [Prod.mk.injEq]at B
     obtain ⟨rfl,rfl⟩:=B
     exact Y
def Py (P:Program) (pl:List Co) (DE:FuncId->Option Ex):Prop:=
 ∀g F,DE g=some F->∃fn,P.funcs[g]?=some fn/\ED P pl fn=some F/\(fn.name== "runtime.NumGoroutine")=false
theorem JQ.Q2 {g:FuncId} {fn:Func} {F:Ex} (hf:P.funcs[g]?=some fn) (j:ED P pl fn=some F) (q:(fn.name== "runtime.NumGoroutine")=false):JQ P g:=by
 obtain ⟨c,hb,_⟩:=DQ j
 exact ⟨fn,hf,by rw [hb];rfl,q⟩
theorem OA (hΓ:Γ.AB ρ) (M:Γ.loops=[]) (hc:B7 P ρ call) (A:P.follows .mixedOrders=true) {DE:FuncId->Option Ex} (X:Py P pl DE):Vz P ρ fun f args m h=>A6 (DE f) fun F=>K9 Γ call fuel F args m h:=by
 intro g args m h m' Y v
 obtain ⟨F,V,v⟩:=Ac v
 obtain ⟨fn,hf,j,R⟩:=X g F V
 refine ⟨JQ.Q2 hf j R,fun μ w O u H L C=>?_⟩
 unfold K9 at v
 split at v
 ·rename_i dst Z Q rest B q
  obtain ⟨r,U,N⟩:=Ac v
  obtain ⟨x,z,J⟩:=Ac N
  exact Ot hΓ M hc A hf j q B U z J H L C
 ·rename_i q _
  obtain ⟨x,z,I⟩:=Ac v
  exact Ta hΓ M hc A hf j q z I H L C
 ·cases v
def Cv (P:Program) (ρ:Env) (f:FuncId) (o:Bg):Prop:=
 ∀args h r v,o args h=some (r,v)->JQ P f/\∀μ w (j:Array Value),AD ρ μ h w->A4 ρ μ args j.toList->
  Calls P f j w fun e w'=>∃q,Av ρ μ h w q v w'/\KJ ρ q r e
theorem HF (hΓ:Γ.AB ρ) (I:Γ.loops=[]) (x:P.follows .mixedOrders=true) {DE:FuncId->Option Ex} (J:Py P pl DE) {q:FuncId->Option Bg} (C:∀f o,q f=some o->Cv P ρ f o):∀d:Nat,B7 P ρ (Ll Γ q DE fuel d)
 |0=>fun g args h r A j=>by cases j
 |d+1=>fun g args h r A j=>by
  have ih:=HF hΓ I x J C d
  have j:Q0 (q g) args h (fun _=>A6 (DE g) fun F=>Pu Γ (Ll Γ q DE fuel d) (fun f args m h=>A6 (DE f) fun F=>K9 Γ (Ll Γ q DE fuel d) fuel F args m h) fuel F args h)=some (r,A):=j
  have B:(A6 (DE g) fun F=>Pu Γ (Ll Γ q DE fuel d) (fun f args m h=>A6 (DE f) fun F=>K9 Γ (Ll Γ q DE fuel d) fuel F args m h) fuel F args h)=some (r,A)->JQ P g/\∀μ w (v:Array Value),AD ρ μ h w->A4 ρ μ args v.toList->
    Calls P g v w fun e w'=>∃L,Av ρ μ h w L A w'/\KJ ρ L r e:=fun j=>by
   obtain ⟨F,R,j⟩:=Ac j
   obtain ⟨fn,hf,z,N⟩:=J g F R
   exact ⟨JQ.Q2 hf z N,fun μ w v H O=>N5 hΓ ih (OA hΓ I ih x J) x hf z (fun c _=>by rw [I];exact Du.none) j H O⟩
  unfold Q0 at j
  split at j
  ·rename_i o Q
   split at j
   ·rename_i U M
    simp only [oI]at j
    subst j
    exact C g o Q args h r A M
   ·exact B j
  ·exact B j
theorem Ao.AB.bare {Γ:Ao} {ρ:Env} (h:Γ.AB ρ):Γ.bare.AB ρ:=⟨h.DL,h.tests,h.strs,h.E4,h.BQ,h.Br,h.elems,h.defs,h.looks,h.Ls,h.C7,h.C5⟩
theorem T1 (hΓ:Γ.AB ρ) (j:P.follows .mixedOrders=true) {DE:FuncId->Option Ex} (A:Py P pl DE) {x:FuncId->Option Bg} (z:∀f o,x f=some o->Cv P ρ f o) (d:Nat) {g:FuncId}
  (C:∀fn c,P.funcs[g]?=some fn->fn.body=some c->Du P ρ fn.ntmps Γ.loops 0 c):Cv P ρ g (Ae3 Γ x DE fuel d g):=by
 intro args h r M v
 unfold Ae3 at v
 obtain ⟨F,L,v⟩:=Ac v
 obtain ⟨fn,hf,q,I⟩:=A g F L
 have ih:=HF hΓ.bare rfl j A z d (fuel:=fuel)
 exact ⟨JQ.Q2 hf q I,fun μ w B H J=>N5 hΓ ih (OA hΓ.bare rfl ih j A) j hf q (fun c hc=>C fn c hf hc) v H J⟩
end
end
section
open Go.ChangeShapes Go.WideShapes Go.ChangeAt Go.RowKit
def Kept (W w':World):Prop:=W.keptBut w' (fun _=>False)/\(∀b j,b<W.heap.size->w'.frozen? ⟨b,j,none⟩=W.frozen? ⟨b,j,none⟩)/\W.heap.size<=w'.heap.size
theorem Kept.of_same {W w':World} (j:∀r,r<W.heap.size->w'.heap[r]?=W.heap[r]?) (hs:W.heap.size<=w'.heap.size) (q:w'.os=W.os) (v:w'.output=W.output):Kept W w':=by
 refine ⟨⟨q,v,fun i x=>?_⟩,fun b z hb=>?_,hs⟩
 ·rw [j i x]
  cases W.heap[i]? with
  |none=>trivial
  |some o=>cases o<;>simp
 ·unfold World.frozen?
  simp only [j b hb]
theorem Kept.frame {W w':World} (h:Kept W w') (ps:List MemPlace):W.keptBut w' (·∈ps):=World.keptBut_mono (fun _ h=>h.elim) h.1
section
variable {H:Type} {enc:TypeId×Value->H} {P:Program}
theorem Qu {f:Func} {s:ChangeSpec} {apart fresh C O:Bool} {W B:World} {args:Array Value} {v:Value} {ds N:List (DataW H)} {before M pv:List MemPlace}
  (Q:DataW.Whole enc P f.params.toList s.vars apart W args.toList ds N before)
  (J:∀(b:Nat) (sp:Nat->Bool) (hd:Bool),DataW.TrodAll enc P B b sp hd f.resultTypes.toList (v.resultList f.resultTypes.size) (s.fn H (ds++N)).results [])
  (x:∀sp:Nat->Bool,(∀p∈before,sp p.block=true)->DataW.TrodAll enc P B 0 sp true f.params.toList args.toList (s.fn H (ds++N)).args M)
  (z:∀sp:Nat->Bool,(∀p∈before,sp p.block=true)->DataW.TrodVars enc P B sp s.vars (s.fn H (ds++N)).vars pv)
  (A:before=M++pv) (R:Kept W B)
  (V:∀(j:Nat) (t:TypeId) (r:Value),f.resultTypes[j]?=some t->(v.resultList f.resultTypes.size)[j]?=some r->Value.okWide P B .any 0 t r):
  s.post enc P f apart fresh C O W args v B:=by
 have L:∀p∈before,(fun b=>decide (b<W.heap.size)) p.block=true:=fun p q=>by simpa using Q.lt p q
 have U:=Q.lt
 refine ⟨ds,N,before,[],M,pv,Q,J _ _ _,x _ L,z _ L,World.keptBut_mono (fun p q=>⟨q,?_⟩) (R.frame before),fun _=>?_⟩
 ·rw [A,List.mem_append]at q
  exact Or.inr q
 ·obtain ⟨_,_,_,_,_,Y,X⟩:=Q
  refine ⟨V,_,_,([]++M)++pv,⟨[]++M,pv,trodAll_append (x _ (fun _ _=>rfl)) (J _ _ _),z _ (fun _ _=>rfl),rfl,?_,?_⟩,?_⟩
  ·intro b I q
   have hb:MemPlace.cell b I∈before:=by rw [A];simpa using q
   rw [R.2.1 b I (U _ hb)]
   exact Y b I hb
  ·intro ha
   have:=X ha
   rw [A]at this
   simpa using this
  ·intro p q _
   rw [A]
   simpa using q
end
theorem Av.idle {ρ:Env} {μ:As} {h:Al} {w w':World} (H:AD ρ μ h w) (z:∀r,r<w.heap.size->w'.heap[r]?=w.heap[r]?) (hs:w.heap.size<=w'.heap.size) (A:w'.os=w.os) (C:w'.output=w.output):Av ρ μ h w μ h w':=by
 have j:∀r,r<w.heap.size->¬AF μ h r->w'.heap[r]?=w.heap[r]?/\¬AF μ h r:=fun r q x=>⟨z r q,x⟩
 refine ⟨μ.le_refl,⟨H.fresh,fun b B hb=>?_,H.inj,H.FZ j⟩,hs,j,A,C,Nat.le_refl _,fun _ _=>rfl,fun _ _ h=>.inl h,rfl⟩
 obtain ⟨r,δ,v,q⟩:=H.blk b B hb
 exact ⟨r,δ,v,by rw [z r (H.lt hb v)];exact q⟩
theorem OJ {f:Nat}:∀{l:List (Nat×Bg)} {o:Bg},Sv f l=some o->(f,o)∈l
 |[],o,h=>by cases h
 |x::r,o,h=>by
  have h:(bif Nat.beq x.1 f then some x.2 else Sv f r)=some o:=h
  rw [AA]at h
  by_cases e:x.1=f
  ·rw [if_pos e]at h
   simp only [oI]at h
   rw [<-e,<-h]
   exact List.mem_cons_self
  ·rw [if_neg e]at h
   exact List.mem_cons_of_mem _ (OJ h)
theorem P3 (k:IntKind) (n:Int) (h:k.min<=n/\n<=k.max):k.wrap n=n:=by
 obtain ⟨j,q⟩:=h
 unfold IntKind.wrap
 unfold IntKind.min at j
 unfold IntKind.max at q
 cases k<;>simp [IntKind.signed,IntKind.bits]at j q⊢<;>(try split)<;>omega
theorem Ys {k:IntKind} {n:Int} (h:(Lit.int k n).wf=true):k.min<=n/\n<=k.max:=by
 simpa [Lit.wf]using h
theorem Bh {α:Type} {p:α->Prop} {x:α} {l:List α} (h:p x) (q:∀y∈l,p y):∀y∈x::l,p y:=fun y j=>by
 rcases List.mem_cons.1 j with rfl|j
 ·exact h
 ·exact q y j
end
section
def Holds (P:Program) (ρ:Env) (g:FuncId) (x:By):Prop:=
 JQ P g/\∀μ w (j:Array Value),AD ρ μ (AS x.pre (empty 0)) w->A4 ρ μ x.args j.toList->
  Calls P g j w fun e w'=>∃q,Av ρ μ (AS x.pre (empty 0)) w q (Ct x.post (empty 0)) w'/\KJ ρ q (.ret x.res) e
theorem Rp {P:Program} {ρ:Env} {g:FuncId} {x:By} (Q:Holds P ρ g x):Cv P ρ g (Rq x):=by
 intro args h r h' B
 unfold Rq at B
 generalize RH h x.pre 0 (V5 x.args args [])=σ at B
 simp only at B
 obtain ⟨z,L⟩:=Ap B
 clear B
 unfold AdV at z
 rw [aT,aT,aT,aT]at z
 obtain ⟨q,j,Y,C,U⟩:=z
 have q:=An.1 q
 rw [Db,EH]at q
 have j:=AI.1 j
 rw [EH,Gg]at j
 have F:Fits h.fx h σ x.pre x.post.length:=⟨q,j,EP Y,U⟩
 unfold AbO at L
 obtain ⟨h1,A,X⟩:=Ac L
 obtain ⟨v,O,M⟩:=Ac X
 simp only [oI,Prod.mk.injEq]at M
 obtain ⟨rfl,rfl⟩:=M
 rw [EH]at A O
 rw [Gg]at A
 refine ⟨Q.1,fun μ w I H N=>?_⟩
 refine (Q.2 _ w I (Fits.before H.AJ.facts F H) (Gr H.AJ.facts Fits.ren C N)).mono fun e w' J=>?_
 obtain ⟨Z,g',J⟩:=J
 obtain ⟨R,V,R1⟩:=F.after H A g'
 refine ⟨R,V,?_⟩
 ·cases e
  case returned u=>exact Sp R1 O (show Ah ρ Z x.res u from J)
  all_goals exact J.elim
theorem H8 {P:Program} {ρ:Env} {g:FuncId}:∀{l:List By},(∀x∈l,Holds P ρ g x)->Cv P ρ g (JG l)
 |[],_,args,h,r,h',hr=>by cases hr
 |x::l,hl,args,h,r,h',hr=>by
  have e:JG (x::l) args h=(match Rq x args h with|some y=>some y|none=>JG l args h):=rfl
  rw [e]at hr
  split at hr
  ·rename_i y j
   simp only [oI]at hr
   subst hr
   exact Rp (hl x List.mem_cons_self) args h r h' j
  ·exact H8 (fun y j=>hl y (List.mem_cons_of_mem _ j)) args h r h' hr
end
end Go.AM
