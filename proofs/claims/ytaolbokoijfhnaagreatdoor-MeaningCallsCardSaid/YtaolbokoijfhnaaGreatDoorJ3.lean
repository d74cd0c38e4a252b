/- Part 3 of MeaningCalls. -/
import Derived.Test.YtaolbokoijfhnaaGreatDoorJ2
import Derived.WalkKit
import Derived.ProofKit
import Derived.OpenShut
import Derived.LoopN
import Derived.Defers
import Derived.Recover
import Derived.Laws.Sem
set_option linter.all false
namespace Go.AM
section
def C2 (ρ:Env) (μ:As):List (FuncId×List Aa)->List Deferred->Prop
 |[],ds=>ds=[]
 |d::r,ds=>∃c rest,ds=c::rest/\KN ρ μ d c/\C2 ρ μ r rest
theorem KN.mono {ρ:Env} {μ j:As} (h:μ.le j) {d:FuncId×List Aa} {c:Deferred} (hd:KN ρ μ d c):KN ρ j d c:=
 let ⟨cap,h1,h2⟩:=hd
 ⟨cap,h1,h2.mono h⟩
theorem C2.mono {ρ:Env} {μ j:As} (h:μ.le j):∀{l:List (FuncId×List Aa)} {ds:List Deferred},C2 ρ μ l ds->C2 ρ j l ds
 |[],_,e=>e
 |_::_,_,e=>let ⟨c,rest,e1,e2,e3⟩:=e;⟨c,rest,e1,e2.mono h,C2.mono h e3⟩
structure CI (ρ:Env) (μ:As) (nt:Nat) (f:Fr) (a:Act) (w:World):Prop where
 tmps:AT ρ μ f.tm a
 size:nt<=a.tmps.size
 heap:AI ρ μ f.h w
 defs:C2 ρ μ f.df a.defers
def KM (ρ:Env) (μ:As):NG->Ending->Prop
 |.ret v,.returned u=>Ag ρ μ v u
 |.panic v,.panicked chain=>∃u,chain=[{v:=u,recovered:=false}]/\Ag ρ μ v u
 |_,_=>False
def B9 (P:Program) (ρ:Env) (call:Cl):Prop:=
 ∀g args h r q,call g args h=some (r,q)->JW P g/\∀μ w (j:Array Value),AI ρ μ h w->A6 ρ μ args j.toList->
  Calls P g j w fun e w'=>∃v,Av ρ μ h w v q w'/\KM ρ v r e
section
variable {P:Program} {Γ:Ap} {ρ:Env} {μ:As} {tm:Tr Aa} {a:Act} {w:World} {h:Ak} {pl:List Co} {nt:Nat} {ops:Array Oper} {call:Cl}
theorem I6:Ag ρ μ I7 undef:=by
 simp only [I7,Ag]
 exact ⟨_,rfl,by simp only [A6]⟩
theorem E8 (H:AT ρ μ tm a) {o:Oper} {g:Option (Nat×Bool)} (v:guardOf ops o.guard=some g) (hs:∀d b,g=some (d,b)->d<a.tmps.size) {b:Bool} (hb:Dd tm g=some b):Region.wanted o (yielded ops a.tmps)=b:=by
 unfold Region.wanted
 cases hog:o.guard with
 |none=>
  rw [hog]at v
  simp only [guardOf,oI]at v
  subst v
  simp only [Dd,oI]at hb
  simp [<-hb]
 |some jw=>
  obtain ⟨j,z⟩:=jw
  rw [hog]at v
  simp only [guardOf]at v
  split at v
  ·rename_i d hd
   simp only [oI]at v
   subst v
   simp only [Dd]at hb
   have x:=hs d z rfl
   have q:=H d
   unfold VJ at hb
   split at hb
   ·rename_i C B
    simp only [oI]at hb
    subst hb
    rw [B]at q
    have q:=Ag.bool q
    simp only [SB.den]at q
    rw [Array.getD_eq_getD_getElem?,Array.getElem?_eq_getElem x,Option.getD_some]at q
    have A:yielded ops a.tmps j=some C:=by
     unfold yielded
     rw [hd]
     simp [x,q]
    simp only [A]
    cases z<;>cases C<;>rfl
   ·rename_i B
    simp only [oI]at hb
    subst hb
    rw [B]at q
    have q:Ag ρ μ (.tuple []) (a.tmps.getD d undef):=q
    simp only [Ag]at q
    obtain ⟨us,q,I⟩:=q
    rw [Array.getD_eq_getD_getElem?,Array.getElem?_eq_getElem x,Option.getD_some]at q
    have A:yielded ops a.tmps j=none:=by
     unfold yielded
     rw [hd]
     simp [x,q]
    simp only [A]
    rfl
   ·cases hb
  ·cases v
structure NA (P:Program) (pl:List Co) (nt:Nat) (ops:Array Oper) (o:Oper) (s:Step):Prop where
 op:Dq P pl o=some s.op
 guard:guardOf ops o.guard=some s.guard
 dst:s.dst=o.dst
 small:∀d,o.dst=some d->d<nt
 seen:∀d b,s.guard=some (d,b)->d<nt
theorem Fj {o:Oper} {b:Nat} {s:Step} (h:stepOf P pl nt ops o b=some s):NA P pl nt ops o s:=by
 unfold stepOf at h
 split at h
 ·rename_i op g q v
  split at h
  ·rename_i hd
   simp only [oI]at h
   subst h
   rw [aT]at hd
   refine ⟨q,v,rfl,fun d j=>?_,fun d b j=>?_⟩
   ·have:=hd.1
    rw [j]at this
    simp only [Option.all_some]at this
    exact Nat.lt_of_lt_of_le (Nat.lt_succ_self d) (AL.1 this)
   ·have:=hd.2
    simp only at j
    rw [j]at this
    simp only [Option.all_some]at this
    exact Nat.lt_of_lt_of_le (Nat.lt_succ_self d) (AL.1 this)
  ·cases h
 ·cases h
inductive Aeb where
 |val (v:Aa) (h:Ak)
 |panic (v:Aa) (h:Ak)
 |defer (g:FuncId) (args:List Aa)
def S8 (call:Cl) (h:Ak) (r:GN):Option Aeb:=
 match r with
 |.val v h=>some (.val v h)
 |.call g args=>match call g args h with
  |some (.ret v,h)=>some (.val v h)
  |some (.panic v,h)=>some (.panic v h)
  |none=>none
 |.panic v=>some (.panic v h)
 |.defer g args=>some (.defer g args)
noncomputable def Adv (f:Fr) (d:Option Nat) (o:Aeb):Cb:=
 match o with
 |.val v h=>K3 f d v h
 |.panic v h=>.panic v ⟨f.tm,h,f.df⟩
 |.defer g args=>.go ⟨DI f.tm d .any,f.h,(g,args)::f.df⟩
theorem M4 {f:Fr} {d:Option Nat} {r:GN} {x:Cb} (j:Ahk call f d r=some x):∃o,S8 call f.h r=some o/\x=Adv f d o:=by
 unfold Ahk at j
 split at j
 ·simp only [oI]at j
  exact ⟨_,rfl,j.symm⟩
 ·rename_i g args
  obtain ⟨r,z,j⟩:=Ac j
  simp only [oI]at j
  subst j
  obtain ⟨c,q⟩:=r
  cases c with
  |ret v=>exact ⟨.val v q,by simp [S8,z],rfl⟩
  |panic v=>exact ⟨.panic v q,by simp [S8,z],rfl⟩
 ·simp only [oI]at j
  exact ⟨_,rfl,j.symm⟩
 ·simp only [oI]at j
  exact ⟨_,rfl,j.symm⟩
def Ib (u:Value):List PanicEntry:=[{v:=u,recovered:=false}]
def Amp (ρ:Env) (μ:As) (h:Ak) (a:Act) (w:World) (d:Option Tmp) (K:Act->World->Prop) (Q:Exit->Act->World->Prop):Aeb->Prop
 |.val v h'=>∀j u w',Av ρ μ h w j h' w'->Ag ρ j v u->K (a.put d u) w'
 |.panic v h'=>∀j u w',Av ρ μ h w j h' w'->Ag ρ j v u->Q (.panic (Ib u)) a w'
 |.defer g args=>∀x,KN ρ μ (g,args) x->K ({a with defers:=x::a.defers}.put d undef) w
theorem SH (hc:B9 P ρ call) (H:AI ρ μ h w) {o:Oper} {res:GN} (hd:Ex P ρ μ h a o w res) {out:Aeb} (q:S8 call h res=some out) {K:Act->World->Prop} {Q:Exit->Act->World->Prop}
  (I:Amp ρ μ h a w o.dst K Q out):o.wp P a w K Q:=by
 unfold Oper.wp
 cases res with
 |val v R=>
  simp only [S8,oI]at q
  subst q
  obtain ⟨V,u,w',J,j,U,B,C⟩:=hd
  rw [j]
  rcases U with rfl|⟨rfl,rfl⟩
  ·exact I J u w' B C
  ·exact I J undef w' B C
 |call g args=>
  simp only [S8]at q
  split at q
  ·rename_i v R z
   simp only [oI]at q
   subst q
   obtain ⟨hf,L⟩:=hc _ _ _ _ _ z
   obtain ⟨x,j,M⟩:=hd hf
   rw [j]
   refine Calls.mono (L μ w x H M) fun e w' N=>?_
   obtain ⟨J,B,A⟩:=N
   cases e with
   |returned u=>exact I J u w' B A
   |panicked c=>exact A.elim
   |outgrown=>exact A.elim
  ·rename_i v R z
   simp only [oI]at q
   subst q
   obtain ⟨hf,L⟩:=hc _ _ _ _ _ z
   obtain ⟨x,j,M⟩:=hd hf
   rw [j]
   refine Calls.mono (L μ w x H M) fun e w' N=>?_
   obtain ⟨J,B,A⟩:=N
   cases e with
   |returned u=>exact A.elim
   |panicked c=>
    obtain ⟨u,rfl,C⟩:=A
    exact I J u w' B C
   |outgrown=>exact A.elim
  ·cases q
 |panic v=>
  simp only [S8,oI]at q
  subst q
  obtain ⟨u,j,C⟩:=hd
  rw [j]
  exact I μ u w (Av.refl H) C
 |defer g args=>
  simp only [S8,oI]at q
  subst q
  obtain ⟨d,j,O⟩:=hd
  rw [j]
  exact I d O
def AcP (ρ:Env) (μ:As):Ba->Exit->Prop
 |.normal,e=>e=.normal
 |.exit i,e=>e=.exit i
 |.ret,e=>e=.ret
 |.panic v,e=>∃u,e=.panic (Ib u)/\Ag ρ μ v u
def Dp (ρ:Env) (nt:Nat) (μ:As) (h:Ak) (w:World) (Q:Exit->Act->World->Prop) (r:Ba×Fr):Prop:=
 ∀j q w' e,CI ρ j nt r.2 q w'->Av ρ μ h w j r.2.h w'->AcP ρ j r.1 e->Q e q w'
theorem Dp.grow {q:As} {j:Ak} {w':World} {Q:Exit->Act->World->Prop} {r:Ba×Fr} (hl:Dp ρ nt μ h w Q r) (g:Av ρ μ h w q j w'):Dp ρ nt q j w' Q r:=
 fun _ _ _ _ hf v x=>hl _ _ _ _ hf (g.trans v) x
theorem Ka {Q:Exit->Act->World->Prop} {i:Nat} {o:Oper} {K:Act->World->Prop} (q:ops[i]?=some o)
  (h:if Region.wanted o (yielded ops a.tmps)then o.wp P a w K Q else K (a.put o.dst undef) w):wpOp P ops Q i K a w:=by
 unfold wpOp
 rw [q]
 simp only
 split
 ·rename_i j
  rw [if_pos j]at h
  exact .inl h
 ·rename_i j
  rw [if_neg j]at h
  exact h
theorem CI.put {j:As} {f:Fr} {x:Ak} {w':World} (F:CI ρ μ nt f a w) (q:μ.le j) (H:AI ρ j x w') {d:Option Tmp} (hd:∀t,d=some t->t<nt) {v:Aa} {u:Value} (z:Ag ρ j v u):CI ρ j nt ⟨DI f.tm d v,x,f.df⟩ (a.put d u) w':=
 ⟨(F.tmps.mono q).put (fun t e=>Nat.lt_of_lt_of_le (hd t e) F.size) z,by rw [Act.Md];exact F.size,H,by
  have:(a.put d u).defers=a.defers:=by cases d<;>rfl
  rw [this];exact F.defs.mono q⟩
def VE (ρ:Env) (nt:Nat) (μ:As) (h:Ak) (a:Act) (w:World) (K:Act->World->Prop) (Q:Exit->Act->World->Prop):Cb->Prop
 |.go f'=>∀j q w',CI ρ j nt f' q w'->Av ρ μ h w j f'.h w'->K q w'
 |.panic v f'=>∀j u w',CI ρ j nt f' a w'->Av ρ μ h w j f'.h w'->Ag ρ j v u->Q (.panic (Ib u)) a w'
theorem O4 (hΓ:Γ.AG ρ) (hc:B9 P ρ call) {f:Fr} (F:CI ρ μ nt f a w) {o:Oper} {s:Step} (hs:NA P pl nt ops o s) {r:Cb} (x:Iw Γ call s f=some r) {K:Act->World->Prop} {Q:Exit->Act->World->Prop}
  (j:VE ρ nt μ f.h a w K Q r):if Region.wanted o (yielded ops a.tmps)then o.wp P a w K Q else K (a.put o.dst undef) w:=by
 unfold Iw at x
 obtain ⟨b,hb,x⟩:=Ac x
 rw [E8 F.tmps hs.guard (fun d b e=>Nat.lt_of_lt_of_le (hs.seen d b e) F.size) hb]
 cases b with
 |false=>
  simp only [cond_false,oI]at x
  subst x
  simp only [Bool.false_eq_true,if_false]
  have j:∀z A w',CI ρ z nt (⟨DI f.tm s.dst I7,f.h,f.df⟩:Fr) A w'->Av ρ μ f.h w z f.h w'->K A w':=j
  rw [hs.dst]at j
  exact j μ _ w (F.put μ.le_refl F.heap hs.small I6) (Av.refl F.heap)
 |true=>
  simp only [cond_true]at x
  simp only [if_true]
  have H:=hs.op
  unfold Wp at x
  split at x
  ·rename_i q M
   rw [M]at H
   obtain ⟨v,J,x⟩:=Ac x
   simp only [oI]at x
   subst x
   obtain ⟨u,I,L⟩:=Ms (w:=w) hΓ F.tmps H J
   unfold Oper.wp
   rw [I]
   have j:∀z A w',CI ρ z nt (⟨DI f.tm s.dst v,f.h,f.df⟩:Fr) A w'->Av ρ μ f.h w z f.h w'->K A w':=j
   rw [hs.dst]at j
   exact j μ _ w (F.put μ.le_refl F.heap hs.small L) (Av.refl F.heap)
  ·rename_i q M
   rw [M]at H
   obtain ⟨v,J,x⟩:=Ac x
   simp only [oI]at x
   subst x
   obtain ⟨u,I,L⟩:=Mq hΓ F.heap F.tmps H J
   unfold Oper.wp
   rw [I]
   have j:∀z A w',CI ρ z nt (⟨DI f.tm s.dst v,f.h,f.df⟩:Fr) A w'->Av ρ μ f.h w z f.h w'->K A w':=j
   rw [hs.dst]at j
   exact j μ _ w (F.put μ.le_refl F.heap hs.small L) (Av.refl F.heap)
  ·rename_i q M
   rw [M]at H
   obtain ⟨⟨B,v⟩,J,x⟩:=Ac x
   simp only [oI]at x
   subst x
   obtain ⟨U,u,I,m,hB,L⟩:=ON (w:=w) F.tmps H J
   have C:=Av.add F.heap B U (0,m) hB
   unfold Oper.wp
   rw [I]
   have j:∀z A w',CI ρ z nt (⟨DI f.tm s.dst v,f.h.add B,f.df⟩:Fr) A w'->Av ρ μ f.h w z (f.h.add B) w'->K A w':=j
   rw [hs.dst]at j
   exact j _ _ _ (F.put C.le C.rel hs.small (L _ C.le (As.BD _ _ _))) C
  ·rename_i q M
   rw [M]at H
   obtain ⟨res,N,x⟩:=Ac x
   obtain ⟨out,O,rfl⟩:=M4 x
   refine SH hc F.heap (KY F.heap F.tmps H N) O ?_
   cases out with
   |val v h'=>
    have j:∀z A w',CI ρ z nt (⟨DI f.tm s.dst v,h',f.df⟩:Fr) A w'->Av ρ μ f.h w z h' w'->K A w':=j
    rw [hs.dst]at j
    exact fun z u w' C J=>j z _ w' (F.put C.le C.rel hs.small J) C
   |panic v h'=>exact fun z u w' C J=>j z u w' ⟨F.tmps.mono C.le,F.size,C.rel,F.defs.mono C.le⟩ C J
   |defer g args=>
    have j:∀z A w',CI ρ z nt (⟨DI f.tm s.dst .any,f.h,(g,args)::f.df⟩:Fr) A w'->Av ρ μ f.h w z f.h w'->K A w':=j
    rw [hs.dst]at j
    refine fun d hd=>j μ _ w ?_ (Av.refl F.heap)
    have R:CI ρ μ nt ⟨f.tm,f.h,(g,args)::f.df⟩ {a with defers:=d::a.defers} w:=⟨F.tmps,F.size,F.heap,d,a.defers,rfl,hd,F.defs⟩
    exact R.put μ.le_refl F.heap hs.small trivial
theorem TN (hΓ:Γ.AG ρ) (hc:B9 P ρ call) {f:Fr} (F:CI ρ μ nt f a w) {o:Oper} {s:Step} {i:Nat} (j:ops[i]?=some o) (hs:NA P pl nt ops o s) {r:Cb} (q:Iw Γ call s f=some r) {K:Act->World->Prop} {Q:Exit->Act->World->Prop}
  (v:VE ρ nt μ f.h a w K Q r):wpOp P ops Q i K a w:=
 Ka j (O4 hΓ hc F hs q v)
theorem Dl {α:Type}:∀{l:List (Option α)} {r:List α},B3 l=some r->l=r.map some
 |[],r,h=>by simp only [B3,oI]at h;subst h;rfl
 |some a::l,r,h=>by
  simp only [B3]at h
  obtain ⟨q,j,e⟩:=mS h
  subst e
  simp [Dl j]
 |none::l,r,h=>by simp [B3]at h
theorem O9 (s:Step) (r:List Step) (f:Fr):Ut Γ call (s::r) f=AA (Iw Γ call s f) fun x=>goes x fun j=>Ut Γ call r j:=rfl
theorem O8 (hΓ:Γ.AG ρ) (hc:B9 P ρ call) {Q:Exit->Act->World->Prop}:∀(l:List Oper) (q:List Step) (k:Nat) {μ:As} {a:Act} {w:World} {f:Fr} {r:Cb},(∀j,l[j]?=ops[k+j]?)->B3 (l.map fun o=>stepOf P pl nt ops o 0)=some q->
  Ut Γ call q f=some r->CI ρ μ nt f a w->Dp ρ nt μ f.h w Q (F8 r)->wpOps P ops Q (List.range' k l.length) a w
 |[],q,k,μ,a,w,f,r,hl,hs,z,F,L=>by
  simp only [List.map_nil,B3,oI]at hs
  subst hs
  have z:some (Cb.go f)=some r:=z
  simp only [oI]at z
  subst z
  exact L μ a w .normal F (Av.refl F.heap) rfl
 |o::l,q,k,μ,a,w,f,r,hl,hs,z,F,L=>by
  have A:=Dl hs
  cases q with
  |nil=>simp at A
  |cons s q=>
   simp only [List.map_cons,List.cons.injEq]at A
   obtain ⟨J,C⟩:=A
   have I:B3 (l.map fun o=>stepOf P pl nt ops o 0)=some q:=by
    rw [C]
    clear C z hs
    induction q with
    |nil=>rfl
    |cons x r ih=>simp only [List.map_cons,B3,ih,Option.map_some]
   rw [O9]at z
   obtain ⟨x,N,z⟩:=Ac z
   have M:ops[k]?=some o:=by simpa using (hl 0).symm
   rw [lC,List.range'_succ,wpOps_cons]
   refine TN hΓ hc F M (Fj J) N ?_
   cases x with
   |go f'=>exact fun H R w' B g=>O8 hΓ hc l q (k+1) (fun j=>by simpa [Nat.add_assoc,Nat.add_comm 1 j]using hl (j+1)) I z B (L.grow g)
   |panic v f'=>
    simp only [goes,oI]at z
    subst z
    exact fun H u w' B g O=>L H a w' _ B g ⟨u,rfl,O⟩
end
end
section
section
variable {Γ:Ap} {tm tm':Tr Aa} {h h':Ak}
def DB (tm tm':Tr Aa) (l:List Ct):Prop:=∀x∈l,ev tm x=ev tm' x
theorem EJ:∀{l:List Ct},DB tm tm' l->RR tm l=RR tm' l
 |[],_=>rfl
 |x::r,h=>by
  show ev tm x::RR tm r=ev tm' x::RR tm' r
  rw [h x (by simp),EJ fun y j=>h y (by simp [j])]
theorem H7:∀{ps:List (Nat×Nat×Ct)} {cs:List Aa},DB tm tm' (ps.map (·.2.2))->H8 tm ps cs=H8 tm' ps cs
 |[],_,_=>rfl
 |p::r,cs,h=>by
  show (AA (Fw cs (ev tm p.2.2) p.1 p.2.1) fun cs=>H8 tm r cs)=AA (Fw cs (ev tm' p.2.2) p.1 p.2.1) fun cs=>H8 tm' r cs
  rw [h p.2.2 (by simp)]
  congr 1
  funext cs
  exact H7 fun y j=>h y (by simp only [List.map_cons,List.mem_cons];exact .inr j)
theorem E9 {d:Nat} {o:Option Ct} (h:DB tm tm' o.toList):Cd tm d o=Cd tm' d o:=by
 cases o with
 |none=>rfl
 |some x=>simp only [Cd];rw [h x (by simp)]
theorem U3 {o:Option Ct} (h:DB tm tm' o.toList):Adw tm o=Adw tm' o:=by
 cases o with
 |none=>rfl
 |some x=>simp only [Adw];rw [h x (by simp)]
theorem Mz {o:Option Ct} (h:DB tm tm' o.toList):Lz tm o=Lz tm' o:=by
 cases o with
 |none=>rfl
 |some x=>simp only [Lz];rw [h x (by simp)]
theorem DB.app {l q:List Ct} (h:DB tm tm' (l++q)):DB tm tm' l/\DB tm tm' q:=⟨fun x j=>h x (by simp [j]),fun x j=>h x (by simp [j])⟩
theorem DB.cons {x:Ct} {l:List Ct} (h:DB tm tm' (x::l)):ev tm x=ev tm' x/\DB tm tm' l:=⟨h x (by simp),fun x j=>h x (by simp [j])⟩
theorem S6 {o:POp} (h:DB tm tm' o.BU):Iz Γ tm o=Iz Γ tm' o:=by
 cases o<;>simp only [POp.BU]at h<;>simp only [Iz]
 case build zero parts=>rw [H7 h]
 case func f a c=>rw [EJ h.app.1,EJ h.app.2]
 case big m xs=>rw [EJ h]
 case subs x lo hi=>
  obtain ⟨v,j⟩:=h.cons
  obtain ⟨j,q⟩:=j.app
  rw [v,E9 j]
  congr 1
  funext d
  exact E9 q
 case reslice n x lo hi mx=>
  obtain ⟨v,j⟩:=h.cons
  obtain ⟨j,q⟩:=j.app
  obtain ⟨q,z⟩:=q.app
  have e:(fun d=>Cd tm d hi)=fun d=>Cd tm' d hi:=funext fun d=>E9 q
  rw [v]
  unfold FJ
  rw [E9 j,U3 z,e,Mz j,Mz q]
 case pick c a b=>rw [h.cons.1,h.cons.2.cons.1,h.cons.2.cons.2.cons.1]
 all_goals first
  |(rw [h.cons.1,h.cons.2.cons.1];done)
  |(rw [h.cons.1];done)
theorem Fm {o:NJ} (j:DB tm tm' o.BU):Dn Γ tm h o=Dn Γ tm' h o:=by
 cases o<;>simp only [NJ.BU]at j<;>simp only [Dn]
 case load n x=>rw [j.cons.1]
 case lenM x=>rw [j.cons.1]
 case uptr ok x=>rw [j.cons.1]
 case bstr x=>rw [j.cons.1]
 case lookup kk z ok x k=>rw [j.cons.1,j.cons.2.cons.1]
theorem U9 {id:Nat} {o:AOp} (j:DB tm tm' o.BU):XQ tm id o=XQ tm' id o:=by
 cases o<;>simp only [AOp.BU]at j<;>simp only [XQ]
 case box t x=>rw [j.cons.1]
 case bslice len z ps=>rw [H7 j]
 case mkSlice z l c=>rw [j.cons.1,j.cons.2.cons.1]
theorem Q7 {o:MOp} (j:DB tm tm' o.BU):Kp tm h o=Kp tm' h o:=by
 cases o<;>simp only [MOp.BU]at j<;>simp only [Kp]
 case call f args=>rw [j.cons.1,EJ j.cons.2]
 case defer f args=>rw [j.cons.1,EJ j.cons.2]
 case mapUp kk m k v=>rw [j.cons.1,j.cons.2.cons.1,j.cons.2.cons.2.cons.1]
 all_goals first
  |(rw [j.cons.1,j.cons.2.cons.1];done)
  |(rw [j.cons.1];done)
theorem Fb {l:List Ct} (h:∀t∈l.flatMap Ct.names,tm.get t=tm'.get t):DB tm tm' l:=fun x j=>by
 cases x with
 |con v=>rfl
 |tmp t=>
  simp only [ev]
  rw [h t (List.mem_flatMap.2 ⟨.tmp t,j,by simp [Ct.names]⟩)]
end
theorem AaP {P:Program} {pl:List Co} {o:Oper} {q:NJ} (hc:Dq P pl o=some (.r q)):∀x∈q.BU,∃y:Operand,x=AD y:=by
 cases hop:o.op<;>simp only [Dq,hop,reduceCtorEq,oI]at hc
 case load t x=>
  obtain ⟨n,v,e⟩:=mS hc
  simp only [DC.r.injEq]at e
  subst e
  intro y j
  simp only [NJ.BU,List.mem_singleton]at j
  exact ⟨_,j⟩
 case lookup t x k ok=>
  split at hc
  ·split at hc
   ·obtain ⟨z,C,e⟩:=mS hc
    simp only [DC.r.injEq]at e
    subst e
    intro y j
    simp only [NJ.BU,List.mem_cons,List.not_mem_nil,or_false]at j
    rcases j with j|j
    ·exact ⟨_,j⟩
    ·exact ⟨_,j⟩
   ·cases hc
  ·cases hc
 case call c=>
  unfold EX at hc
  split at hc
  ·split at hc
   ·split at hc
    ·simp at hc
    ·split at hc
     ·split at hc<;>simp at hc
     ·split at hc
      ·split at hc<;>simp at hc
      ·cases hc
   ·cases hc
  ·simp at hc
  ·cases hc
  ·rename_i b hb
   split at hc
   ·split at hc
    ·simp at hc
    ·simp at hc
    ·simp at hc
    ·simp only [oI,DC.r.injEq]at hc
     subst hc
     intro y j
     simp only [NJ.BU,List.mem_singleton]at j
     exact ⟨_,j⟩
    ·cases hc
   ·exfalso
    unfold ED at hc
    split at hc<;>first|cases hc|skip
    all_goals (split at hc<;>first|(cases hc;done) |(split at hc<;>simp at hc))
   ·exfalso
    split at hc<;>first|(cases hc;done) |(obtain ⟨_,_,e⟩:=mS hc;cases e)
   ·simp at hc
   ·simp at hc
   ·simp at hc
   ·simp at hc
   ·exfalso
    split at hc
    ·split at hc<;>simp at hc
    ·cases hc
   ·cases hc
 case convert s d x=>
  rcases CD hc with ⟨k0,k,hs,hd,e⟩|⟨hs,hd,e⟩|⟨t,n,hs,hd,v,e⟩|⟨u,n,hs,hd,v,e⟩|⟨el,hs,he,hd,e⟩
  ·cases e
  ·cases e
  all_goals
   simp only [DC.r.injEq]at e
   subst e
   intro y j
   simp only [NJ.BU,List.mem_singleton]at j
   exact ⟨_,j⟩
 case typeAssert x xt t ok=>
  obtain ⟨d,i,z,I,hd,B,C,e⟩:=Cf hc
  cases e
 case defer c=>
  obtain ⟨A,args,H⟩:=c
  cases A<;>simp at hc
 case makeFunc fn x c=>cases fn<;>simp at hc
 case binOp op t x y yt=>obtain ⟨_,_,e⟩:=mS hc;cases e
 case slice t x lo B mx=>
  exfalso
  split at hc
  ·simp at hc
  ·obtain ⟨_,_,e⟩:=mS hc;cases e
  ·split at hc
   ·obtain ⟨_,_,e⟩:=mS hc;cases e
   ·cases hc
  ·cases hc
 case build t parts=>
  exfalso
  split at hc
  ·split at hc
   ·obtain ⟨_,_,e⟩:=mS hc;cases e
   ·cases hc
  ·obtain ⟨_,_,hc⟩:=Option.bind_eq_some_iff.1 hc
   obtain ⟨_,_,e⟩:=mS hc;cases e
  ·cases hc
 case fieldAddr t x f=>
  exfalso
  split at hc
  ·obtain ⟨_,_,hc⟩:=Option.bind_eq_some_iff.1 hc
   split at hc<;>simp at hc
  ·cases hc
 case field t x f=>
  exfalso
  split at hc
  ·obtain ⟨_,_,hc⟩:=Option.bind_eq_some_iff.1 hc
   obtain ⟨_,_,e⟩:=mS hc;cases e
  ·cases hc
 all_goals
  exfalso
  first
   |(cases hc;done)
   |(split at hc<;>first|(cases hc;done) |(simp at hc;done) |(obtain ⟨_,_,e⟩:=mS hc;cases e;done) |(split at hc<;>first|(cases hc;done) |(simp at hc;done) |(obtain ⟨_,_,e⟩:=mS hc;cases e;done) |(split at hc<;>first|(cases hc;done) |(simp at hc;done) |(obtain ⟨_,_,e⟩:=mS hc;cases e;done))))
   |(obtain ⟨_,_,e⟩:=mS hc;cases e;done)
section
variable {P:Program} {ρ:Env} {μ:As} {tm:Tr Aa} {a:Act} {h h':Ak}
theorem U0 {Γ:Ap} (Y:AT ρ μ tm a) {o:Oper} {pl:List Co} {q:NJ} (hc:Dq P pl o=some (.r q)) (M:∀b B,μ b≠none->h.get b=some B->h'.get b=some B) {v:Aa} (A:Dn Γ tm h q=some v):Dn Γ tm h' q=some v:=by
 have cells:∀{b:Nat} {vs:List Aa},μ b≠none->cellsOf (h.get b)=some vs->cellsOf (h'.get b)=some vs:=fun {b vs} hb C=>by
  rcases EE C with e|⟨t,e⟩<;>rw [M _ _ hb e]<;>rfl
 have R:∀{b:Nat} {vs:List Entry×Nat},μ b≠none->mapOf (h.get b)=some vs->mapOf (h'.get b)=some vs:=fun {b vs} hb C=>by
  rw [M _ _ hb (Dx C)];rfl
 have U:∀x∈q.BU,∃u,Ag ρ μ (ev tm x) u:=fun x hx=>by
  obtain ⟨y,rfl⟩:=AaP hc x hx
  exact ⟨_,Au Y y⟩
 cases q with
 |load n x=>
  obtain ⟨u,H⟩:=U x (by simp [NJ.BU])
  simp only [Dn]at A⊢
  unfold MA at A⊢
  split at A
  ·rename_i b X j L J
   rw [J]at H
   obtain ⟨r,m,I,_⟩:=H.vptr
   obtain ⟨vs,C,ac⟩:=Ac A
   obtain ⟨l,hl,_⟩:=Ac C
   have hb:=M _ _ (by rw [I];simp) (CY hl)
   have Z:elemV Γ (h'.get b) X j=elemV Γ (h.get b) X j:=by rw [hb,CY hl]
   simp only [Z]
   exact A
  ·exact A
  ·rename_i b L J
   rw [J]at H
   obtain ⟨r,δ,m,I,_⟩:=H.ptr
   obtain ⟨vs,C,A⟩:=Ac A
   simp only [cells (by rw [I];simp) C]
   exact A
  ·cases A
 |lookup kk z ok x k=>
  obtain ⟨u,H⟩:=U x (by simp [NJ.BU])
  simp only [Dn]at A⊢
  unfold WC at A⊢
  split at A
  ·exact A
  ·rename_i b J
   rw [J]at H
   obtain ⟨r,I,_⟩:=H.NT
   unfold UG at A⊢
   split at A
   ·rename_i i hi
    have Q:IF (h'.get b)=some i:=by rw [M _ _ (by rw [I];simp) (Ei hi)];rfl
    simp only [Q]
    exact A
   ·obtain ⟨vs,C,A⟩:=Ac A
    have Q:IF (h'.get b)=none:=by rw [M _ _ (by rw [I];simp) (Dx C)];rfl
    simp only [Q,R (by rw [I];simp) C]
    exact A
  ·cases A
 |lenM x=>
  obtain ⟨u,H⟩:=U x (by simp [NJ.BU])
  simp only [Dn]at A⊢
  unfold WD at A⊢
  split at A
  ·exact A
  ·rename_i b J
   rw [J]at H
   obtain ⟨r,I,_⟩:=H.NT
   obtain ⟨vs,C,A⟩:=Ac A
   simp only [R (by rw [I];simp) C]
   exact A
  ·cases A
 |bstr x=>
  obtain ⟨u,H⟩:=U x (by simp [NJ.BU])
  simp only [Dn]at A⊢
  have key:∀b L len,μ b≠none->Nx h b L len=some v->Nx h' b L len=some v:=fun b L len hb O=>by
   unfold Nx at O⊢
   cases hl:Nat.beq len 0 with
   |true=>rw [hl]at O;exact O
   |false=>
    rw [hl]at O
    obtain ⟨vs,C,V⟩:=Ac O
    simp only [cond_false,cells hb C]
    exact V
  unfold Xg at A⊢
  split at A
  ·exact A
  ·rename_i b L len c J
   rw [J]at H
   obtain ⟨r,δ,m,I,_⟩:=H.slice
   exact key _ _ _ (by rw [I];simp) A
  ·rename_i b L len c J
   rw [J]at H
   obtain ⟨r,δ,m,_,I,_⟩:=H.gslice
   exact key _ _ _ (by rw [I];simp) A
  ·cases A
 |uptr ok x=>
  obtain ⟨u,H⟩:=U x (by simp [NJ.BU])
  simp only [Dn]at A⊢
  unfold Ow at A⊢
  split at A
  ·rename_i b J
   rw [J]at H
   obtain ⟨r,δ,m,I,_⟩:=H.ptr
   have N:=A
   unfold YL at N
   split at N
   ·rename_i e vs hb
    rw [hb]at A
    rw [M _ _ (by rw [I];simp) hb]
    exact A
   ·cases N
  ·cases A
end
end
section
structure Item where
 i:Nat
 s:Step
 e:Option (Aa×Option Block)
def Item.pair (x:Item):Nat×Step:=(x.i,x.s)
def Gp:List Item->(Nat->Option Aa)->Nat->Option Aa
 |[],g,t=>g t
 |x::r,g,t=>match x.e with
  |some u=>if x.s.dst=some t then some u.1 else Gp r g t
  |none=>Gp r g t
def Er:List Item->Nat->(Nat->Option Block)->Nat->Option Block
 |[],_,g,b=>g b
 |x::r,id,g,b=>match x.e with
  |some (_,some B)=>if b=id then some B else Er r (id+1) g b
  |_=>Er r (id+1) g b
def Clo (W:Nat->Nat->Bool):List Item->Prop
 |[]=>True
 |x::r=>(x.e=none->∀z∈r,z.e≠none->W x.i z.i=false)/\Clo W r
def Y4 (Γ:Ap) (call:Cl):List Item->Nat->Fr->Prop
 |[],_,_=>True
 |x::r,id,f=>(∀u,x.e=some u->Hz Γ f.tm f.h id x.s=some u)/\
  ((∃j,Iv Γ call x.s id f=some (.go j)/\Y4 Γ call r (id+1) j)∨∀y∈r,y.e=none)
structure Xp (W:Nat->Nat->Bool) (x y:Nat×Step):Prop where
 ne:x.1≠y.1
 chg:BK y.2.op=true->W x.1 y.1=true
 dst:∀d,x.2.dst=some d->y.2.dst≠some d
 reads:∀d,x.2.dst=some d->d∈y.2.names->W x.1 y.1=true
 writes:∀d,y.2.dst=some d->d∈x.2.names->W x.1 y.1=true
section
variable {W:Nat->Nat->Bool}
theorem any_beq {l:List Nat} {d:Nat}:l.any (Nat.beq d)=true↔d∈l:=by
 rw [List.any_eq_true]
 constructor
 ·rintro ⟨x,hx,e⟩
  rw [Ao.1 e];exact hx
 ·intro h
  exact ⟨d,h,Ao.2 rfl⟩
theorem T3 {x y:Nat×Step} (h:VA W x y=true):Xp W x y:=by
 unfold VA at h
 rw [aT,aT,aT]at h
 obtain ⟨⟨⟨A,z⟩,j⟩,q⟩:=h
 refine ⟨fun e=>?_,fun B=>?_,fun d hd C=>?_,fun d hd v=>?_,fun d hd v=>?_⟩
 ·rw [Ao.2 e]at A;cases A
 ·rw [B]at z;simpa using z
 ·rw [hd,C]at j
  simp only [aT]at j
  rw [Ao.2 rfl]at j
  simp at j
 ·rw [hd]at j
  simp only [aT,Bool.or_eq_true]at j
  rcases j.2 with h|h
  ·rw [any_beq.2 v]at h;cases h
  ·exact h
 ·rw [hd]at q
  simp only [Bool.or_eq_true]at q
  rcases q with h|h
  ·rw [any_beq.2 v]at h;cases h
  ·exact h
structure OkD (W:Nat->Nat->Bool) (x:Nat×Step) (r:List (Nat×Step)):Prop where
 self:∀d,x.2.dst=some d->d∉x.2.names
 apart:∀y∈r,Xp W x y
 back:BK x.2.op=true->N4 W x.1 r 0=true
 rest:okD W r=true
theorem EP {x:Nat×Step} {r:List (Nat×Step)} (h:okD W (x::r)=true):OkD W x r:=by
 simp only [okD,aT]at h
 obtain ⟨j,A,q,B⟩:=h
 refine ⟨fun d hd C=>?_,fun y z=>T3 (List.all_eq_true.1 A y z),fun v=>?_,B⟩
 ·unfold Aek at j
  rw [hd]at j
  simp only at j
  rw [any_beq.2 C]at j
  cases j
 ·rw [v]at q;simpa using q
def muts (l:List (Nat×Step)):Nat:=l.countP fun x=>BK x.2.op
theorem Jb {x:Nat}:∀{pre post:List (Nat×Step)} {y:Nat×Step} {k:Nat},N4 W x (pre++y::post) k=true->BK y.2.op=false->W x y.1=false->k+muts pre<y.2.back
 |[],post,y,k,h,hm,hw=>by
  simp only [List.nil_append,N4,hm,Bool.false_eq_true,if_false,aT,Bool.or_eq_true,hw,or_false]at h
  have:=AL.1 h.1
  simp only [muts,List.countP_nil]
  omega
 |z::pre,post,y,k,h,hm,hw=>by
  simp only [List.cons_append,N4]at h
  cases hz:BK z.2.op with
  |true=>
   rw [hz]at h
   simp only [if_true]at h
   have:=Jb h hm hw
   simp only [muts,List.countP_cons,hz,if_true]at this⊢
   omega
  |false=>
   rw [hz]at h
   simp only [Bool.false_eq_true,if_false,aT]at h
   have:=Jb h.2 hm hw
   simp only [muts,List.countP_cons,hz]at this⊢
   simpa using this
theorem Ln (s:Step) (r:List Step) (k:Nat):KJ (s::r) k=bif BK s.op then KJ r (k+1)else Nat.ble s.back k&&KJ r k:=rfl
theorem HG:∀{pre post:List (Nat×Step)} {y:Nat×Step} {k:Nat},KJ ((pre++y::post).map (·.2)) k=true->BK y.2.op=false->y.2.back<=k+muts pre
 |[],post,y,k,h,hm=>by
  simp only [List.nil_append,List.map_cons,Ln,hm,cond_false,aT]at h
  have:=AL.1 h.1
  simp only [muts,List.countP_nil]
  omega
 |z::pre,post,y,k,h,hm=>by
  simp only [List.cons_append,List.map_cons,Ln]at h
  cases hz:BK z.2.op with
  |true=>
   rw [hz]at h
   simp only [cond_true]at h
   have:=HG h hm
   simp only [muts,List.countP_cons,hz,if_true]at this⊢
   omega
  |false=>
   rw [hz]at h
   simp only [cond_false,aT]at h
   have:=HG h.2 hm
   simp only [muts,List.countP_cons,hz]at this⊢
   simpa using this
end
theorem DY:∀{r:List Item} {g j:Nat->Option Aa} {t:Nat},g t=j t->Gp r g t=Gp r j t
 |[],_,_,_,h=>h
 |x::r,g,j,t,h=>by
  simp only [Gp]
  cases x.e with
  |none=>exact DY h
  |some u=>
   dsimp only
   split
   ·rfl
   ·exact DY h
theorem D8:∀{r:List Item} {g:Nat->Option Aa} {t:Nat},(∀z∈r,z.e≠none->z.s.dst≠some t)->Gp r g t=g t
 |[],_,_,_=>rfl
 |x::r,g,t,h=>by
  simp only [Gp]
  have ih:=D8 (g:=g) fun z j=>h z (List.mem_cons_of_mem _ j)
  cases hx:x.e with
  |none=>exact ih
  |some u=>
   dsimp only
   rw [if_neg (h x List.mem_cons_self (by rw [hx];simp))]
   exact ih
theorem DH (tm:Tr Aa) (d:Option Nat) (v:Aa) (t:Nat):(DI tm d v).get t=if d=some t then some v else tm.get t:=by
 cases d with
 |none=>simp [DI]
 |some d=>
  simp only [DI,Tr.Bb,oI]
  by_cases h:t=d
  ·rw [if_pos h,if_pos h.symm]
  ·rw [if_neg h,if_neg (Ne.symm h)]
theorem Ek (h:Ak) (id:Nat) (B:Option Block) (b:Nat):(Ge h id B).get b=match B with|some B=>if b=id then some B else h.get b|none=>h.get b:=by
 cases B with
 |none=>rfl
 |some B=>exact Tr.Bb _ _ _ _
theorem EH (h:Ak) (id:Nat) (B:Option Block):(Ge h id B).next=h.next:=by cases B<;>rfl
theorem Gq:∀{r:List Item} {id:Nat} {g j:Nat->Option Block} {b:Nat},g b=j b->Er r id g b=Er r id j b
 |[],_,_,_,_,h=>h
 |x::r,id,g,j,b,h=>by
  simp only [Er]
  split
  ·split
   ·rfl
   ·exact Gq h
  ·exact Gq h
theorem IS:∀{r:List Item} {id:Nat} {g:Nat->Option Block} {b:Nat},b<id->Er r id g b=g b
 |[],_,_,_,_=>rfl
 |x::r,id,g,b,h=>by
  simp only [Er]
  split
  ·rw [if_neg (by omega)]
   exact IS (by omega)
  ·exact IS (by omega)
theorem IQ:∀{r:List Item} {id:Nat} {g:Nat->Option Block} {b:Nat} {B:Block},Er r id g b=some B->g b=some B∨∃k x v,r[k]?=some x/\x.e=some (v,some B)/\b=id+k
 |[],_,_,_,_,h=>.inl h
 |x::r,id,g,b,B,h=>by
  simp only [Er]at h
  split at h
  ·rename_i v q j
   split at h
   ·rename_i e
    simp only [oI]at h
    subst h
    exact .inr ⟨0,x,v,rfl,j,e⟩
   ·rcases IQ h with h|⟨k,y,v,h1,h2,h3⟩
    ·exact .inl h
    ·exact .inr ⟨k+1,y,v,by simpa using h1,h2,by omega⟩
  ·rcases IQ h with h|⟨k,y,v,h1,h2,h3⟩
   ·exact .inl h
   ·exact .inr ⟨k+1,y,v,by simpa using h1,h2,by omega⟩
theorem Rq:∀{r:List Item} {id:Nat} {g:Nat->Option Block} {k:Nat} {x:Item} {v:Aa} {B:Block},r[k]?=some x->x.e=some (v,some B)->Er r id g (id+k)=some B
 |[],_,_,_,_,_,_,h,_=>by simp at h
 |y::r,id,g,0,x,v,B,h,hx=>by
  simp only [List.getElem?_cons_zero,oI]at h
  subst h
  simp [Er,hx]
 |y::r,id,g,k+1,x,v,B,h,hx=>by
  have ih:=Rq (id:=id+1) (g:=g) (by simpa using h) hx
  rw [show id+1+k=id+(k+1)from by omega]at ih
  simp only [Er]
  split
  ·rw [if_neg (by omega)];exact ih
  ·exact ih
theorem MU:∀{r:List Item} {id:Nat} {g:Nat->Option Block} {b:Nat},(∀k x v B,r[k]?=some x->x.e=some (v,some B)->b≠id+k)->Er r id g b=g b:=fun {r id g b} h=>by
 induction r generalizing id with
 |nil=>rfl
 |cons x r ih=>
  have ih:=ih (id:=id+1) fun k y v B q j=>by
   have:=h (k+1) y v B (by simpa using q) j
   omega
  simp only [Er]
  split
  ·rename_i v B z
   rw [if_neg (by simpa using h 0 x v B rfl z)]
   exact ih
  ·exact ih
section
variable {Γ:Ap} {call:Cl} {all:List Step}
theorem Gt (s:Step) (r:List Step) (id:Nat) (f:Fr) (hs:List Ak):Ll Γ call all (s::r) id f hs=
  bif L5 Γ s f hs then AA (Iv Γ call s id f) fun x=>SU all r x fun j=>Ll Γ call all r (id+1) j (bif BK s.op then f.h::hs else Mg id (Lc f.h j.h id) hs)else none:=rfl
theorem X1 {id:Nat} {B:Option Block}:∀{hs:List Ak} {n:Nat} {j:Ak},hs[n]?=some j->(Mg id B hs)[n]?=some (Ge j id B):=by
 cases B with
 |none=>intro hs n j h;exact h
 |some B=>
  intro hs
  induction hs with
  |nil=>intro n j h;simp at h
  |cons x r ih=>
   intro n j h
   have e:Mg id (some B) (x::r)=Ge x id (some B)::Mg id (some B) r:=rfl
   rw [e]
   cases n with
   |zero=>simp only [List.getElem?_cons_zero,oI]at h⊢;rw [h]
   |succ n=>rw [List.getElem?_cons_succ]at h⊢;exact ih h
theorem HU {s:Step} {id:Nat} {f:Fr} (j:BK s.op=false) {x:Cb} (h:Iv Γ call s id f=some x):∃u,Hz Γ f.tm f.h id s=some u/\x=.go ⟨DI f.tm s.dst u.1,Ge f.h id u.2,f.df⟩:=by
 unfold Iv at h
 rw [j]at h
 obtain ⟨u,q,h⟩:=Ac h
 simp only [oI]at h
 exact ⟨u,q,h.symm⟩
theorem Jl {s:Step} {id:Nat} {f:Fr} (j:BK s.op=false) {u:Aa×Option Block} (h:Hz Γ f.tm f.h id s=some u):Iv Γ call s id f=some (.go ⟨DI f.tm s.dst u.1,Ge f.h id u.2,f.df⟩):=by
 unfold Iv
 rw [j,h]
 rfl
theorem O5 {s:Step} {id:Nat} {f:Fr} (j:BK s.op=true):Iv Γ call s id f=Iw Γ call s f:=by
 unfold Iv
 rw [j]
 rfl
theorem ZV {s:Step} {f j:Fr} (h:Iw Γ call s f=some (.go j)):∃v,j.tm=DI f.tm s.dst v:=by
 unfold Iw at h
 obtain ⟨b,hb,h⟩:=Ac h
 cases b with
 |false=>
  simp only [cond_false,Ya,oI,Cb.go.injEq]at h
  exact ⟨_,by subst h;rfl⟩
 |true=>
  simp only [cond_true]at h
  unfold Wp at h
  split at h
  ·obtain ⟨v,_,h⟩:=Ac h
   simp only [Ya,oI,Cb.go.injEq]at h
   exact ⟨_,by subst h;rfl⟩
  ·obtain ⟨v,_,h⟩:=Ac h
   simp only [Ya,oI,Cb.go.injEq]at h
   exact ⟨_,by subst h;rfl⟩
  ·obtain ⟨v,_,h⟩:=Ac h
   simp only [K3,oI,Cb.go.injEq]at h
   exact ⟨_,by subst h;rfl⟩
  ·obtain ⟨r,_,h⟩:=Ac h
   obtain ⟨o,_,h⟩:=M4 h
   cases o with
   |val v h'=>
    simp only [Adv,K3,Cb.go.injEq]at h
    exact ⟨_,by subst h;rfl⟩
   |panic v h'=>simp only [Adv,reduceCtorEq]at h
   |defer g args=>
    simp only [Adv,Cb.go.injEq]at h
    exact ⟨_,by subst h;rfl⟩
theorem ZU {s:Step} {id:Nat} {f j:Fr} (h:Iv Γ call s id f=some (.go j)):∃v,j.tm=DI f.tm s.dst v:=by
 cases hm:BK s.op with
 |true=>rw [O5 hm]at h;exact ZV h
 |false=>
  obtain ⟨u,_,h⟩:=HU hm h
  simp only [Cb.go.injEq]at h
  exact ⟨_,by subst h;rfl⟩
theorem Vf {tm j:Tr Aa} {h:Ak} {id:Nat} {s:Step} (x:∀t∈s.names,tm.get t=j.get t):Hz Γ tm h id s=Hz Γ j h id s:=by
 have z:Dd tm s.guard=Dd j s.guard:=by
  unfold Dd
  cases hg:s.guard with
  |none=>rfl
  |some g=>
   dsimp only
   rw [x g.1 (by simp [Step.names,hg])]
 have q:DB tm j s.op.BU:=Fb fun t v=>x t (by
  unfold Step.names
  split
  ·exact List.mem_cons_of_mem _ v
  ·exact v)
 unfold Hz
 rw [z]
 congr 1
 funext w
 cases w with
 |false=>rfl
 |true=>
  simp only [cond_true]
  unfold Vg
  cases ho:s.op with
  |p o=>rw [ho]at q;simp only;rw [S6 q]
  |r o=>rw [ho]at q;simp only;rw [Fm q]
  |a o=>rw [ho]at q;simp only;rw [U9 q]
  |m o=>rfl
end
end
section
theorem Aa.AbZ {x y:Aa} (h:x.eqs y=true):x=y:=by
 unfold Aa.eqs at h
 split at h
 ·rw [Aa.Da h]
 ·rw [Aa.Da h]
 ·exact Aa.Dj h
section
variable {Γ:Ap} {call:Cl} {all:List Step} {W:Nat->Nat->Bool}
theorem Lw {Γ:Ap} {tm:Tr Aa} {o:NJ} {v:Aa}:∀{k n:Nat} {hs:List Ak} {h:Ak},VB Γ tm o v k hs=true->n<k->hs[n]?=some h->Dn Γ tm h o=some v
 |0,_,_,_,_,hn,_=>by omega
 |k+1,n,[],h,ha,hn,hh=>by simp at hh
 |k+1,n,g::hs,h,ha,hn,hh=>by
  have ha:(AaL v (Dn Γ tm g o)&&VB Γ tm o v k hs)=true:=ha
  rw [aT]at ha
  cases n with
  |zero=>
   simp only [List.getElem?_cons_zero,oI]at hh
   subst hh
   have j:=ha.1
   unfold AaL at j
   split at j
   ·rename_i u q
    rw [q,Aa.AbZ j]
   ·cases j
  |succ n=>exact Lw (k:=k) (n:=n) ha.2 (Nat.lt_of_succ_lt_succ hn) (by simpa using hh)
theorem PG {Γ:Ap} {s:Step} {f:Fr} {hs:List Ak} {o:NJ} (z:s.op=.r o) (h:L5 Γ s f hs=true) (x:Dd f.tm s.guard=some true) {v:Aa} (A:Dn Γ f.tm f.h o=some v) {n:Nat} {j:Ak} (q:n<s.back) (B:hs[n]?=some j):Dn Γ f.tm j o=some v:=by
 unfold L5 at h
 cases hb:s.back with
 |zero=>omega
 |succ m=>
  rw [z,hb]at h
  simp only at h
  unfold VN at h
  rw [x]at h
  simp only [A]at h
  exact Lw (k:=m+1) h (by rw [hb]at q;exact q) B
def AcC (μ:As) (h:Ak) (f:Fr) (hs:List Ak) (pre:List Item) (back:Nat):Prop:=
 (∀b B,μ b≠none->f.h.get b=some B->h.get b=some B)∨
 ∃n j,hs[n]?=some j/\(∀b B,μ b≠none->j.get b=some B->h.get b=some B)/\n+muts (pre.map Item.pair)<back
theorem Ig:∀{l:List Item} {id:Nat} {f:Fr},(∀y∈l,y.e=none)->Y4 Γ call l id f
 |[],_,_,_=>trivial
 |z::_,_,_,h=>⟨fun _ e=>(by rw [h z (by simp)]at e;cases e),.inr fun w j=>h w (by simp [j])⟩
theorem early {μ:As} {tm:Tr Aa} {h:Ak} {res:Cb} {y:Item} {post:List Item} (hy:y.e=none) (I:BK y.s.op=false)
  (M:∀o,y.s.op=.r o->∀J:Ak,(∀b B,μ b≠none->J.get b=some B->h.get b=some B)->∀v,Dn Γ tm J o=some v->Dn Γ tm h o=some v):
  ∀(pre:List Item) {id:Nat} {f:Fr} {hs:List Ak},okD W ((pre++y::post).map Item.pair)=true->Clo W (pre++y::post)->(∀x∈pre++y::post,x.e≠none->BK x.s.op=false)->
   (∀x∈pre,x.e=none->W x.i y.i=false)->Ll Γ call all ((pre++y::post).map (·.s)) id f hs=some res->Y4 Γ call (pre++y::post) id f->
   (∀t∈y.s.names,tm.get t=Gp (pre++y::post) f.tm.get t)->AcC μ h f hs pre y.s.back->
   (∀(k:Nat) (x:Item) (v:Aa) (B:Block),pre[k]?=some x->x.e=some (v,some B)->h.get (id+k)=some B)->(∀(k:Nat) (x:Item),pre[k]?=some x->x.e=none->μ (id+k)=none)->
   ∃u,Hz Γ tm h (id+pre.length) y.s=some u/\Y4 Γ call (pre++{y with e:=some u}::post) id f
 |[],id,f,hs,hok,hclo,hflo,_,hd,hfut,ht,hsee,_,_=>by
  have V:=EP (x:=y.pair) (r:=post.map Item.pair) hok
  simp only [List.nil_append,List.map_cons,Gt]at hd
  obtain ⟨ae,hd⟩:=Aq hd
  obtain ⟨x,hx,hd⟩:=Ac hd
  obtain ⟨u,q,rfl⟩:=HU I hx
  have N:∀t∈y.s.names,tm.get t=f.tm.get t:=fun t Q=>by
   rw [ht t Q]
   simp only [List.nil_append,Gp,hy]
   refine D8 fun z H al X=>?_
   have U:=(V.apart z.pair (List.mem_map_of_mem H)).writes t X Q
   have R:=hclo.1 hy z H al
   simp only [Item.pair]at U
   rw [U]at R
   cases R
  refine ⟨u,?_,?_⟩
  ·rw [Vf N]at*
   simp only [lN,Nat.add_zero]
   cases hop:y.s.op with
   |m o=>rw [hop]at I;cases I
   |p o=>
    have:Hz Γ f.tm h id y.s=Hz Γ f.tm f.h id y.s:=by unfold Hz Vg;rw [hop]
    rw [this];exact q
   |a o=>
    have:Hz Γ f.tm h id y.s=Hz Γ f.tm f.h id y.s:=by unfold Hz Vg;rw [hop]
    rw [this];exact q
   |r o=>
    have az:=q
    unfold Hz at q⊢
    obtain ⟨b,hb,q⟩:=Ac q
    rw [hb]
    show (bif b then Vg Γ f.tm h id y.s.op else some (I7,none))=some u
    cases b with
    |false=>exact q
    |true=>
     simp only [cond_true]at q⊢
     rw [hop]at q⊢
     simp only [Vg]at q⊢
     obtain ⟨v,hv,q⟩:=Ac q
     simp only [oI]at q
     subst q
     have Y:DB tm f.tm o.BU:=Fb fun t Q=>N t (by
      unfold Step.names
      rw [hop]
      split
      ·exact List.mem_cons_of_mem _ Q
      ·exact Q)
     have aj:Dn Γ f.tm h o=some v:=by
      rw [<-Fm Y]
      rcases hsee with C|⟨n,J,hh,hs2,hlt⟩
      ·exact M o hop f.h C v (by rw [Fm Y];exact hv)
      ·refine M o hop J hs2 v ?_
       rw [Fm Y]
       exact PG hop ae hb hv (n:=n) (by omega) hh
     rw [aj]
     rfl
  ·refine ⟨fun u' e=>?_,hfut.2⟩
   simp only [oI]at e
   subst e
   exact q
 |x::pre,id,f,hs,hok,hclo,hflo,hW,hd,hfut,ht,hsee,hE,hN=>by
  have V:=EP (x:=x.pair) (r:=(pre++y::post).map Item.pair) hok
  have ai:y.pair∈(pre++y::post).map Item.pair:=List.mem_map_of_mem (by simp)
  have hA:=V.apart y.pair ai
  have aa:(pre++y::post).map Item.pair=pre.map Item.pair++y.pair::post.map Item.pair:=by simp
  simp only [List.cons_append,List.map_cons,Gt]at hd
  obtain ⟨ae,hd⟩:=Aq hd
  obtain ⟨r,P,hd⟩:=Ac hd
  have af:x.e=none->BK x.s.op=true->muts (pre.map Item.pair)<y.s.back:=fun A j=>by
   have hb:=V.back j
   rw [aa]at hb
   have:=Jb hb I (hW x (by simp) A)
   simp only [Item.pair]at this⊢
   omega
  have L:x.e≠none->BK x.s.op=false:=fun A=>hflo x (by simp) A
  cases r with
  |panic v f1=>
   exfalso
   have j:BK x.s.op=true:=by
    cases hb:BK x.s.op with
    |true=>rfl
    |false=>
     obtain ⟨u,_,e⟩:=HU hb P
     cases e
   have A:x.e=none:=by
    cases hb:x.e with
    |none=>rfl
    |some u=>rw [L (by rw [hb];simp)]at j;cases j
   simp only [SU]at hd
   obtain ⟨aq,_⟩:=Aq hd
   have ag:KJ ((pre.map Item.pair++y.pair::post.map Item.pair).map (·.2)) 0=true:=by
    rw [<-aa]
    rw [List.map_map]
    exact aq
   have U:=HG ag I
   have R:=af A j
   simp only [Item.pair]at U R
   omega
  |go f'=>
   simp only [SU]at hd
   obtain ⟨v,hv⟩:=ZU P
   have ac:Y4 Γ call (pre++y::post) (id+1) f':=by
    rcases hfut.2 with ⟨g,hg,hf⟩|hf
    ·rw [P]at hg
     simp only [oI,Cb.go.injEq]at hg
     subst hg
     exact hf
    ·exact Ig hf
   have ap:∀t∈y.s.names,tm.get t=Gp (pre++y::post) f'.tm.get t:=fun t Q=>by
    rw [ht t Q]
    simp only [List.cons_append,Gp]
    cases A:x.e with
    |none=>
     simp only
     refine DY ?_
     rw [hv,DH]
     rw [if_neg]
     intro hd
     have U:=hA.reads t hd Q
     have R:=hW x (by simp) A
     simp only [Item.pair]at U
     rw [U]at R
     cases R
    |some u=>
     simp only
     have j:=L (by rw [A];simp)
     have O:=hfut.1 u A
     rw [Jl j O]at P
     simp only [oI,Cb.go.injEq]at P
     subst P
     by_cases hd:x.s.dst=some t
     ·rw [if_pos hd,D8,DH,if_pos hd]
      intro z H _ X
      exact (V.apart z.pair (List.mem_map_of_mem H)).dst t hd X
     ·rw [if_neg hd]
      exact DY (by rw [DH,if_neg hd])
   have ab:AcC μ h f' (bif BK x.s.op then f.h::hs else Mg id (Lc f.h f'.h id) hs) pre y.s.back:=by
    cases j:BK x.s.op with
    |true=>
     have A:x.e=none:=by
      cases hb:x.e with
      |none=>rfl
      |some u=>rw [L (by rw [hb];simp)]at j;cases j
     rcases hsee with C|⟨n,J,hh,hs2,hlt⟩
     ·exact .inr ⟨0,f.h,rfl,C,by have:=af A j;omega⟩
     ·refine .inr ⟨n+1,J,by simpa using hh,hs2,?_⟩
      have:muts ((x::pre).map Item.pair)=muts (pre.map Item.pair)+1:=by
       simp only [muts,List.map_cons,List.countP_cons]
       simp only [Item.pair,j,if_true]
      omega
    |false=>
     simp only [cond_false]
     obtain ⟨u,q,e⟩:=HU j P
     simp only [Cb.go.injEq]at e
     have Z:∀g:Ak,(∀b B,μ b≠none->g.get b=some B->h.get b=some B)->∀b B,μ b≠none->(Ge g id u.2).get b=some B->h.get b=some B:=fun g C b B hb hB=>by
      simp only [Ek]at hB
      split at hB
      ·rename_i B' eB
       split at hB
       ·rename_i eb
        simp only [oI]at hB
        subst hB
        cases A:x.e with
        |none=>
         have:=hN 0 x rfl A
         rw [Nat.add_zero]at this
         rw [eb]at hb
         exact absurd this hb
        |some u'=>
         have O:=hfut.1 u' A
         rw [q]at O
         simp only [oI]at O
         subst O
         have:=hE 0 x u.1 B' rfl (by rw [A,<-eB])
         rw [eb];simpa using this
       ·exact C b B hb hB
      ·exact C b B hb hB
     have aA:muts ((x::pre).map Item.pair)=muts (pre.map Item.pair):=by
      simp only [muts,List.map_cons,List.countP_cons]
      simp only [Item.pair,j]
      simp
     rcases hsee with C|⟨n,J,hh,hs2,hlt⟩
     ·left
      rw [e]
      exact Z f.h C
     ·have ak:(Ge f.h id u.2).get id=match u.2 with|some B=>some B|none=>f.h.get id:=by rw [Ek];cases u.2<;>simp
      cases hg:f.h.get id with
      |some B0=>
       have I:Lc f.h f'.h id=none:=by unfold Lc;rw [hg]
       rw [I]
       exact .inr ⟨n,J,hh,hs2,by omega⟩
      |none=>
       have I:Lc f.h f'.h id=u.2:=by
        unfold Lc;rw [hg,e];show (Ge f.h id u.2).get id=u.2
        rw [ak,hg];cases u.2<;>rfl
       rw [I]
       exact .inr ⟨n,_,X1 hh,Z J hs2,by omega⟩
   obtain ⟨u,q,hF⟩:=early hy I M pre V.rest hclo.2 (fun z H=>hflo z (by simp only [List.cons_append,List.mem_cons];exact .inr H)) (fun z H=>hW z (by simp [H])) hd ac ap ab
    (fun k z v B H A=>by have:=hE (k+1) z v B (by simpa using H) A;rw [show id+(k+1)=id+1+k from by omega]at this;exact this)
    (fun k z H A=>by have:=hN (k+1) z (by simpa using H) A;rw [show id+(k+1)=id+1+k from by omega]at this;exact this)
   refine ⟨u,?_,hfut.1,.inl ⟨f',P,hF⟩⟩
   rw [lC,show id+(pre.length+1)=id+1+pre.length from by omega]
   exact q
end
end
section
section
variable {ρ:Env} {μ μ' μ0:As} {h h' h0 h1:Ak} {w w' w0:World}
theorem Av.sub (H:AI ρ μ h w) (q:h'.next=h.next) (j:h'.fx=h.fx) (hs:∀b B,h'.get b=some B->h.get b=some B):Av ρ μ h w μ h' w:=
 ⟨μ.le_refl,H.drop _ q j hs,Nat.le_refl _,fun r _ v=>⟨rfl,fun ⟨c,B,δ,hc,hm⟩=>v ⟨c,B,δ,hs c B hc,hm⟩⟩,rfl,rfl,Nat.le_of_eq q.symm,fun _ _=>rfl,fun _ _ h=>.inl h,j⟩
theorem Av.under (H:AI ρ μ h w) (hn:h0.next=h.next) (hs:∀b B,h0.get b=some B->h.get b=some B) (g:Av ρ μ h0 w μ' h1 w') (ah:h'.next=h1.next) (Q:h'.fx=h1.fx) (Z:h0.fx=h.fx)
  (N:∀b B,h'.get b=some B->h1.get b=some B∨(h.get b=some B/\h0.get b=none)):Av ρ μ h w μ' h' w':=by
 have un:∀{b B r δ},h.get b=some B->h0.get b=none->μ b=some (r,δ)->¬AJ μ h0 r:=fun {b B r δ} hb h0b j ⟨c,C,M,hc,hmc⟩=>by
  have:=H.inj _ _ _ _ _ _ _ (hs c C hc) hb hmc j
  subst this
  rw [h0b]at hc
  cases hc
 have old:∀{b B},h.get b=some B->h0.get b=none->∃r δ,μ b=some (r,δ)/\μ' b=some (r,δ)/\w'.heap[r]?=w.heap[r]?/\¬AJ μ' h1 r/\C4 ρ μ B w.heap[r]? δ:=fun {b B} hb h0b=>by
  obtain ⟨r,δ,j,hB⟩:=H.blk b B hb
  obtain ⟨R,Y⟩:=g.kept r (H.lt hb j) (un hb h0b j)
  exact ⟨r,δ,j,g.le.to _ _ j,R,Y,hB⟩
 have L:∀r,r<w.heap.size->¬AJ μ h r->w'.heap[r]?=w.heap[r]?/\¬AJ μ' h' r:=fun r hr ho=>by
  have x:¬AJ μ h0 r:=fun ⟨c,C,δ,hc,j⟩=>ho ⟨c,C,δ,hs c C hc,j⟩
  obtain ⟨R,Y⟩:=g.kept r hr x
  refine ⟨R,?_⟩
  rintro ⟨b,B,δ,hb,j⟩
  rcases N b B hb with h1b|⟨hb',h0b⟩
  ·exact Y ⟨b,B,δ,h1b,j⟩
  ·obtain ⟨U,M,q,v,_⟩:=old hb' h0b
   rw [v]at j
   simp only [oI,Prod.mk.injEq]at j
   obtain ⟨rfl,_⟩:=j
   exact ho ⟨b,B,M,hb',q⟩
 have X:∀k o,μ'.AU k=some o->μ.AU k=some o∨AJ μ h k∨w.heap.size<=k:=fun k o A=>by
  rcases g.icy k o A with h1|⟨c,C,δ,hc,j⟩|h1
  ·exact .inl h1
  ·exact .inr (.inl ⟨c,C,δ,hs c C hc,j⟩)
  ·exact .inr (.inr h1)
 have P:Y6 ρ μ' h' w':=by
  refine ⟨fun k o A=>?_,fun k o A=>?_,Q▸g.rel.AO.facts⟩
  ·obtain ⟨O,q2⟩:=H.AO.AO k o A
   obtain ⟨q3,q4⟩:=L k (Array.getElem?_eq_some_iff.1 O).1 q2
   exact ⟨q3.trans O,q4⟩
  ·obtain ⟨O,q2⟩:=g.rel.AO.AU k o A
   refine ⟨O,?_⟩
   rintro ⟨b,B,δ,hb,j⟩
   rcases N b B hb with h1b|⟨hb',h0b⟩
   ·exact q2 ⟨b,B,δ,h1b,j⟩
   ·obtain ⟨U,M,q,v,_⟩:=old hb' h0b
    rw [v]at j
    simp only [oI,Prod.mk.injEq]at j
    obtain ⟨rfl,_⟩:=j
    rcases g.icy _ o A with i1|i1|i1
    ·exact (H.AO.AU _ o i1).2 ⟨b,B,M,hb',q⟩
    ·exact un hb' h0b q i1
    ·have:=H.lt hb' q;omega
 refine ⟨g.le,⟨fun b hb=>g.rel.fresh b (by omega),fun b B hb=>?_,fun b c B C r δ M hb hc I J=>?_,P⟩,g.size,L,g.os,g.output,by have:=g.next;omega,fun b hb=>g.old b (by omega),X,by rw [Q,g.fx,Z]⟩
 ·rcases N b B hb with h1b|⟨hb',h0b⟩
  ·exact g.rel.blk b B h1b
  ·obtain ⟨r,δ,_,z,A,_,hB⟩:=old hb' h0b
   exact ⟨r,δ,z,by rw [A];exact hB.mono g.le⟩
 ·rcases N b B hb with h1b|⟨hb',h0b⟩<;>rcases N c C hc with h1c|⟨hc',h0c⟩
  ·exact g.rel.inj _ _ _ _ _ _ _ h1b h1c I J
  ·obtain ⟨U,δ2,_,z,_,x,_⟩:=old hc' h0c
   rw [z]at J
   simp only [oI,Prod.mk.injEq]at J
   obtain ⟨rfl,_⟩:=J
   exact absurd ⟨b,B,δ,h1b,I⟩ x
  ·obtain ⟨U,δ2,_,z,_,x,_⟩:=old hb' h0b
   rw [z]at I
   simp only [oI,Prod.mk.injEq]at I
   obtain ⟨rfl,_⟩:=I
   exact absurd ⟨c,C,M,h1c,J⟩ x
  ·obtain ⟨r1,δ1,q,v,_⟩:=old hb' h0b
   obtain ⟨r2,δ2,ac,V,_⟩:=old hc' h0c
   rw [v]at I
   rw [V]at J
   simp only [oI,Prod.mk.injEq]at I J
   obtain ⟨rfl,rfl⟩:=I
   obtain ⟨rfl,rfl⟩:=J
   exact H.inj _ _ _ _ _ _ _ hb' hc' q ac
theorem Av.Amm (g:Av ρ μ0 h0 w0 μ h w) {id:Nat} (Q:h0.next<=id) (I:μ id=none) (O:id<h.next) (B:Block) (o:Obj) (δ:Nat×Nat)
  (hB:∀μ':As,μ.le μ'->C4 ρ μ' B (some o) δ):Av ρ μ0 h0 w0 (μ.put id (w.heap.size,δ)) (Ge h id (some B)) (w.alloc o):=by
 have H:=g.rel
 have A:μ.le (μ.put id (w.heap.size,δ)):=As.QM I
 have x:∀b q r v,(Ge h id (some B)).get b=some q->μ.put id (w.heap.size,δ) b=some (r,v)->(b=id/\r=w.heap.size)∨(h.get b=some q/\μ b=some (r,v)/\r<w.heap.size):=fun b q r v hb j=>by
  rw [Ek]at hb
  by_cases e:b=id
  ·subst e
   rw [As.BD]at j
   simp only [oI,Prod.mk.injEq]at j
   exact .inl ⟨rfl,j.1.symm⟩
  ·simp only [if_neg e]at hb
   rw [As.BZ _ _ e]at j
   exact .inr ⟨hb,j,H.lt hb j⟩
 have P:(w.alloc o).heap.size=w.heap.size+1:=by show (w.heap.push o).size=_;simp
 refine ⟨As.le_trans g.le A,⟨fun b hb=>?_,fun b q hb=>?_,fun b V X Y r U R h1 L m1 m2=>?_,H.Ga (fun r z C=>⟨World.Ds _ _ z,?_⟩)⟩,by have:=g.size;omega,fun r z C=>?_,g.os,g.output,by rw [EH];exact g.next,fun b hb=>?_,fun k o M=>g.icy k o M,g.fx⟩
 ·rw [EH]at hb
  rw [As.BZ _ _ (by omega)]
  exact H.fresh b hb
 ·rw [Ek]at hb
  by_cases e:b=id
  ·subst e
   simp only [if_true,oI]at hb
   subst hb
   exact ⟨_,_,As.BD _ _ _,by rw [World.heap_alloc_new];exact hB _ A⟩
  ·simp only [if_neg e]at hb
   obtain ⟨r,v,j,z⟩:=H.blk b q hb
   exact ⟨r,v,by rw [As.BZ _ _ e];exact j,by rw [World.Ds _ _ (H.lt hb j)];exact z.mono A⟩
 ·rcases x _ _ _ _ h1 m1 with ⟨e1,e2⟩|⟨g1,n1,l1⟩<;>rcases x _ _ _ _ L m2 with ⟨e3,e4⟩|⟨g2,n2,l2⟩
  ·rw [e1,e3]
  ·omega
  ·omega
  ·exact H.inj _ _ _ _ _ _ _ g1 g2 n1 n2
 ·rintro ⟨b,q,v,hb,j⟩
  rcases x _ _ _ _ hb j with ⟨_,e⟩|⟨g1,n1,_⟩
  ·omega
  ·exact C ⟨b,q,v,g1,n1⟩
 ·obtain ⟨J,N⟩:=g.kept r z C
  have:=g.size
  refine ⟨by rw [World.Ds _ _ (by omega)];exact J,?_⟩
  rintro ⟨b,q,v,hb,j⟩
  rcases x _ _ _ _ hb j with ⟨_,e⟩|⟨g1,n1,_⟩
  ·omega
  ·exact N ⟨b,q,v,g1,n1⟩
 ·rw [As.BZ _ _ (by omega)]
  exact g.old b hb
theorem Av.reserve (H:AI ρ μ h w) (n:Nat):Av ρ μ h w μ ⟨h.DD,h.next+n,h.fx⟩ w:=
 ⟨μ.le_refl,⟨fun b hb=>H.fresh b (by have:h.next+n<=b:=hb;omega),H.blk,H.inj,H.AO.of (fun _ _ j=>⟨rfl,j⟩) rfl rfl⟩,Nat.le_refl _,fun _ _ j=>⟨rfl,j⟩,rfl,rfl,Nat.le_add_right _ _,fun _ _=>rfl,fun _ _ h=>.inl h,rfl⟩
end
section
variable {P:Program} {Γ:Ap} {ρ:Env} {μ:As} {tm:Tr Aa} {a:Act} {w:World} {h:Ak} {pl:List Co} {nt:Nat} {ops:Array Oper} {call:Cl}
theorem Ye (hΓ:Γ.AG ρ) (J:AT ρ μ tm a) (R:nt<=a.tmps.size) (H:AI ρ μ h w) {o:Oper} {s:Step} {i:Nat} (U:ops[i]?=some o) (hs:NA P pl nt ops o s) {id:Nat} {u:Aa×Option Block}
  (j:Hz Γ tm h id s=some u) {K:Act->World->Prop} {Q:Exit->Act->World->Prop} (L:u.2=none->∀v,Ag ρ μ u.1 v->K (a.put s.dst v) w)
  (N:∀B,u.2=some B->∀M m v,(∀μ':As,μ.le μ'->C4 ρ μ' B (some M) (0,m))->(∀μ':As,μ.le μ'->μ' id=some (w.heap.size,0,m)->Ag ρ μ' u.1 v)->K (a.put s.dst v) (w.alloc M)):wpOp P ops Q i K a w:=by
 refine Ka U ?_
 unfold Hz at j
 obtain ⟨b,hb,j⟩:=Ac j
 rw [E8 J hs.guard (fun d b e=>Nat.lt_of_lt_of_le (hs.seen d b e) R) hb]
 rw [hs.dst]at L N
 cases b with
 |false=>
  simp only [cond_false,oI]at j
  subst j
  simp only [Bool.false_eq_true,if_false]
  exact L rfl _ I6
 |true=>
  simp only [cond_true]at j
  simp only [if_true]
  have z:=hs.op
  unfold Vg at j
  split at j
  ·rename_i q C
   rw [C]at z
   obtain ⟨v,I,j⟩:=Ac j
   simp only [oI]at j
   subst j
   obtain ⟨O,x,A⟩:=Ms (w:=w) hΓ J z I
   unfold Oper.wp
   rw [x]
   exact L rfl _ A
  ·rename_i q C
   rw [C]at z
   obtain ⟨v,I,j⟩:=Ac j
   simp only [oI]at j
   subst j
   obtain ⟨O,x,A⟩:=Mq hΓ H J z I
   unfold Oper.wp
   rw [x]
   exact L rfl _ A
  ·rename_i q C
   rw [C]at z
   obtain ⟨⟨B,v⟩,I,j⟩:=Ac j
   simp only [oI]at j
   subst j
   obtain ⟨M,O,x,m,hB,A⟩:=ON (w:=w) J z I
   unfold Oper.wp
   rw [x]
   exact N B rfl M m O hB A
  ·cases j
theorem HE {q:Array Bool} {j:Nat} (B:j∈Region.ready .any ops q):∀e∈CO ops j,q.getD e false=true:=fun e v=>by
 obtain ⟨_,o,A,z⟩:=mem_ready.1 B
 unfold CO at v
 rw [A]at v
 simp only [List.mem_map,List.mem_filter]at v
 obtain ⟨x,⟨C,hb⟩,rfl⟩:=v
 exact z x (Array.mem_toList_iff.1 C) hb
theorem Mo {q:Array Bool} {j:Nat} {o:Oper} (v:ops[j]?=some o) (hl:q.getD j true=false) (h:∀e∈CO ops j,q.getD e false=true):j∈Region.ready .any ops q:=
 mem_ready.2 ⟨hl,o,v,fun e x hb=>h e.on (by
  unfold CO
  rw [v]
  simp only [List.mem_map,List.mem_filter]
  exact ⟨e,⟨Array.mem_toList_iff.2 x,hb⟩,rfl⟩)⟩
theorem Jf {before:List Nat} (B:I4 ops before=true) {q:Array Bool} (hc:∀j,q.getD j false=true->∀e∈CO ops j,q.getD e false=true):
  ∀(n j:Nat),j<n->j<ops.size->(∀e∈CO ops j,q.getD e false=true)->∀i,i<ops.size->waits before i j=true->q.getD i false=true
 |0,_,hj,_,_,_,_,_=>by omega
 |n+1,j,hj,hjs,hl,i,hi,hw=>by
  unfold I4 at B
  have h1:=List.all_eq_true.1 B j (List.mem_range.2 hjs)
  have A:=List.all_eq_true.1 h1 i (List.mem_range.2 hi)
  rw [hw]at A
  simp only [Bool.not_true,Bool.false_or,List.any_eq_true,aT,Bool.or_eq_true]at A
  obtain ⟨e,C,x,v⟩:=A
  have x:e<j:=AL.1 x
  have z:=hl e C
  rcases v with v|v
  ·rw [<-Ao.1 v];exact z
  ·exact Jf B hc n e (by omega) (by omega) (hc e z) i hi v
end
end
section
section
variable {P:Program} {Γ:Ap} {ρ:Env} {μ:As} {tm:Tr Aa} {a:Act} {w:World} {h:Ak} {pl:List Co} {nt:Nat} {ops:Array Oper} {call:Cl} {all:List Step} {W:Nat->Nat->Bool} {before:List Nat}
 {res:Cb} {μ0:As} {h0:Ak} {w0:World}
structure GO (P:Program) (Γ:Ap) (ρ:Env) (call:Cl) (pl:List Co) (nt:Nat) (ops:Array Oper) (W:Nat->Nat->Bool) (all:List Step) (res:Cb) (μ0:As) (h0:Ak) (w0:World)
  (q:List Item) (id:Nat) (f:Fr) (hs:List Ak) (listed:Array Bool) (μ:As) (tm:Tr Aa) (h:Ak) (a:Act) (w:World):Prop where
 ok:okD W (q.map Item.pair)=true
 src:∀x∈q,∃o,ops[x.i]?=some o/\NA P pl nt ops o x.s
 sub:∀x∈q,x.s∈all
 clo:Clo W q
 flo:∀x∈q,x.e≠none->BK x.s.op=false
 run:Ll Γ call all (q.map (·.s)) id f hs=some res
 fut:Y4 Γ call q id f
 tmps:∀t,tm.get t=Gp q f.tm.get t
 tr:AT ρ μ tm a
 size:nt<=a.tmps.size
 mem:∀b,h.get b=Er q id f.h.get b
 next:h.next=f.h.next
 Fv:Av ρ μ0 h0 w0 μ h w
 low:h0.next<=id
 high:id+q.length<=f.h.next
 free:∀k,k<q.length->f.h.get (id+k)=none
 unb:∀k x,q[k]?=some x->(∀v B,x.e≠some (v,some B))->μ (id+k)=none
 defs:C2 ρ μ f.df a.defers
 lsize:listed.size=ops.size
 lst:∀i,i<ops.size->(listed.getD i true=false↔∃x∈q,x.i=i/\x.e=none)
 closed:∀j,listed.getD j false=true->∀e∈CO ops j,listed.getD e false=true
 lin:XV ops (q.map (·.i))=true
 fx:h.fx=f.h.fx
theorem Wt (h:Ak) (id:Nat) (b:Option Block):(Ge h id b).fx=h.fx:=by cases b<;>rfl
theorem Kx {i:Nat} {r:List Nat} (h:XV ops (i::r)=true):(∀e∈CO ops i,e<i/\e∉r)/\XV ops r=true:=by
 simp only [XV,aT,List.all_eq_true]at h
 refine ⟨fun e q=>?_,h.2⟩
 have j:=h.1 e q
 refine ⟨AL.1 j.1,fun v=>?_⟩
 have:r.any (Nat.beq e)=true:=any_beq.2 v
 rw [this]at j;simp at j
theorem GO.skip {x:Item} {r:List Item} {id:Nat} {f:Fr} {hs:List Ak} {A:Array Bool} (D:GO P Γ ρ call pl nt ops W all res μ0 h0 w0 (x::r) id f hs A μ tm h a w) {u:Aa×Option Block} (C:x.e=some u):
  ∃Q J,GO P Γ ρ call pl nt ops W all res μ0 h0 w0 r (id+1) Q J A μ tm h a w:=by
 have M:=EP (x:=x.pair) (r:=r.map Item.pair) D.ok
 have N:=D.flo x (by simp) (by rw [C];simp)
 have R:=D.fut.1 u C
 have I:=Jl (call:=call) N R
 have j:=D.run
 simp only [List.map_cons,Gt]at j
 obtain ⟨_,j⟩:=Aq j
 rw [I]at j
 have j:Ll Γ call all (r.map (·.s)) (id+1) ⟨DI f.tm x.s.dst u.1,Ge f.h id u.2,f.df⟩ (bif BK x.s.op then f.h::hs else Mg id (Lc f.h (Ge f.h id u.2) id) hs)=some res:=j
 rw [N]at j
 have H:∀b,b≠id->(Ge f.h id u.2).get b=f.h.get b:=fun b hb=>by
  rw [Ek]
  split
  ·rw [if_neg hb]
  ·rfl
 have O:=D.high
 simp only [lC]at O
 refine ⟨_,_,⟨M.rest,fun z q=>D.src z (by simp [q]),fun z q=>D.sub z (by simp [q]),D.clo.2,fun z q=>D.flo z (by simp [q]),j,?_,fun t=>?_,D.tr,D.size,fun b=>?_,?_,D.Fv,?_,?_,fun k X=>?_,fun k z q V=>?_,D.defs,D.lsize,fun i U=>?_,D.closed,(Kx D.lin).2,by rw [D.fx];exact (Wt _ _ _).symm⟩⟩
 ·rcases D.fut.2 with ⟨g,hg,hf⟩|hf
  ·rw [I]at hg
   simp only [oI,Cb.go.injEq]at hg
   subst hg
   exact hf
  ·exact Ig hf
 ·rw [D.tmps t]
  simp only [Gp,C]
  by_cases hd:x.s.dst=some t
  ·rw [if_pos hd,D8,DH,if_pos hd]
   intro z q _ L
   exact (M.apart z.pair (List.mem_map_of_mem q)).dst t hd L
  ·rw [if_neg hd]
   exact DY (by rw [DH,if_neg hd])
 ·rw [D.mem b]
  obtain ⟨v,B⟩:=u
  simp only [Er,C]
  cases B with
  |none=>simp only;exact Gq rfl
  |some B=>
   simp only
   by_cases hb:b=id
   ·rw [if_pos hb,IS (by omega),Ek]
    simp [hb]
   ·rw [if_neg hb]
    exact Gq (H b hb).symm
 ·rw [D.next];exact (EH _ _ _).symm
 ·have:=D.low;omega
 ·show id+1+r.length<=(Ge f.h id u.2).next
  rw [EH];omega
 ·show (Ge f.h id u.2).get (id+1+k)=none
  rw [H _ (by omega)]
  have:=D.free (k+1) (by simp;omega)
  rw [show id+1+k=id+(k+1)from by omega];exact this
 ·have:=D.unb (k+1) z (by simpa using q) V
  rw [show id+1+k=id+(k+1)from by omega];exact this
 ·rw [D.lst i U]
  constructor
  ·rintro ⟨z,q,e1,e2⟩
   simp only [List.mem_cons]at q
   rcases q with rfl|q
   ·rw [C]at e2;cases e2
   ·exact ⟨z,q,e1,e2⟩
  ·rintro ⟨z,q,e1,e2⟩
   exact ⟨z,by simp [q],e1,e2⟩
theorem Wy:∀{pre:List Item} {y:Item} {post:List Item},okD W ((pre++y::post).map Item.pair)=true->(∀x∈pre,Xp W x.pair y.pair)/\∀z∈post,Xp W y.pair z.pair
 |[],y,post,h=>⟨fun _ B=>(by cases B),fun z j=>(EP (x:=y.pair) (r:=post.map Item.pair) h).apart z.pair (List.mem_map_of_mem j)⟩
 |x::pre,y,post,h=>by
  have q:=EP (x:=x.pair) (r:=(pre++y::post).map Item.pair) h
  obtain ⟨A,v⟩:=Wy (pre:=pre) q.rest
  refine ⟨fun z j=>?_,v⟩
  simp only [List.mem_cons]at j
  rcases j with rfl|j
  ·exact q.apart y.pair (List.mem_map_of_mem (by simp))
  ·exact A z j
theorem Td {g:Nat->Option Aa} {u:Aa×Option Block} {y:Item} {post:List Item} (j:y.e=none) {t:Nat}:∀{pre:List Item},(∀x∈pre,x.e≠none->x.s.dst=some t->y.s.dst≠some t)->
  Gp (pre++{y with e:=some u}::post) g t=if y.s.dst=some t then some u.1 else Gp (pre++y::post) g t
 |[],_=>by simp [Gp,j]
 |x::pre,h=>by
  have ih:=Td (g:=g) (u:=u) (y:=y) (post:=post) j (t:=t) (pre:=pre) fun z q=>h z (by simp [q])
  simp only [List.cons_append,Gp]
  cases hx:x.e with
  |none=>exact ih
  |some v=>
   simp only
   rw [ih]
   by_cases h1:x.s.dst=some t
   ·rw [if_pos h1,if_pos h1,if_neg (h x (by simp) (by rw [hx];simp) h1)]
   ·rw [if_neg h1,if_neg h1]
theorem MV {g:Nat->Option Block} {v:Aa} {oB:Option Block} {y:Item} {post:List Item} (j:y.e=none) {b:Nat}:∀{pre:List Item} {id:Nat},
  Er (pre++{y with e:=some (v,oB)}::post) id g b=match oB with|some B=>if b=id+pre.length then some B else Er (pre++y::post) id g b|none=>Er (pre++y::post) id g b
 |[],id=>by cases oB<;>simp [Er,j]
 |x::pre,id=>by
  have ih:=MV (g:=g) (v:=v) (oB:=oB) (y:=y) (post:=post) j (b:=b) (pre:=pre) (id:=id+1)
  simp only [List.cons_append,Er,lC]
  rw [ih]
  cases oB with
  |none=>rfl
  |some B=>
   simp only
   rw [show id+1+pre.length=id+(pre.length+1)from by omega]
   by_cases hb:b=id+(pre.length+1)
   ·rw [if_pos hb,if_pos hb]
    split
    ·rw [if_neg (by omega)]
    ·rfl
   ·rw [if_neg hb,if_neg hb]
theorem WZ {y:Item} {post:List Item} {u:Aa×Option Block}:∀{pre:List Item},Clo W (pre++y::post)->(∀x∈pre,x.e=none->W x.i y.i=false)->Clo W (pre++{y with e:=some u}::post)
 |[],h,_=>⟨fun e=>(by cases e),h.2⟩
 |x::pre,h,hW=>by
  refine ⟨fun v z j q=>?_,WZ h.2 fun z j=>hW z (by simp [j])⟩
  have j:z∈pre++{y with e:=some u}::post:=j
  simp only [List.mem_append,List.mem_cons]at j
  rcases j with j|rfl|j
  ·exact h.1 v z (by simp [j]) q
  ·exact hW x (by simp) v
  ·exact h.1 v z (by simp [j]) q
theorem GO.lt {q:List Item} {id:Nat} {f:Fr} {hs:List Ak} {j:Array Bool} (D:GO P Γ ρ call pl nt ops W all res μ0 h0 w0 q id f hs j μ tm h a w) {x:Item} (z:x∈q):x.i<ops.size:=by
 obtain ⟨o,v,_⟩:=D.src x z
 exact (Array.getElem?_eq_some_iff.1 v).1
theorem AbO {j:Array Bool} {i:Nat} (h:j.getD i true=false):j.getD i false=false:=by
 rcases Nat.lt_or_ge i j.size with h'|h'
 ·simp [h']at h⊢;exact h
 ·simp [Array.getElem?_eq_none h']at h
theorem GO.apart {q:List Item} {id:Nat} {f:Fr} {hs:List Ak} {v:Array Bool} (D:GO P Γ ρ call pl nt ops (waits before) all res μ0 h0 w0 q id f hs v μ tm h a w) (B:I4 ops before=true) {x:Item} (z:x∈q) (C:x.e=none)
  {j:Nat} (H:j<ops.size) (I:∀e∈CO ops j,v.getD e false=true):waits before x.i j=false:=by
 cases hw:waits before x.i j with
 |false=>rfl
 |true=>
  have J:=Jf B D.closed (j+1) j (by omega) H I x.i (D.lt z) hw
  have A:=AbO ((D.lst x.i (D.lt z)).2 ⟨x,z,rfl,C⟩)
  rw [J]at A
  cases A
theorem Nr {q:Array Bool} (hc:∀j,q.getD j false=true->∀e∈CO ops j,q.getD e false=true) {i:Nat} (z:∀e∈CO ops i,q.getD e false=true):
  ∀j,(q.setIfInBounds i true).getD j false=true->∀e∈CO ops j,(q.setIfInBounds i true).getD e false=true:=fun j v e x=>by
 refine getD_set_true ?_
 by_cases hij:i=j
 ·exact z e (hij▸x)
 ·rw [getD_set_ne false hij]at v
  exact hc j v e x
theorem I1 {j:Array Bool} {i:Nat} (h:i<j.size):(j.setIfInBounds i true).getD i true=true:=by
 simp [h]
theorem Re {y:Item} {pre post:List Item} {z:Item} (k:Nat):(pre++z::post)[k]?=if k=pre.length then some z else (pre++y::post)[k]?:=by
 by_cases hk:k=pre.length
 ·subst hk
  simp
 ·rw [if_neg hk]
  by_cases hlt:k<pre.length
  ·rw [List.getElem?_append_left hlt,List.getElem?_append_left hlt]
  ·rw [List.getElem?_append_right (by omega),List.getElem?_append_right (by omega)]
   have:k-pre.length=(k-pre.length-1)+1:=by omega
   rw [this,List.getElem?_cons_succ,List.getElem?_cons_succ]
theorem GO.AdL {pre:List Item} {y:Item} {post:List Item} {id:Nat} {f:Fr} {hs:List Ak} {A:Array Bool} (D:GO P Γ ρ call pl nt ops (waits before) all res μ0 h0 w0 (pre++y::post) id f hs A μ tm h a w)
  (hΓ:Γ.AG ρ) (hv:I4 ops before=true) (V:y.e=none) (hm:BK y.s.op=false) (hr:y.i∈Region.ready .any ops A) {K:Act->World->Prop} {Q:Exit->Act->World->Prop}
  (hK:∀u J ap M a' w',GO P Γ ρ call pl nt ops (waits before) all res μ0 h0 w0 (pre++{y with e:=some u}::post) id f hs (A.setIfInBounds y.i true) J ap M a' w'->K a' w'):wpOp P ops Q y.i K a w:=by
 have O:y∈pre++y::post:=by simp
 obtain ⟨o,ho,R⟩:=D.src y O
 have ac:=D.lt O
 have ad:=HE hr
 have hW:∀x∈pre++y::post,x.e=none->waits before x.i y.i=false:=fun x j N=>D.apart hv j N ac ad
 obtain ⟨ab,ak⟩:=Wy D.ok
 have ax:(pre++y::post)[pre.length]?=some y:=by simp
 have U:μ (id+pre.length)=none:=D.unb _ _ ax fun v B e=>by rw [V]at e;cases e
 have av:=D.high
 simp only [lA,lC]at av
 obtain ⟨u,hu,ae⟩:=early (Γ:=Γ) (call:=call) (all:=all) (W:=waits before) (μ:=μ) (tm:=tm) (h:=h) (res:=res) (y:=y) (post:=post) V hm
  (fun q hq z hh v H=>U0 D.tr (by rw [<-hq];exact R.op) hh H) pre D.ok D.clo D.flo (fun x j N=>hW x (by simp [j]) N) D.run D.fut (fun t _=>D.tmps t)
  (.inl fun b B hb hB=>by
   rw [D.mem b]
   rw [MU]
   ·exact hB
   ·intro k x v B' z j e
    have ao:=(List.getElem?_eq_some_iff.1 z).1
    have:=D.free k ao
    rw [<-e,hB]at this
    cases this)
  (fun k x v B z j=>by
   rw [D.mem]
   exact Rq (by rw [List.getElem?_append_left (List.getElem?_eq_some_iff.1 z).1];exact z) j)
  (fun k x z j=>D.unb k x (by rw [List.getElem?_append_left (List.getElem?_eq_some_iff.1 z).1];exact z) fun v B e=>by rw [j]at e;cases e)
 have fin:∀(J:As) (M:Ak) (w':World) (v:Value),μ.le J->Ag ρ J u.1 v->Av ρ μ0 h0 w0 J M w'->M.next=h.next->(∀b,M.get b=Er (pre++{y with e:=some u}::post) id f.h.get b)->(∀b,b≠id+pre.length->J b=μ b)->(u.2=none->J=μ)->
   GO P Γ ρ call pl nt ops (waits before) all res μ0 h0 w0 (pre++{y with e:=some u}::post) id f hs (A.setIfInBounds y.i true) J (DI tm y.s.dst u.1) M (a.put y.s.dst v) w':=fun J M w' v L H X hn ah hμ al=>by
  have C:∀{x:Item},x∈pre++{y with e:=some u}::post->x∈pre++y::post∨x={y with e:=some u}:=fun {x} j=>by
   simp only [List.mem_append,List.mem_cons]at j⊢
   rcases j with j|rfl|j
   ·exact .inl (.inl j)
   ·exact .inr rfl
   ·exact .inl (.inr (.inr j))
  have Y:(pre++{y with e:=some u}::post).map Item.pair=(pre++y::post).map Item.pair:=by simp [Item.pair]
  have Z:(pre++{y with e:=some u}::post).map (·.s)=(pre++y::post).map (·.s):=by simp
  have ag:(pre++{y with e:=some u}::post).map (·.i)=(pre++y::post).map (·.i):=by simp
  refine ⟨by rw [Y];exact D.ok,fun x j=>?_,fun x j=>?_,WZ D.clo fun x j N=>hW x (by simp [j]) N,fun x j N=>?_,by rw [Z];exact D.run,ae,fun t=>?_,(D.tr.mono L).put (fun t e=>?_) H,by rw [Act.Md];exact D.size,ah,by rw [hn];exact D.next,X,D.low,?_,fun k z=>?_,fun k x z j=>?_,?_,by simp [D.lsize],fun i hi=>?_,Nr D.closed ad,by rw [ag];exact D.lin,by rw [X.fx,<-D.Fv.fx];exact D.fx⟩
  ·rcases C j with j|rfl
   ·exact D.src x j
   ·exact D.src y O
  ·rcases C j with j|rfl
   ·exact D.sub x j
   ·exact D.sub y O
  ·rcases C j with j|rfl
   ·exact D.flo x j N
   ·exact hm
  ·rw [Td V,DH,D.tmps t]
   intro x j _ hd
   exact (ab x j).dst t hd
  ·rw [R.dst]at e
   exact Nat.lt_of_lt_of_le (R.small t e) D.size
  ·have:=D.high
   simp only [lA,lC]at this⊢
   exact this
  ·refine D.free k ?_
   simp only [lA,lC]at z⊢
   exact z
  ·rw [Re (y:=y)]at z
   split at z
   ·rename_i e
    simp only [oI]at z
    subst z
    have ai:u.2=none:=by
     obtain ⟨v1,B1⟩:=u
     cases B1 with
     |none=>rfl
     |some B1=>exact absurd rfl (j v1 B1)
    rw [al ai,e]
    exact U
   ·rename_i e
    rw [hμ _ (by omega)]
    exact D.unb k x z j
  ·have:(a.put y.s.dst v).defers=a.defers:=by cases y.s.dst<;>rfl
   rw [this]
   exact D.defs.mono L
  ·by_cases e:y.i=i
   ·subst e
    rw [I1 (by rw [D.lsize];exact ac)]
    constructor
    ·intro I;cases I
    ·rintro ⟨x,j,e1,I⟩
     exfalso
     simp only [List.mem_append,List.mem_cons]at j
     rcases j with j|rfl|j
     ·exact (ab x j).ne e1
     ·cases I
     ·exact (ak x j).ne e1.symm
   ·rw [getD_set_ne true e,D.lst i hi]
    constructor
    ·rintro ⟨x,j,e1,I⟩
     simp only [List.mem_append,List.mem_cons]at j
     rcases j with j|rfl|j
     ·exact ⟨x,by simp [j],e1,I⟩
     ·exact absurd e1 e
     ·exact ⟨x,by simp [j],e1,I⟩
    ·rintro ⟨x,j,e1,I⟩
     rcases C j with j|rfl
     ·exact ⟨x,j,e1,I⟩
     ·cases I
 refine Ye hΓ D.tr D.size D.Fv.rel ho R hu (fun hn v H=>?_) (fun B hB ob m v an H=>?_)
 ·refine hK u μ (DI tm y.s.dst u.1) h _ _ (fin μ h w v μ.le_refl H D.Fv rfl (fun b=>?_) (fun _ _=>rfl) fun _=>rfl)
  obtain ⟨u1,u2⟩:=u
  simp only at hn
  subst hn
  rw [MV V,D.mem b]
 ·have ay:=D.low
  have X:=D.Fv.Amm (id:=id+pre.length) (by omega) U (by rw [D.next];omega) B ob (0,m) an
  have L:μ.le (μ.put (id+pre.length) (w.heap.size,0,m)):=As.QM U
  refine hK u _ _ _ _ _ (fin _ _ _ v L (H _ L (As.BD _ _ _)) X (EH _ _ _) (fun b=>?_) (fun b hb=>As.BZ _ _ hb) fun e=>by rw [hB]at e;cases e)
  obtain ⟨u1,u2⟩:=u
  simp only at hB
  subst hB
  rw [MV V,Ek,D.mem b]
end
end
section
noncomputable def Ou:List Item->Nat->Ak->Ak
 |[],_,h=>h
 |x::r,id,h=>match x.e with
  |some (_,some B)=>Ge (Ou r (id+1) h) id (some B)
  |_=>Ou r (id+1) h
theorem N7:∀{q:List Item} {id:Nat} {h:Ak} {b:Nat},(Ou q id h).get b=Er q id h.get b
 |[],_,_,_=>rfl
 |x::r,id,h,b=>by
  have ih:=N7 (q:=r) (id:=id+1) (h:=h) (b:=b)
  simp only [Ou,Er]
  cases hx:x.e with
  |none=>exact ih
  |some u=>
   obtain ⟨v,B⟩:=u
   cases B with
   |none=>exact ih
   |some B=>
    simp only
    rw [Ek]
    simp only
    rw [ih]
theorem LF:∀{q:List Item} {id:Nat} {h:Ak},(Ou q id h).fx=h.fx
 |[],_,_=>rfl
 |x::r,id,h=>by
  simp only [Ou]
  split
  ·rw [Wt];exact LF
  ·exact LF
theorem Im:∀{q:List Item} {id:Nat} {h:Ak},(Ou q id h).next=h.next
 |[],_,_=>rfl
 |x::r,id,h=>by
  simp only [Ou]
  split
  ·rw [EH];exact Im
  ·exact Im
theorem MP:∀{l:List Step} {tm:Tr Aa} {t:Nat},(forget l tm).get t=none∨((forget l tm).get t=tm.get t/\∀s∈l,s.dst≠some t)
 |[],tm,t=>.inr ⟨rfl,fun _ h=>(by cases h)⟩
 |s::r,tm,t=>by
  have q:forget (s::r) tm=forget r (match s.dst with|some d=>Tr.set tm d none|none=>tm):=rfl
  rw [q]
  rcases MP (l:=r) (tm:=match s.dst with|some d=>Tr.set tm d none|none=>tm) (t:=t)with h|⟨h1,h2⟩
  ·exact .inl h
  ·cases hd:s.dst with
   |none=>
    rw [hd]at h1
    refine .inr ⟨h1,fun z j=>?_⟩
    simp only [List.mem_cons]at j
    rcases j with rfl|j
    ·rw [hd];simp
    ·exact h2 z j
   |some d=>
    rw [hd]at h1
    simp only [Tr.Bb]at h1
    by_cases e3:t=d
    ·rw [if_pos e3]at h1
     exact .inl h1
    ·rw [if_neg e3]at h1
     refine .inr ⟨h1,fun z j=>?_⟩
     simp only [List.mem_cons]at j
     rcases j with rfl|j
     ·rw [hd]
      intro v
      exact e3 (Option.some.inj v).symm
     ·exact h2 z j
section
variable {P:Program} {Γ:Ap} {ρ:Env} {μ:As} {tm:Tr Aa} {a:Act} {w:World} {h:Ak} {pl:List Co} {nt:Nat} {ops:Array Oper} {call:Cl} {all:List Step} {W:Nat->Nat->Bool} {before:List Nat}
 {res:Cb} {μ0:As} {h0:Ak} {w0:World}
theorem GO.part {q:List Item} {id:Nat} {f:Fr} {hs:List Ak} {j:Array Bool} (D:GO P Γ ρ call pl nt ops W all res μ0 h0 w0 q id f hs j μ tm h a w):∀b B,f.h.get b=some B->h.get b=some B:=fun b B hB=>by
 rw [D.mem b,MU]
 ·exact hB
 ·intro k x v A z C e
  have:=D.free k (List.getElem?_eq_some_iff.1 z).1
  rw [<-e,hB]at this
  cases this
theorem SM {x:Item} {r:List Item} {id:Nat} {f:Fr} {hs:List Ak} {j:Array Bool} (D:GO P Γ ρ call pl nt ops W all res μ0 h0 w0 (x::r) id f hs j μ tm h a w) {v:Aa} {C:Ak} {A:As} {w':World} (q:Av ρ μ f.h w A C w')
  (B:res=.panic v ⟨forget all f.tm,C,f.df⟩) {Q:Exit->Act->World->Prop} (L:Dp ρ nt μ0 h0 w0 Q (F8 res)) {u:Value} (J:Ag ρ A v u):Q (.panic (Ib u)) a w':=by
 subst B
 refine L A a w' _ ⟨fun t=>?_,D.size,q.rel,D.defs.mono q.le⟩ ((D.Fv.trans (Av.sub D.Fv.rel D.next.symm D.fx.symm D.part)).trans q) ⟨u,rfl,J⟩
 show Ag ρ A (Em ((forget all f.tm).get t)) _
 rcases MP (l:=all) (tm:=f.tm) (t:=t)with h1|⟨h1,h2⟩
 ·rw [h1];trivial
 ·rw [h1]
  have H:=(D.tr t).mono q.le
  rw [D.tmps t,D8]at H
  ·exact H
  ·exact fun z I _=>h2 z.s (D.sub z I)
theorem GO.change {x:Item} {r:List Item} {id:Nat} {f:Fr} {hs:List Ak} {U:Array Bool} (D:GO P Γ ρ call pl nt ops (waits before) all res μ0 h0 w0 (x::r) id f hs U μ tm h a w)
  (hc:B9 P ρ call) (hv:I4 ops before=true) (hx:x.e=none) (hm:BK x.s.op=true) (hr:x.i∈Region.ready .any ops U) {K:Act->World->Prop} {Q:Exit->Act->World->Prop} (L:Dp ρ nt μ0 h0 w0 Q (F8 res))
  (hK:∀f' N aL h' a' w',GO P Γ ρ call pl nt ops (waits before) all res μ0 h0 w0 r (id+1) f' (f.h::hs) (U.setIfInBounds x.i true) N aL h' a' w'->K a' w'):wpOp P ops Q x.i K a w:=by
 have hO:=EP (x:=x.pair) (r:=r.map Item.pair) D.ok
 obtain ⟨o,ho,R⟩:=D.src x (by simp)
 have aK:=D.lt (x:=x) (by simp)
 have aQ:=HE hr
 have A:=D.run
 simp only [List.map_cons,Gt]at A
 obtain ⟨_,A⟩:=Aq A
 obtain ⟨xr,H,A⟩:=Ac A
 have aD:=H
 rw [O5 hm]at H
 rw [hm]at A
 have Z:∀t∈x.s.names,tm.get t=f.tm.get t:=fun t hn=>by
  rw [D.tmps t]
  simp only [Gp,hx]
  refine D8 fun z j aG al=>?_
  have M:=(hO.apart z.pair (List.mem_map_of_mem j)).writes t al hn
  have h2:=D.clo.1 hx z j aG
  simp only [Item.pair]at M
  rw [M]at h2
  cases h2
 have au:Dd tm x.s.guard=Dd f.tm x.s.guard:=by
  unfold Dd
  cases hg:x.s.guard with
  |none=>rfl
  |some g=>
   dsimp only
   rw [Z g.1 (by simp [Step.names,hg])]
 have Hf:AI ρ μ f.h w:=D.Fv.rel.drop _ D.next.symm D.fx.symm D.part
 have aN:=D.high
 simp only [lC]at aN
 have aE:∀(Y:Act) (u:Value),(Y.put x.s.dst u).defers=Y.defers:=fun Y u=>by cases x.s.dst<;>rfl
 have fin:∀(v:Aa) (u:Value) (N:As) (M:Ak) (w':World) (af:List (FuncId×List Aa)) (Y:Act),xr=.go ⟨DI f.tm x.s.dst v,M,af⟩->Y.tmps=a.tmps->C2 ρ N af Y.defers->Av ρ μ f.h w N M w'->Ag ρ N v u->K (Y.put x.s.dst u) w':=fun v u N M w' af Y V ha aM g ab=>by
  subst V
  have A:Ll Γ call all (r.map (·.s)) (id+1) ⟨DI f.tm x.s.dst v,M,af⟩ (f.h::hs)=some res:=A
  have ap:∀k z,r[k]?=some z->∀J B,z.e=some (J,some B)->h.get (id+1+k)=some B:=fun k z j J B X=>by
   rw [D.mem]
   have:=Rq (r:=x::r) (id:=id) (g:=f.h.get) (k:=k+1) (by simpa using j) X
   rw [show id+1+k=id+(k+1)from by omega];exact this
  have ad:∀k,k<r.length->f.h.get (id+1+k)=none:=fun k hk=>by
   have:=D.free (k+1) (by simp;omega)
   rw [show id+1+k=id+(k+1)from by omega];exact this
  have an:∀k z,r[k]?=some z->(∀J B,z.e≠some (J,some B))->μ (id+1+k)=none:=fun k z j X=>by
   have:=D.unb (k+1) z (by simpa using j) X
   rw [show id+1+k=id+(k+1)from by omega];exact this
  have ao:Av ρ μ h w N (Ou r (id+1) M) w':=by
   refine Av.under D.Fv.rel D.next.symm D.part g Im LF D.fx.symm fun b B hb=>?_
   rw [N7]at hb
   rcases IQ hb with hb|⟨k,z,J,j,X,rfl⟩
   ·exact .inl hb
   ·exact .inr ⟨ap k z j J B X,ad k (List.getElem?_eq_some_iff.1 j).1⟩
  have aJ:AT ρ N tm Y:=fun t=>by rw [ha];exact (D.tr t).mono g.le
  refine hK _ N (DI tm x.s.dst v) (Ou r (id+1) M) _ _ ⟨hO.rest,fun z j=>D.src z (by simp [j]),fun z j=>D.sub z (by simp [j]),D.clo.2,fun z j=>D.flo z (by simp [j]),A,?_,fun t=>?_,aJ.put (fun t e=>?_) ab,by rw [Act.Md,ha];exact D.size,fun b=>N7,Im,D.Fv.trans ao,?_,?_,fun k hk=>?_,fun k z j X=>?_,by rw [aE];exact aM,by simp [D.lsize],fun i hi=>?_,Nr D.closed aQ,(Kx D.lin).2,LF⟩
  ·rcases D.fut.2 with ⟨g',hg',hf⟩|hf
   ·rw [aD]at hg'
    simp only [oI,Cb.go.injEq]at hg'
    subst hg'
    exact hf
   ·exact Ig hf
  ·rw [DH,D.tmps t]
   simp only [Gp,hx]
   by_cases hd:x.s.dst=some t
   ·rw [if_pos hd,D8,DH,if_pos hd]
    intro z j _ al
    exact (hO.apart z.pair (List.mem_map_of_mem j)).dst t hd al
   ·rw [if_neg hd]
    exact DY (by rw [DH,if_neg hd])
  ·rw [R.dst]at e
   rw [ha]
   exact Nat.lt_of_lt_of_le (R.small t e) D.size
  ·have:=D.low;omega
  ·show id+1+r.length<=M.next
   have:=g.next;omega
  ·show M.get (id+1+k)=none
   cases hb:M.get (id+1+k)with
   |none=>rfl
   |some B=>
    exfalso
    obtain ⟨s,δ,ay,_⟩:=g.rel.blk _ _ hb
    have aC:=g.old (id+1+k) (by omega)
    have O:=ay
    rw [aC]at O
    have j:r[k]?=some r[k]:=List.getElem?_eq_getElem hk
    have ah:¬∀J B,(r[k]).e≠some (J,some B):=fun aa=>by
     rw [an k _ j aa]at O
     cases O
    have ah:∃J B',(r[k]).e=some (J,some B'):=Classical.byContradiction fun aa=>ah fun J B' e=>aa ⟨J,B',e⟩
    obtain ⟨J,B',X⟩:=ah
    have hh:=ap k _ j J B' X
    have aa:¬AJ μ f.h s:=fun ⟨c,C,δ',hc',hmc⟩=>by
     have:=D.Fv.rel.inj _ _ _ _ _ _ _ (D.part c C hc') hh hmc O
     subst this
     rw [ad k hk]at hc'
     cases hc'
    exact (g.kept s (D.Fv.rel.lt hh O) aa).2 ⟨_,B,δ,hb,ay⟩
  ·rw [g.old _ (by have:=(List.getElem?_eq_some_iff.1 j).1;omega)]
   exact an k z j X
  ·by_cases e:x.i=i
   ·subst e
    rw [I1 (by rw [D.lsize];exact aK)]
    constructor
    ·intro e2;cases e2
    ·rintro ⟨z,j,I,_⟩
     exact absurd I.symm (hO.apart z.pair (List.mem_map_of_mem j)).ne
   ·rw [getD_set_ne true e,D.lst i hi]
    constructor
    ·rintro ⟨z,j,I,e2⟩
     simp only [List.mem_cons]at j
     rcases j with rfl|j
     ·exact absurd I e
     ·exact ⟨z,j,I,e2⟩
    ·rintro ⟨z,j,I,e2⟩
     exact ⟨z,by simp [j],I,e2⟩
 refine Ka ho ?_
 unfold Iw at H
 obtain ⟨b,hb,H⟩:=Ac H
 rw [<-au]at hb
 rw [E8 D.tr R.guard (fun d b e=>Nat.lt_of_lt_of_le (R.seen d b e) D.size) hb]
 cases b with
 |false=>
  simp only [cond_false,oI]at H
  simp only [Bool.false_eq_true,if_false]
  rw [<-R.dst]
  exact fin I7 undef μ f.h w f.df a H.symm rfl D.defs (Av.refl Hf) I6
 |true=>
  simp only [cond_true]at H
  simp only [if_true]
  have ax:=R.op
  unfold Wp at H
  split at H
  ·rename_i q I;rw [I]at hm;cases hm
  ·rename_i q I;rw [I]at hm;cases hm
  ·rename_i q I;rw [I]at hm;cases hm
  ·rename_i q I
   rw [I]at ax
   obtain ⟨aY,ae,H⟩:=Ac H
   obtain ⟨out,aA,V⟩:=M4 H
   have aH:DB tm f.tm q.BU:=Fb fun t hn=>Z t (by
    unfold Step.names
    rw [I]
    split
    ·exact List.mem_cons_of_mem _ hn
    ·exact hn)
   rw [<-Q7 aH]at ae
   refine SH hc Hf (KY Hf D.tr ax ae) aA ?_
   rw [<-R.dst]
   cases out with
   |val v h'=>exact fun N u w' hg ab=>fin v u N h' w' f.df a V rfl (D.defs.mono hg.le) hg ab
   |panic v h'=>
    intro N u w' hg ab
    have V:xr=.panic v ⟨f.tm,h',f.df⟩:=V
    subst V
    simp only [SU]at A
    obtain ⟨_,A⟩:=Aq A
    simp only [oI]at A
    exact SM D hg A.symm L ab
   |defer g args=>
    intro d hd
    exact fin .any undef μ f.h w ((g,args)::f.df) {a with defers:=d::a.defers} V rfl ⟨d,a.defers,rfl,hd,D.defs⟩ (Av.refl Hf) trivial
def left (q:List Item):Nat:=q.countP fun x=>x.e.isNone
theorem Yl (hΓ:Γ.AG ρ) (hc:B9 P ρ call) (Z:I4 ops before=true) {Q:Exit->Act->World->Prop} (L:Dp ρ nt μ0 h0 w0 Q (F8 res)):
  ∀(n:Nat) (q:List Item) {id:Nat} {f:Fr} {hs:List Ak} {v:Array Bool} {μ:As} {tm:Tr Aa} {h:Ak} {a:Act} {w:World},left q=n->
   GO P Γ ρ call pl nt ops (waits before) all res μ0 h0 w0 q id f hs v μ tm h a w->wpAny P .any ops Q n v a w:=by
 intro n
 induction n with
 |zero=>
  intro q
  induction q with
  |nil=>
   intro id f hs v μ tm h a w _ D
   have I:some (Cb.go f)=some res:=D.run
   simp only [oI]at I
   refine ⟨?_,?_⟩
   ·apply List.eq_nil_iff_forall_not_mem.2
    intro j H
    obtain ⟨N,o,Y,_⟩:=mem_ready.1 H
    obtain ⟨x,A,_⟩:=(D.lst j (Array.getElem?_eq_some_iff.1 Y).1).1 N
    cases A
   ·have hg:=D.Fv.trans (Av.sub D.Fv.rel D.next.symm D.fx.symm D.part)
    rw [<-I]at L
    refine L μ a w .normal ⟨fun t=>?_,D.size,hg.rel,D.defs⟩ hg rfl
    have:=D.tr t
    rw [D.tmps t]at this
    exact this
  |cons x r ih=>
   intro id f hs v μ tm h a w hl D
   cases A:x.e with
   |none=>simp [left,A]at hl
   |some u=>
    obtain ⟨f',_,C⟩:=D.skip A
    exact ih (by simpa [left,A]using hl) C
 |succ n ihn=>
  intro q
  induction q with
  |nil=>intro id f hs v μ tm h a w hl _;simp [left]at hl
  |cons x r ih=>
   intro id f hs v μ tm h a w hl D
   cases A:x.e with
   |some u=>
    obtain ⟨f',_,C⟩:=D.skip A
    exact ih (by simpa [left,A]using hl) C
   |none=>
    have aa:=D.lt (x:=x) (by simp)
    obtain ⟨o,Y,_⟩:=D.src x (by simp)
    have V:=Kx (i:=x.i) (r:=r.map (·.i)) D.lin
    have R:x.i∈Region.ready .any ops v:=by
     refine Mo Y ((D.lst x.i aa).2 ⟨x,by simp,rfl,A⟩) fun e he=>?_
     obtain ⟨N,M⟩:=V.1 e he
     cases hle:v.getD e true with
     |false=>
      exfalso
      obtain ⟨z,O,e1,_⟩:=(D.lst e (by omega)).1 hle
      simp only [List.mem_cons]at O
      rcases O with rfl|O
      ·omega
      ·exact M (e1▸List.mem_map_of_mem O)
     |true=>
      have:e<v.size:=by rw [D.lsize];omega
      simp [this]at hle⊢
      exact hle
    refine ⟨fun X=>?_,fun j H=>?_⟩
    ·rw [X]at R;cases R
    ·obtain ⟨N,oj,U,_⟩:=mem_ready.1 H
     obtain ⟨y,B,rfl,J⟩:=(D.lst j (Array.getElem?_eq_some_iff.1 U).1).1 N
     cases hm:BK y.s.op with
     |false=>
      obtain ⟨pre,post,hq⟩:=List.append_of_mem B
      rw [hq]at D hl
      refine D.AdL hΓ Z J hm H fun u μ' ac h' a' w' C=>ihn _ ?_ C
      simp only [left,List.countP_append,List.countP_cons,J,Option.isNone_none,if_true]at hl⊢
      simp only [Option.isNone_some,Bool.false_eq_true,if_false]
      omega
     |true=>
      have ad:y=x:=by
       simp only [List.mem_cons]at B
       rcases B with B|B
       ·exact B
       ·exfalso
        have M:=((EP (x:=x.pair) (r:=r.map Item.pair) D.ok).apart y.pair (List.mem_map_of_mem B)).chg hm
        have h3:=D.apart Z (x:=x) (by simp) A (Array.getElem?_eq_some_iff.1 U).1 (HE H)
        simp only [Item.pair]at M
        rw [M]at h3
        cases h3
      subst ad
      refine D.change hc Z J hm H L fun f' μ' ac h' a' w' C=>ihn _ ?_ C
      simpa [left,A]using hl
theorem Wo:∀l:List Step,BQ l=l.length
 |[]=>rfl
 |_::r=>by show BQ r+1=_;rw [Wo r];rfl
theorem Tv:∀{l:List Item},(∀x∈l,x.e=none)->Clo W l
 |[],_=>trivial
 |x::r,h=>⟨fun _ z j q=>absurd (h z (by simp [j])) q,Tv fun z j=>h z (by simp [j])⟩
theorem Pk:∀{l:List Item} {id:Nat} {g:Nat->Option Block} {b:Nat},(∀x∈l,x.e=none)->Er l id g b=g b
 |[],_,_,_,_=>rfl
 |x::r,id,g,b,h=>by
  simp only [Er,h x (by simp)]
  exact Pk fun z j=>h z (by simp [j])
theorem Vq (hΓ:Γ.AG ρ) (hc:B9 P ρ call) (ab:P.follows .mixedOrders=true) {H:List Step} (v:Nn P pl nt ops=some H) {f:Fr} {r:Cb} (hr:Ll Γ call H H f.h.next (Hp (BQ H) f) []=some r)
  (F:CI ρ μ nt f a w) {Q:Exit->Act->World->Prop} (L:Dp ρ nt μ f.h w Q (F8 r)) {an:Nat}:(Code.region an ops true).wp P Q a w:=by
 unfold Nn at v
 simp only at v
 split at v
 ·cases v
 ·rename_i O _
  split at v
  ·rename_i I N
   split at v
   ·rename_i M
    simp only [oI]at v
    subst v
    generalize hord:Q8 (Region.before ops) ops.size ((List.range ops.size).filter fun i=>(O[i]?.map BK).getD false) []=order at N M
    generalize hbk:(fun i=>Acw (Region.before ops) ((List.range ops.size).filter fun i=>(O[i]?.map BK).getD false) order i)=bk at N
    have ai:=Dl N
    unfold Ach at M
    simp only [aT]at M
    obtain ⟨⟨J,aa⟩,aj,aC,ac,ag,af⟩:=M
    have J:=Ao.1 J
    have aa:=Ao.1 aa
    refine wp_region_any ab ?_
    have hq:∀(l:List Nat) (m:List Step),l.length=m.length->((l.zip m).map fun x=>(⟨x.1,x.2,none⟩:Item)).map Item.pair=l.zip m/\((l.zip m).map fun x=>(⟨x.1,x.2,none⟩:Item)).map (·.s)=m/\((l.zip m).map fun x=>(⟨x.1,x.2,none⟩:Item)).map (·.i)=l:=fun l m h=>by
     refine ⟨?_,?_,?_⟩
     ·rw [List.map_map];exact List.map_id'' (fun _=>rfl) _
     ·rw [List.map_map];exact List.map_snd_zip (by omega)
     ·rw [List.map_map];exact List.map_fst_zip (by omega)
    obtain ⟨q1,q2,V⟩:=hq order I J
    generalize hqq:((order.zip I).map fun x=>(⟨x.1,x.2,none⟩:Item))=q at q1 q2 V
    have A:∀x∈q,x.e=none:=fun x C=>by
     rw [<-hqq]at C
     obtain ⟨z,_,rfl⟩:=List.mem_map.1 C
     rfl
    have U:q.length=ops.size:=by
     have:=cL V
     rw [List.length_map]at this
     omega
    have Z:left q=ops.size:=by
     rw [<-U]
     unfold left
     rw [List.countP_eq_length]
     intro x C
     rw [A x C];rfl
    have X:∀i d,(Array.replicate ops.size false).getD i d=true->d=true/\ops.size<=i:=fun i d h=>by
     rcases Nat.lt_or_ge i ops.size with h'|h'
     ·simp [h']at h
     ·simp [Array.getElem?_eq_none,h']at h
      exact ⟨h,h'⟩
    refine Yl (all:=I) (pl:=pl) hΓ hc ag (L.grow (Av.drew F.heap)) ops.size q (id:=f.h.next) (f:=Hp (BQ I) f) (hs:=[]) (μ:=μ) (tm:=f.tm) (h:=(Hp (BQ I) f).h) Z ?_
    have ah:(Hp (BQ I) f).h.next=f.h.next+I.length:=by
     show f.h.next+BQ I=_
     rw [Wo]
    refine ⟨by rw [q1];exact af,fun x C=>?_,fun x C=>?_,Tv A,fun x C Y=>absurd (A x C) Y,by rw [q2];exact hr,Ig A,fun t=>(D8 fun z hz Y=>absurd (A z hz) Y).symm,F.tmps,F.size,fun b=>(Pk A).symm,rfl,Av.reserve F.heap.drew _,Nat.le_refl _,?_,fun k R=>?_,fun k x R Y=>?_,F.defs,by simp,fun i hi=>?_,fun j hj=>?_,by rw [V];exact ac,rfl⟩
    ·have ao:x.pair∈order.zip I:=by rw [<-q1];exact List.mem_map_of_mem C
     obtain ⟨k,R⟩:=List.mem_iff_getElem?.1 ao
     rw [List.getElem?_zip_eq_some]at R
     obtain ⟨k1,k2⟩:=R
     have k3:(I.map some)[k]?=some (some x.s):=by rw [List.getElem?_map,k2];rfl
     rw [<-ai,List.getElem?_map,k1]at k3
     simp only [Option.map_some,oI]at k3
     obtain ⟨o,ho,k4⟩:=Option.bind_eq_some_iff.1 k3
     exact ⟨o,ho,Fj k4⟩
    ·rw [<-q2];exact List.mem_map_of_mem C
    ·rw [ah];omega
    ·show f.h.get _=none
     cases hb:f.h.get (f.h.next+k)with
     |none=>rfl
     |some B=>
      have:=F.heap.Fp hb
      omega
    ·exact F.heap.fresh _ (Nat.le_add_right _ _)
    ·constructor
     ·intro _
      have h1:=List.all_eq_true.1 aj i (List.mem_range.2 hi)
      have h2:=any_beq.1 h1
      rw [<-V]at h2
      obtain ⟨x,C,e⟩:=List.mem_map.1 h2
      exact ⟨x,C,e,A x C⟩
     ·intro _
      simp [hi]
    ·exact absurd (X j false hj).1 (by simp)
   ·cases v
  ·cases v
end
end
section
theorem Tr.Ab4 {α:Type} (g:α->α) (v:Option α) (l r:Tr α):Tr.map g (Tr.node v l r)=.node (v.map g) (Tr.map g l) (Tr.map g r):=rfl
theorem Tr.Ab3 {α:Type} (g:α->α) (n:Nat) (v:Option α) (t:Tr α):Tr.map g (Tr.over n v t)=.over n (v.map g) (Tr.map g t):=rfl
theorem Tr.get_map {α:Type} (g:α->α):∀(t:Tr α) (n:Nat),(Tr.map g t).get n=(t.get n).map g
 |.nil,n=>rfl
 |.node v l r,n=>by
  rw [Tr.Ab4,Tr.DL,Tr.DL,Tr.get_map g l,Tr.get_map g r]
  cases Nat.beq n 0 with
  |true=>rfl
  |false=>cases Nat.beq (n%2) 1<;>rfl
 |.over m v t,n=>by
  rw [Tr.Ab3,Tr.ET,Tr.ET,Tr.get_map g t]
  cases Nat.beq n m<;>rfl
section
variable {ρ:Env} {μ:As} {w:World} {h:Ak} {b off len es j:Nat}
theorem WK {r δ m:Nat} {c:Array Value} {e:TypeId} (F:Frz ρ μ b off len es j r δ m c e):∀{l:List Aa} {us:List Value},A6 ρ μ l us->A6 ρ μ (L0 b off len es j l) us
 |[],us,h=>h
 |v::l,us,h=>by
  rw [Ih]
  simp only [A6]at h⊢
  obtain ⟨u,rest,rfl,q,x⟩:=h
  exact ⟨u,rest,rfl,(Hx F q).1,WK F x⟩
theorem AbR {r δ m:Nat} {c:Array Value} {e:TypeId} (F:Frz ρ μ b off len es j r δ m c e) {v:Aa} {u:Value} (q:Ag ρ μ v u):Ag ρ μ (Ahv b off len es j v) u:=by
 unfold Ahv
 split
 ·obtain ⟨x,e,z⟩:=q.agg
  subst e
  simp only [Ag]
  exact ⟨x,rfl,Rj F z⟩
 ·obtain ⟨x,e,z⟩:=q.tuple
  subst e
  simp only [Ag]
  exact ⟨x,rfl,WK F z⟩
 ·exact (Hx F q).1
theorem AbQ {r δ m:Nat} {c:Array Value} {e:TypeId} (F:Frz ρ μ b off len es j r δ m c e) {B:Block} {o:Option Obj} {x:Nat×Nat} (hB:C4 ρ μ B o x):C4 ρ μ (AkM b off len es j B) o x:=by
 cases B with
 |cells vs=>
  obtain ⟨d,t,A,I,hc⟩:=hB
  refine ⟨d,t,A,I,fun i a ha=>?_⟩
  rw [MN]at ha
  obtain ⟨L,q,rfl⟩:=mS ha
  obtain ⟨v,M,C,H⟩:=hc i L q
  obtain ⟨z,J⟩:=Hx F H
  exact ⟨v,M,by rw [J];exact C,z⟩
 |typed t vs=>
  obtain ⟨d,A,⟨N,hs⟩,I,hc⟩:=hB
  have hl:(L0 b off len es j vs).length=vs.length:=by
   have:∀l:List Aa,(L0 b off len es j l).length=l.length:=fun l=>by
    induction l with
    |nil=>rfl
    |cons v l ih=>rw [Ih];simp [ih]
   exact this vs
  refine ⟨d,A,⟨N,by rw [hl];exact hs⟩,I,fun i a ha=>?_⟩
  rw [MN]at ha
  obtain ⟨L,q,rfl⟩:=mS ha
  obtain ⟨v,M,C,H⟩:=hc i L q
  obtain ⟨z,J⟩:=Hx F H
  exact ⟨v,M,by rw [J];exact C,z⟩
 |map es clock=>exact hB
 |bytes n e=>exact hB
 |sbytes n e=>exact hB
 |list i es=>exact hB
 |smap i=>exact hB
theorem AbP {i:Nat} {t:ST} {r m:Nat} {c:Array Value} {e:TypeId} (hs:μ b=some (r,0,m)) (I:μ.AU r=some (.cells c e (0,0))) (B:BG μ.AU es c 0 (ρ.lst i)) (C:t.den ρ=((ρ.lst i).length:Int)) {v:Aa} {u:Value} (q:Ag ρ μ v u):Ag ρ μ (Rg b i es t v) u/\(Rg b i es t v).single=v.single:=by
 unfold Rg
 split
 ·rename_i H z n
  cases hc:Nat.beq b H&&(Nat.beq es z&&n.eq t)with
  |false=>exact ⟨q,rfl⟩
  |true=>
   rw [aT,aT,Ao,Ao]at hc
   obtain ⟨rfl,rfl,j⟩:=hc
   have j:=ST.AX j
   subst j
   obtain ⟨L,N,k,x,A,M,O,P⟩:=q.vec
   rw [hs]at x
   simp only [oI,Prod.mk.injEq,true_and]at x
   obtain ⟨rfl,rfl⟩:=x
   have J:(ρ.lst i).length=k:=by omega
   refine ⟨?_,rfl⟩
   simp only [cond_true,Ag,GQ]
   exact ⟨⟨BL m,by omega,.inr ⟨r,0,c,e,by rw [J];exact A,⟨_,I⟩,B⟩⟩,C,fun e=>by cases e⟩
 ·exact ⟨q,rfl⟩
theorem Gm (b i es:Nat) (t:ST) (v:Aa) (r:List Aa):Hw b i es t (v::r)=Rg b i es t v::Hw b i es t r:=rfl
theorem K5 {i:Nat} {t:ST}:∀{l:List Aa} {k:Nat},(Hw b i es t l)[k]?=(l[k]?).map (Rg b i es t)
 |[],k=>by show ([]:List Aa)[k]?=_;simp
 |v::r,k=>by
  rw [Gm]
  cases k with
  |zero=>simp
  |succ k=>simpa using K5 (l:=r) (k:=k)
theorem Ta {nt:Nat} {f:Fr} {a:Act} (F:CI ρ μ nt f a w) {B0:Block} {r:Nat} {X:Nat×Nat} (hb:f.h.get b=some B0) (hm:μ b=some (r,X)) (Q:Aa->Aa) (J:Block->Block)
  (hA:∀v u,Ag ρ (μ.Eb r w.heap[r]?) v u->Ag ρ (μ.Eb r w.heap[r]?) (Q v) u) (hB:∀B o x,C4 ρ (μ.Eb r w.heap[r]?) B o x->C4 ρ (μ.Eb r w.heap[r]?) (J B) o x):
  ∃μ',CI ρ μ' nt ⟨Tr.map Q f.tm,⟨Tr.map J (Tr.set f.h.DD b none),f.h.next,f.h.fx⟩,f.df⟩ a w/\Av ρ μ f.h w μ' ⟨Tr.map J (Tr.set f.h.DD b none),f.h.next,f.h.fx⟩ w:=by
 have H:=F.heap
 have O:AJ μ f.h r:=⟨b,_,X,hb,hm⟩
 have V:∀x,μ.AU r=some x->w.heap[r]?=some x:=fun x R=>absurd O (H.AO.AU r x R).2
 have L:μ.le (μ.Eb r w.heap[r]?):=As.J6 V
 have C:∀d B,(⟨Tr.map J (Tr.set f.h.DD b none),f.h.next,f.h.fx⟩:Ak).get d=some B->∃A,f.h.get d=some A/\B=J A/\d≠b:=fun d B hd=>by
  have hd:(Tr.map J (Tr.set f.h.DD b none)).get d=some B:=hd
  rw [Tr.get_map,Tr.Bb]at hd
  obtain ⟨A,I,N⟩:=mS hd
  by_cases e:d=b
  ·rw [if_pos e]at I;cases I
  ·rw [if_neg e]at I;exact ⟨A,I,N.symm,e⟩
 have z:∀s,AJ (μ.Eb r w.heap[r]?) ⟨Tr.map J (Tr.set f.h.DD b none),f.h.next,f.h.fx⟩ s->AJ μ f.h s/\s≠r:=fun s ⟨d,B,x,I,N⟩=>by
  obtain ⟨A,M,k2,Z⟩:=C d B I
  exact ⟨⟨d,A,x,M,N⟩,fun e=>Z (H.inj _ _ _ _ _ _ _ M hb N (e▸hm))⟩
 have hH:AI ρ (μ.Eb r w.heap[r]?) ⟨Tr.map J (Tr.set f.h.DD b none),f.h.next,f.h.fx⟩ w:=by
  refine ⟨fun d hd=>H.fresh d hd,fun d B hd=>?_,fun d d' B A s x x' I N m1 m2=>?_,⟨fun g o j=>?_,fun g o j=>?_,H.AO.facts⟩⟩
  ·obtain ⟨A,M,rfl,Z⟩:=C d B hd
   obtain ⟨s,x,e1,e2⟩:=H.blk d A M
   exact ⟨s,x,e1,hB _ _ _ (e2.mono L)⟩
  ·obtain ⟨B1,M,_,_⟩:=C _ _ I
   obtain ⟨B2,k2,_,_⟩:=C _ _ N
   exact H.inj _ _ _ _ _ _ _ M k2 m1 m2
  ·obtain ⟨P,U⟩:=H.AO.AO g o j
   exact ⟨P,fun e=>U (z g e).1⟩
  ·have j:(if g=r then w.heap[r]? else μ.AU g)=some o:=j
   by_cases e:g=r
   ·subst e
    rw [if_pos rfl]at j
    exact ⟨j,fun q=>(z _ q).2 rfl⟩
   ·rw [if_neg e]at j
    obtain ⟨P,U⟩:=H.AO.AU g o j
    exact ⟨P,fun q=>U (z g q).1⟩
 refine ⟨μ.Eb r w.heap[r]?,⟨fun t=>?_,F.size,hH,F.defs.mono L⟩,⟨L,hH,Nat.le_refl _,fun s _ hs=>⟨rfl,fun q=>hs (z s q).1⟩,rfl,rfl,Nat.le_refl _,fun _ _=>rfl,fun g o j=>?_,rfl⟩⟩
 ·show Ag _ _ (Em ((Tr.map Q f.tm).get t)) _
  rw [Tr.get_map]
  have Y:=(F.tmps t).mono L
  cases R:f.tm.get t with
  |none=>trivial
  |some v=>
   rw [R]at Y
   exact hA _ _ Y
 ·have j:(if g=r then w.heap[r]? else μ.AU g)=some o:=j
  by_cases e:g=r
  ·subst e;exact .inr (.inl O)
  ·rw [if_neg e]at j;exact .inl j
theorem Rh {Γ:Ap} (hΓ:Γ.AG ρ) {nt:Nat} {f:Fr} {a:Act} (F:CI ρ μ nt f a w) (z:Nat×Nat×Nat×Nat×Nat):∃R,CI ρ R nt (Ri Γ z f) a w/\Av ρ μ f.h w R (Ri Γ z f).h w:=by
 have same:∃R,CI ρ R nt f a w/\Av ρ μ f.h w R f.h w:=⟨μ,F,Av.refl F.heap⟩
 have H:=F.heap
 unfold Ri
 split
 case h_3=>exact same
 ·rename_i vs hb
  cases hk:Pg Γ z.2.1 z.2.2.1 z.2.2.2.1 z.2.2.2.2 vs with
  |false=>exact same
  |true=>
  simp only [cond_true]
  obtain ⟨b,off,len,es,j⟩:=z
  simp only at hb hk⊢
  obtain ⟨cs,ad,ac,ae,hd⟩:=MM hΓ hk
  obtain ⟨r,⟨δ,m⟩,q,c,t,J,ak,hc⟩:=H.blk b _ hb
  have I:AJ μ f.h r:=⟨b,_,(δ,m),hb,q⟩
  have N:∀x,μ.AU r=some x->w.heap[r]?=some x:=fun x L=>absurd I (H.AO.AU r x L).2
  have X:μ.le (μ.Eb r w.heap[r]?):=As.J6 N
  have af:AK μ.AU c (δ+off) (ρ.lst j).flatten:=Nk hc ad hd
  have Z:Frz ρ (μ.Eb r w.heap[r]?) b off len es j r δ m c t:=by
   refine ⟨q,ac,?_,?_⟩
   ·show (if r=r then w.heap[r]? else μ.AU r)=_
    rw [if_pos rfl];exact J
   ·exact BG.mono X.AU (Bx.2 ⟨ae,af⟩)
  exact Ta F hb q _ _ (fun v u M=>AbR Z M) (fun B o x hB=>AbQ Z hB)
 ·rename_i i es hb
  cases hk:Nat.beq i z.2.2.2.2 with
  |false=>exact same
  |true=>
  simp only [cond_true]
  split
  case h_2=>exact same
  rename_i t ht
  obtain ⟨r,⟨δ,m⟩,q,c,e,J,Y,O,A,C,h4,h5⟩:=H.blk z.1 _ hb
  subst Y
  have I:AJ μ f.h r:=⟨z.1,_,(0,m),hb,q⟩
  have N:∀x,μ.AU r=some x->w.heap[r]?=some x:=fun x L=>absurd I (H.AO.AU r x L).2
  have X:μ.le (μ.Eb r w.heap[r]?):=As.J6 N
  have hi:(μ.Eb r w.heap[r]?).AU r=some (.cells c e (0,0)):=by
   show (if r=r then w.heap[r]? else μ.AU r)=_
   rw [if_pos rfl];exact J
  have ht:t.den ρ=((ρ.lst i).length:Int):=hΓ.Bc _ (Cy ht)
  have M:∀{v:Aa} {u:Value},Ag ρ (μ.Eb r w.heap[r]?) v u->Ag ρ (μ.Eb r w.heap[r]?) (Rg z.1 i es t v) u/\(Rg z.1 i es t v).single=v.single:=fun {v u} h=>AbP (μ:=μ.Eb r w.heap[r]?) (m:=m) q hi (BG.mono X.AU h5) ht h
  have ag:∀{l:List Aa} {us:List Value},Aw ρ (μ.Eb r w.heap[r]?) l us->Aw ρ (μ.Eb r w.heap[r]?) (Hw z.1 i es t l) us:=by
   intro l
   induction l with
   |nil=>intro us h;exact h
   |cons v l ih=>
    intro us h
    rw [Gm]
    simp only [Aw]at h⊢
    obtain ⟨u,rest,rfl,⟨O,A⟩,C⟩:=h
    obtain ⟨P,V⟩:=M A
    exact ⟨u,rest,rfl,⟨by rw [V];exact O,P⟩,ih C⟩
  have ah:∀{l:List Aa} {us:List Value},A6 ρ (μ.Eb r w.heap[r]?) l us->A6 ρ (μ.Eb r w.heap[r]?) (Hw z.1 i es t l) us:=by
   intro l
   induction l with
   |nil=>intro us h;exact h
   |cons v l ih=>
    intro us h
    rw [Gm]
    simp only [A6]at h⊢
    obtain ⟨u,rest,rfl,A,C⟩:=h
    exact ⟨u,rest,rfl,(M A).1,ih C⟩
  refine Ta F hb q _ _ (fun v u U=>?_) (fun B o x hB=>?_)
  ·unfold Aev
   split
   ·obtain ⟨x,e,L⟩:=U.agg
    subst e
    simp only [Ag]
    exact ⟨x,rfl,ag L⟩
   ·obtain ⟨x,e,L⟩:=U.tuple
    subst e
    simp only [Ag]
    exact ⟨x,rfl,ah L⟩
   ·exact (M U).1
  ·cases B with
   |cells vs=>
    obtain ⟨d,t',J,q,hc⟩:=hB
    refine ⟨d,t',J,q,fun k a ha=>?_⟩
    rw [K5]at ha
    obtain ⟨a',Q,rfl⟩:=mS ha
    obtain ⟨v,O,A,C⟩:=hc k a' Q
    obtain ⟨P,V⟩:=M C
    exact ⟨v,O,by rw [V];exact A,P⟩
   |typed t' vs=>
    obtain ⟨d,J,⟨Y,hs⟩,q,hc⟩:=hB
    have hl:(Hw z.1 i es t vs).length=vs.length:=by
     have:∀l:List Aa,(Hw z.1 i es t l).length=l.length:=fun l=>by
      induction l with
      |nil=>rfl
      |cons v l ih=>rw [Gm];simp [ih]
     exact this vs
    refine ⟨d,J,⟨Y,by rw [hl];exact hs⟩,q,fun k a ha=>?_⟩
    rw [K5]at ha
    obtain ⟨a',Q,rfl⟩:=mS ha
    obtain ⟨v,O,A,C⟩:=hc k a' Q
    obtain ⟨P,V⟩:=M C
    exact ⟨v,O,by rw [V];exact A,P⟩
   |map es clock=>exact hB
   |bytes n e=>exact hB
   |sbytes n e=>exact hB
   |list i es=>exact hB
   |smap i=>exact hB
theorem JG {Γ:Ap} (hΓ:Γ.AG ρ) {nt:Nat} {a:Act}:∀(l:List (Nat×Nat×Nat×Nat×Nat)) {μ:As} {f:Fr},CI ρ μ nt f a w->∃j,CI ρ j nt (Ve Γ l f) a w/\Av ρ μ f.h w j (Ve Γ l f).h w
 |[],μ,f,F=>⟨μ,F,Av.refl F.heap⟩
 |z::l,μ,f,F=>by
  obtain ⟨A,q,g1⟩:=Rh hΓ F z
  obtain ⟨v,x,g2⟩:=JG hΓ l q
  exact ⟨v,x,g1.trans g2⟩
theorem Qv {Γ:Ap} (hΓ:Γ.AG ρ) {nt:Nat} {h:Ak} {Q:Exit->Act->World->Prop} {r:Ba×Fr} (L:Dp ρ nt μ h w Q (Qw Γ r)):Dp ρ nt μ h w Q r:=by
 unfold Qw at L
 split at L
 ·rename_i z l x B
  intro C v w' e F g j
  obtain ⟨A,q,g2⟩:=JG hΓ (z::l) F
  rw [x]at j
  exact L A v w' e q (g.trans g2) j
 ·exact L
end
end
section
def empty (d:Nat) (fx:Ap:={}):Ak:=⟨Tr.full Block d,0,fx⟩
theorem Ii (d:Nat) (fx:Ap) (b:Nat):(empty d fx).get b=none:=Tr.JB d b
theorem Nh {ρ:Env} {T:Nat->Option Obj} (d:Nat) {fx:Ap} (w:World) (q:∀g o,ρ.AO g=some o->w.heap[g]?=some o) (j:∀g o,T g=some o->w.heap[g]?=some o) (hf:fx.AG ρ):AI ρ ⟨fun _=>none,T⟩ (empty d fx) w where
 AO:=⟨fun g o h=>⟨q g o h,by rintro ⟨_,_,_,_,e⟩;cases e⟩,fun g o h=>⟨j g o h,by rintro ⟨_,_,_,_,e⟩;cases e⟩,hf⟩
 fresh:=fun _ _=>rfl
 blk:=fun b B hb=>by rw [Ii]at hb;cases hb
 inj:=fun b _ B _ _ _ _ hb=>by rw [Ii]at hb;cases hb
theorem Yk {ρ:Env} (d:Nat) (w:World) (j:∀g o,ρ.AO g=some o->w.heap[g]?=some o):AI ρ As.none (empty d) w:=
 Nh d w j (fun _ _ h=>by cases h) (Ap.AG.none ρ)
theorem Ad5 {σ:List Nat} {i b:Nat} (h:Ca σ i=some b):i<σ.length:=by
 rw [Fo]at h
 exact (List.getElem?_eq_some_iff.1 h).1
theorem SJ {n:Nat}:∀{l:List Nat},Ab2 n l=true↔n∈l
 |[]=>by
  constructor
  ·intro h;cases h
  ·intro h;cases h
 |m::r=>by
  have e:Ab2 n (m::r)=(Nat.beq m n||Ab2 n r):=rfl
  rw [e,Bool.or_eq_true,Ao,SJ,List.mem_cons]
  constructor
  ·rintro (h|h)
   ·exact .inl h.symm
   ·exact .inr h
  ·rintro (h|h)
   ·exact .inl h.symm
   ·exact .inr h
theorem ER:∀{l:List Nat},II l=true->l.Nodup
 |[],_=>List.nodup_nil
 |n::r,h=>by
  have e:II (n::r)=(!(Ab2 n r)&&II r):=rfl
  rw [e,aT]at h
  refine List.nodup_cons.2 ⟨fun j=>?_,ER h.2⟩
  rw [SJ.2 j]at h
  cases h.1
theorem EG:∀l:List Block,G0 l=l.length
 |[]=>rfl
 |_::r=>by show G0 r+1=_;rw [EG r];rfl
theorem Gh:∀l:List (Option Block),SE l=l.length
 |[]=>rfl
 |_::r=>by show SE r+1=_;rw [Gh r];rfl
theorem SG {σ:List Nat} (A:σ.Nodup) {i j b:Nat} (v:Ca σ i=some b) (q:Ca σ j=some b):i=j:=by
 rw [Fo]at v q
 obtain ⟨C,x⟩:=List.getElem?_eq_some_iff.1 v
 obtain ⟨B,z⟩:=List.getElem?_eq_some_iff.1 q
 exact (List.getElem_inj A).1 (x.trans z.symm)
theorem FN:∀(l:List (Option Block)) (k n i:Nat),(Lb l k n)[i]?=if k+i<l.length then some (n+i)else none
 |[],k,n,i=>by rw [if_neg (by simp)];show ([]:List Nat)[i]?=none;simp
 |_::r,0,n,i=>by
  show (n::Lb r 0 (n+1))[i]?=_
  cases i with
  |zero=>simp
  |succ i=>
   rw [List.getElem?_cons_succ,FN r 0 (n+1) i]
   simp only [lC,Nat.zero_add,Nat.add_lt_add_iff_right]
   rw [show n+1+i=n+(i+1) by omega]
 |_::r,k+1,n,i=>by
  show (Lb r k n)[i]?=_
  rw [FN r k n i,lC]
  by_cases hc:k+i<r.length
  ·rw [if_pos hc,if_pos (by omega)]
  ·rw [if_neg hc,if_neg (by omega)]
theorem BW:∀(l:List Block) (h:Ak),(AV l h).next=h.next+l.length/\(AV l h).fx=h.fx/\
  ∀b,(AV l h).get b=if h.next<=b/\b<h.next+l.length then l[b-h.next]? else h.get b
 |[],h=>⟨rfl,rfl,fun b=>by rw [if_neg (by simp only [lN];omega)];rfl⟩
 |B::r,h=>by
  have e:AV (B::r) h=AV r (h.add B):=rfl
  obtain ⟨j,hf,q⟩:=BW r (h.add B)
  rw [e]
  refine ⟨by rw [j,Ak.J2,lC];omega,hf,fun b=>?_⟩
  rw [q b,Ak.J2,lC,Ak.JC]
  by_cases hb:b=h.next
  ·subst hb
   rw [if_neg (by omega),if_pos rfl,if_pos (by omega)]
   simp
  ·by_cases hc:h.next+1<=b/\b<h.next+1+r.length
   ·rw [if_pos hc,if_pos (by omega)]
    have:b-h.next=(b-(h.next+1))+1:=by omega
    rw [this,List.getElem?_cons_succ]
   ·rw [if_neg hc,if_neg hb,if_neg (by omega)]
theorem C1:∀(l:List (Option Block)) (h:Ak),(Cv l h).next=h.next+l.length/\(Cv l h).fx=h.fx/\
  ∀b,(Cv l h).get b=if h.next<=b/\b<h.next+l.length then (l[b-h.next]?).join else h.get b
 |[],h=>⟨rfl,rfl,fun b=>by rw [if_neg (by simp only [lN];omega)];rfl⟩
 |B::r,h=>by
  have e:Cv (B::r) h=Cv r ⟨Tr.set h.DD h.next B,h.next+1,h.fx⟩:=rfl
  obtain ⟨j,hf,v⟩:=C1 r ⟨Tr.set h.DD h.next B,h.next+1,h.fx⟩
  rw [e]
  refine ⟨by rw [j,lC];show h.next+1+_=_;omega,hf,fun b=>?_⟩
  have q:(⟨Tr.set h.DD h.next B,h.next+1,h.fx⟩:Ak).get b=if b=h.next then B else h.get b:=Tr.Bb _ _ _ _
  rw [v b,lC,q]
  show (if h.next+1<=b/\b<h.next+1+r.length then (r[b-(h.next+1)]?).join else _)=_
  by_cases hb:b=h.next
  ·subst hb
   rw [if_neg (by omega),if_pos rfl,if_pos (by omega)]
   simp
  ·by_cases hc:h.next+1<=b/\b<h.next+1+r.length
   ·rw [if_pos hc,if_pos (by omega)]
    have:b-h.next=(b-(h.next+1))+1:=by omega
    rw [this,List.getElem?_cons_succ]
   ·rw [if_neg hc,if_neg hb,if_neg (by omega)]
theorem Cs {d:Nat} {fx:Ap} {l:List Block} {b:Nat}:(AV l (empty d fx)).get b=l[b]?:=by
 obtain ⟨_,_,h⟩:=BW l (empty d fx)
 rw [h b]
 have e:(empty d fx).next=0:=rfl
 rw [e]
 by_cases hb:b<l.length
 ·rw [if_pos (by omega)];rfl
 ·rw [if_neg (by omega),Ii,List.getElem?_eq_none (by omega)]
theorem Dr {d:Nat} {fx:Ap} {l:List (Option Block)} {b:Nat}:(Cv l (empty d fx)).get b=(l[b]?).join:=by
 obtain ⟨_,_,h⟩:=C1 l (empty d fx)
 rw [h b]
 have e:(empty d fx).next=0:=rfl
 rw [e]
 by_cases hb:b<l.length
 ·rw [if_pos (by omega)];rfl
 ·rw [if_neg (by omega),Ii,List.getElem?_eq_none (by omega)];rfl
theorem BR {d:Nat} {fx:Ap} {l:List Block}:(AV l (empty d fx)).next=l.length:=by
 have h:=(BW l (empty d fx)).1
 rw [h];show 0+_=_;omega
theorem D0 {d:Nat} {fx:Ap} {l:List (Option Block)}:(Cv l (empty d fx)).next=l.length:=by
 have h:=(C1 l (empty d fx)).1
 rw [h];show 0+_=_;omega
section
variable {ρ:Env} {μ μ':As} {σ:List Nat}
structure Ren (μ' μ:As) (σ:List Nat):Prop where
 spot:∀i b,Ca σ i=some b->μ' i=μ b
 AU:μ'.AU=μ.AU
theorem S2 (R:Ren μ' μ σ) {p a:Aa} (h:AaW σ p=some a) {u:Value}:(Ag ρ μ a u↔Ag ρ μ' p u)/\a.single=p.single:=by
 have q:=R.spot
 cases p<;>simp only [AaW,oI,reduceCtorEq]at h
 case ptr b o=>
  obtain ⟨c,hc,e⟩:=Ac h
  simp only [oI]at e
  subst e
  simp only [Ag,q _ _ hc,Aa.single,and_self]
 case slice b o l c=>
  obtain ⟨c,hc,e⟩:=Ac h
  simp only [oI]at e
  subst e
  simp only [Ag,q _ _ hc,Aa.single,and_self]
 case gslice b o l es=>
  obtain ⟨c,hc,e⟩:=Ac h
  simp only [oI]at e
  subst e
  simp only [Ag,q _ _ hc,Aa.single,and_self]
 case map b=>
  obtain ⟨c,hc,e⟩:=Ac h
  simp only [oI]at e
  subst e
  simp only [Ag,q _ _ hc,Aa.single,and_self]
 case vec b es n=>
  obtain ⟨c,hc,e⟩:=Ac h
  simp only [oI]at e
  subst e
  simp only [Ag,q _ _ hc,Aa.single,and_self]
 case vptr b es j o=>
  obtain ⟨c,hc,e⟩:=Ac h
  simp only [oI]at e
  subst e
  simp only [Ag,q _ _ hc,Aa.single,and_self]
 case gbytes b=>
  obtain ⟨c,hc,e⟩:=Ac h
  simp only [oI]at e
  subst e
  simp only [Ag,q _ _ hc,Aa.single,and_self]
 all_goals
  subst h
  simp only [Ag,R.AU,Aa.single,and_self]
theorem Kl (R:Ren μ' μ σ):∀{l r:List Aa} {us:List Value},Ws σ l=some r->(A6 ρ μ r us↔A6 ρ μ' l us)
 |[],r,us,h=>by
  have h:some []=some r:=h
  simp only [oI]at h
  subst h
  simp only [A6]
 |v::l,r,us,h=>by
  have h:(AA (AaW σ v) fun u=>AA (Ws σ l) fun us=>some (u::us))=some r:=h
  obtain ⟨u,q,h⟩:=Ac h
  obtain ⟨x,j,h⟩:=Ac h
  simp only [oI]at h
  subst h
  simp only [A6,(S2 R q).1,Kl R j]
theorem CV (R:Ren μ' μ σ) {p a:Aa} (h:Jx σ p=some a) {u:Value}:(Ag ρ μ a u↔Ag ρ μ' p u)/\a.single=p.single:=by
 unfold Jx at h
 split at h
 ·obtain ⟨x,q,h⟩:=Ac h
  obtain ⟨y,j,h⟩:=Ac h
  simp only [oI]at h
  subst h
  simp only [Ag,Kl R q,Kl R j,Aa.single,and_self]
 ·exact S2 R h
theorem XU {a:Aa} {u:Value} (h:Ag ρ μ a u):Ag ρ μ (loose a) u/\(loose a).single=a.single:=by
 cases a<;>simp only [loose,and_true]<;>try exact h
 case lst f i es n=>
  obtain ⟨j,q,_⟩:=h.lst
  exact ⟨by simp only [Ag];exact ⟨j,q,fun e=>by cases e⟩,rfl⟩
theorem DZ {Γ:Ap} (hΓ:Γ.AG ρ) (R:Ren μ' μ σ) {p a:Aa} (h:HB Γ σ p a=true) {u:Value} (B:Ag ρ μ a u):Ag ρ μ' p u/\p.single=a.single:=by
 unfold HB at h
 split at h
 ·rename_i v A
  rw [Bool.or_eq_true,Bool.or_eq_true]at h
  rcases h with (h|h) |h
  ·have h:=Aa.Dj h
   subst h
   obtain ⟨q,x⟩:=CV (ρ:=ρ) R A (u:=u)
   exact ⟨q.1 B,x.symm⟩
  ·have h:=Aa.Dj h
   subst h
   obtain ⟨q,x⟩:=CV (ρ:=ρ) R A (u:=u)
   obtain ⟨J,L⟩:=XU B
   exact ⟨q.1 J,by rw [<-x,L]⟩
  ·split at h
   ·rename_i j M n
    rw [aT,aT]at h
    obtain ⟨C,z,H⟩:=h
    have ha:a=.nilSlice:=by
     unfold AbI at C
     split at C
     ·rfl
     ·cases C
    subst ha
    have hl:(ρ.lst j).length=0:=by
     unfold Acf at z
     split at z
     ·rename_i e
      have:=hΓ.Bc _ (Cy e)
      have this:(0:Int)=((ρ.lst j).length:Int):=this
      omega
     ·cases z
    have I:ρ.lst j=[]:=List.eq_nil_of_length_eq_zero hl
    have e:u=.slice none 0 0:=by simpa only [Ag]using B
    obtain ⟨q,x⟩:=CV (ρ:=ρ) R A (u:=u)
    refine ⟨q.1 ?_,by rw [<-x];rfl⟩
    rw [ST.AX H]
    simp only [Ag,GQ]
    exact ⟨⟨0,by rw [hl];exact Nat.le_refl _,.inl ⟨I,none,e⟩⟩,by rw [hl];rfl,fun e=>by cases e⟩
   ·cases h
 ·cases h
theorem HA {Γ:Ap} (p a:Aa) (ps as:List Aa):Gr Γ σ (p::ps) (a::as)=(HB Γ σ p a&&Gr Γ σ ps as):=rfl
theorem F9 {Γ:Ap}:∀{ps as:List Aa},Gr Γ σ ps as=true->ps.length=as.length
 |[],[],_=>rfl
 |[],_::_,h=>by cases h
 |_::_,[],h=>by cases h
 |p::ps,a::as,h=>by
  rw [HA,aT]at h
  simp [F9 h.2]
theorem IU {Γ:Ap}:∀{ps as:List Aa},Gr Γ σ ps as=true->∀(i:Nat) (p a:Aa),ps[i]?=some p->as[i]?=some a->HB Γ σ p a=true
 |[],[],_,i,p,a,h,_=>by simp at h
 |[],_::_,h,_,_,_,_,_=>by cases h
 |_::_,[],h,_,_,_,_,_=>by cases h
 |p::ps,a::as,h,i,q,b,h1,h2=>by
  rw [HA,aT]at h
  cases i with
  |zero=>
   simp only [List.getElem?_cons_zero,oI]at h1 h2
   subst h1 h2
   exact h.1
  |succ i=>exact IU h.2 i q b (by simpa using h1) (by simpa using h2)
theorem K7 {Γ:Ap} (hΓ:Γ.AG ρ) (R:Ren μ' μ σ):∀{ps as:List Aa} {us:List Value},Gr Γ σ ps as=true->Aw ρ μ as us->Aw ρ μ' ps us
 |[],[],us,_,h=>by simp only [Aw]at h⊢;exact h
 |[],_::_,_,h,_=>by cases h
 |_::_,[],_,h,_=>by cases h
 |p::ps,a::as,us,h,hr=>by
  rw [HA,aT]at h
  simp only [Aw]at hr⊢
  obtain ⟨u,rest,e,⟨x,v⟩,z⟩:=hr
  obtain ⟨j,q⟩:=DZ hΓ R h.1 v
  exact ⟨u,rest,e,⟨by rw [q];exact x,j⟩,K7 hΓ R h.2 z⟩
theorem KB {Γ:Ap} (hΓ:Γ.AG ρ) (R:Ren μ' μ σ) {p a:Aa} (h:Ng Γ σ p a=true) {u:Value} (j:Ag ρ μ a u):Ag ρ μ' p u:=by
 unfold Ng at h
 split at h
 ·obtain ⟨x,e,q⟩:=j.agg
  subst e
  simp only [Ag]
  exact ⟨x,rfl,K7 hΓ R h q⟩
 ·exact (DZ hΓ R h j).1
theorem Gs {Γ:Ap} (hΓ:Γ.AG ρ) (R:Ren μ' μ σ):∀{ps as:List Aa} {us:List Value},KA Γ σ ps as=true->A6 ρ μ as us->A6 ρ μ' ps us
 |[],[],us,_,h=>by simp only [A6]at h⊢;exact h
 |[],_::_,_,h,_=>by cases h
 |_::_,[],_,h,_=>by cases h
 |p::ps,a::as,us,h,hr=>by
  have e:KA Γ σ (p::ps) (a::as)=(Ng Γ σ p a&&KA Γ σ ps as):=rfl
  rw [e,aT]at h
  simp only [A6]at hr⊢
  obtain ⟨u,rest,e,q,j⟩:=hr
  exact ⟨u,rest,e,KB hΓ R h.1 q,Gs hΓ R h.2 j⟩
theorem M8 {i:Nat} {v:List (Aa×List Aa)}:∀{l:List (Nat×List (Aa×List Aa))},UF i l=some v->(i,v)∈l
 |[],h=>by cases h
 |e::r,h=>by
  have h:(bif Nat.beq e.1 i then some e.2 else UF i r)=some v:=h
  cases c:Nat.beq e.1 i with
  |true=>
   rw [c]at h
   simp only [cond_true,oI]at h
   rw [<-h,<-Nat.eq_of_beq_eq_true c]
   exact List.mem_cons_self
  |false=>rw [c]at h;exact List.mem_cons_of_mem _ (M8 h)
theorem Tj:∀{z:List Entry} {l:List (Aa×List Aa)} {ms:List MapEntry} {d:List (List Nat×List PV)},Ah0 z l=true->AcF ρ l d->BM ρ μ z ms->Jc μ.AU d ms
 |[],[],ms,d,_,hd,h=>by
  have hd:d=[]:=hd
  subst hd
  exact h
 |[],_::_,_,_,h,_,_=>by cases h
 |_::_,[],_,_,h,_,_=>by cases h
 |e::z,x::l,ms,d,h,hd,hr=>by
  have h:(e.key.eq x.1&&((match e.val with|.agg cs=>RB cs&&Aa.Po (CG cs) x.2|_=>false)&&Ah0 z l))=true:=h
  rw [aT,aT]at h
  obtain ⟨N,j,J⟩:=h
  obtain ⟨s,ps,rest,rfl,C,d2,I⟩:=hd
  obtain ⟨m,q,rfl,⟨_,m1,m2,_⟩,m4⟩:=hr
  rw [<-Aa.Dj N]at C
  obtain ⟨b,H,L⟩:=BH C m1
  split at j
  ·rename_i cs B
   rw [aT]at j
   rw [B]at m2
   obtain ⟨a,O,ha⟩:=m2.agg
   have A:a.size=ps.length:=by
    have P:=ha.length
    have R:=d2.length
    have Q:(CG cs).length=x.2.length:=by rw [Aa.Da j.2]
    rw [F7]at Q
    simp at P
    omega
   refine ⟨m,q,rfl,⟨b,H,L⟩,⟨a,O,A,?_⟩,Tj J I m4⟩
   exact Aw.freeze (by rw [Aa.Da j.2];exact d2) ha fun i v M=>by simpa using M
  ·cases j
theorem Mt {i j:Nat}:∀{l:List (Nat×List AE)},(∀x∈l,Bu ρ x.2 (ρ.lst x.1))->Abd i j l=true->∃n,ρ.lst i=(ρ.lst j).take n
 |[],_,h=>by cases h
 |x::r,hl,h=>by
  have h:((Nat.beq x.1 i&&(match x.2 with|[.take k _]=>Nat.beq k j|_=>false)) ||Abd i j r)=true:=h
  rw [Bool.or_eq_true]at h
  rcases h with h|h
  ·rw [aT,Ao]at h
   obtain ⟨I,q⟩:=h
   have hd:=hl x List.mem_cons_self
   split at q
   ·rename_i k t e
    have q:=Ao.1 q
    rw [e,I,q]at hd
    obtain ⟨A,B,z,⟨_,_,C⟩,v⟩:=hd
    have v:B=[]:=v
    subst v
    rw [List.append_nil]at z
    exact ⟨_,z.trans C⟩
   ·cases q
  ·exact Mt (fun y H=>hl y (List.mem_cons_of_mem _ H)) h
theorem Lj {Γ:Ap} (hΓ:Γ.AG ρ) (R:Ren μ' μ σ):∀{ps as:List Entry} {ms:List MapEntry},Ru Γ σ ps as=true->BM ρ μ as ms->BM ρ μ' ps ms
 |[],[],ms,_,h=>h
 |[],_::_,ms,h,_=>by cases h
 |_::_,[],ms,h,_=>by cases h
 |p::ps,a::as,ms,h,he=>by
  have h:(HB Γ σ p.key a.key&&(HB Γ σ p.val a.val&&(Nat.beq p.born a.born&&Ru Γ σ ps as)))=true:=h
  rw [aT,aT,aT,Ao]at h
  obtain ⟨m,rest,rfl,⟨j,q,v,A⟩,x⟩:=he
  obtain ⟨z,B⟩:=DZ hΓ R h.1 q
  exact ⟨m,rest,rfl,⟨by rw [B];exact j,z,(DZ hΓ R h.2.1 v).1,by rw [A,h.2.2.1]⟩,Lj hΓ R h.2.2.2 x⟩
theorem Pp {Γ:Ap} (hΓ:Γ.AG ρ) (R:Ren μ' μ σ) {B A:Block} (h:Nf Γ σ B A=true) {o:Option Obj} {δ:Nat×Nat} (q:C4 ρ μ A o δ):C4 ρ μ' B o δ:=by
 unfold Nf at h
 split at h
 ·rename_i ps as
  obtain ⟨c,e,z,X,hc⟩:=q
  have hl:=F9 h
  refine ⟨c,e,z,X,fun i p L=>?_⟩
  have hi:=(List.getElem?_eq_some_iff.1 L).1
  obtain ⟨a,ha⟩:∃a,as[i]?=some a:=⟨_,List.getElem?_eq_getElem (by omega)⟩
  obtain ⟨v,x,C,U⟩:=hc i a ha
  obtain ⟨O,Y⟩:=DZ hΓ R (IU h i p a L ha) U
  exact ⟨v,x,by rw [Y];exact C,O⟩
 ·rename_i e ps e' as
  rw [aT,Ao]at h
  obtain ⟨rfl,h⟩:=h
  obtain ⟨c,z,⟨h0,hs⟩,X,hc⟩:=q
  have hl:=F9 h
  refine ⟨c,z,⟨h0,by rw [hl];exact hs⟩,X,fun i p L=>?_⟩
  have hi:=(List.getElem?_eq_some_iff.1 L).1
  obtain ⟨a,ha⟩:∃a,as[i]?=some a:=⟨_,List.getElem?_eq_getElem (by omega)⟩
  obtain ⟨v,x,C,U⟩:=hc i a ha
  obtain ⟨O,Y⟩:=DZ hΓ R (IU h i p a L ha) U
  exact ⟨v,x,by rw [Y];exact C,O⟩
 ·rename_i i es j ah
  rw [aT,Bool.or_eq_true,Ao,Ao]at h
  obtain ⟨h,rfl⟩:=h
  obtain ⟨c,e,I,H,Q,P,V,N,M⟩:=q
  rcases h with rfl|h
  ·exact ⟨c,e,I,H,Q,P,V,N,by rw [R.AU];exact M⟩
  ·obtain ⟨n,hn⟩:=Mt hΓ.defs h
   refine ⟨c,e,I,H,?_,P,V,N,?_⟩
   ·rw [hn,lT'];omega
   ·rw [R.AU,hn]
    rw [Bx]at M⊢
    refine ⟨fun ps ac=>M.1 ps (List.mem_of_mem_take ac),?_⟩
    have:=M.2
    rw [<-List.take_append_drop n (ρ.lst j),List.flatten_append,AK.append_iff]at this
    exact this.1
 ·have h:=Ao.1 h
  subst h
  obtain ⟨J,ms,c,I,H⟩:=q
  exact ⟨J,ms,c,I,by rw [R.AU];exact H⟩
 ·rename_i ps c as d
  rw [aT,Ao]at h
  obtain ⟨rfl,h⟩:=h
  obtain ⟨J,ms,z,Z⟩:=q
  exact ⟨J,ms,z,Lj hΓ R h Z⟩
 ·rename_i i es aa
  obtain ⟨l,hl,C⟩:=Ac (Fq.1 h)
  simp only [oI]at C
  obtain ⟨J,ms,z,Z⟩:=q
  exact ⟨J,ms,aa,z,by rw [R.AU];exact Tj C (hΓ.C6 _ (M8 hl)) Z⟩
 ·rw [aT,Ao]at h
  obtain ⟨x,rfl⟩:=h
  rw [ST.AX x]
  exact q
 ·rename_i t e n e'
  rw [aT,Ao]at h
  obtain ⟨x,rfl⟩:=h
  rw [ST.AX x]
  obtain ⟨c,I,H,Q,P,V,N⟩:=q
  refine ⟨c,I,H,Q,?_,?_,N⟩
  ·show (BE _:Int)<=Int.ofNat n
   simp only [Int.ofNat_eq_natCast];omega
  ·show Int.ofNat n<=1048576
   simp only [Int.ofNat_eq_natCast];omega
 ·rw [aT,Ao,Ao]at h
  obtain ⟨rfl,rfl⟩:=h
  exact q
 ·cases h
theorem Nd {Γ:Ap} {h:Ak}:∀{l:List Block} {k:Nat},Yj Γ h σ l k=true->∀i B,l[i]?=some B->∃b A,Ca σ (k+i)=some b/\h.get b=some A/\Nf Γ σ B A=true
 |[],_,_,i,vs,hv=>by simp at hv
 |W::r,k,hb,i,B,hv=>by
  have e:Yj Γ h σ (W::r) k=(eqB Γ h σ k W&&Yj Γ h σ r (k+1)):=rfl
  rw [e,aT]at hb
  cases i with
  |zero=>
   simp only [List.getElem?_cons_zero,oI]at hv
   subst hv
   have j:=hb.1
   unfold eqB at j
   split at j
   ·rename_i b q
    split at j
    ·rename_i A x
     exact ⟨b,A,q,x,j⟩
    ·cases j
   ·cases j
  |succ i=>
   obtain ⟨b,A,j,v,z⟩:=Nd hb.2 i B (by simpa using hv)
   exact ⟨b,A,by rw [<-j];congr 1;omega,v,z⟩
theorem Kk:∀{l r:List Aa},Mn σ l=some r->l.length=r.length/\∀(i:Nat) (a:Aa),r[i]?=some a->∃p,l[i]?=some p/\Jx σ p=some a
 |[],r,h=>by
  have h:some []=some r:=h
  simp only [oI]at h
  subst h
  exact ⟨rfl,fun i a ha=>by simp at ha⟩
 |v::l,r,h=>by
  have h:(AA (Jx σ v) fun u=>AA (Mn σ l) fun us=>some (u::us))=some r:=h
  obtain ⟨u,z,h⟩:=Ac h
  obtain ⟨us,j,h⟩:=Ac h
  simp only [oI]at h
  subst h
  obtain ⟨q,x⟩:=Kk j
  refine ⟨by simp [q],fun i a ha=>?_⟩
  cases i with
  |zero=>
   simp only [List.getElem?_cons_zero,oI]at ha
   subst ha
   exact ⟨v,rfl,z⟩
  |succ i=>simpa using x i a (by simpa using ha)
theorem Q0 (R:Ren μ' μ σ):∀{l r:List Aa} {us:List Value},Mn σ l=some r->Aw ρ μ' l us->Aw ρ μ r us
 |[],r,us,h,hr=>by
  have h:some []=some r:=h
  simp only [oI]at h
  subst h
  exact hr
 |v::l,r,us,h,hr=>by
  have h:(AA (Jx σ v) fun u=>AA (Mn σ l) fun us=>some (u::us))=some r:=h
  obtain ⟨u,C,h⟩:=Ac h
  obtain ⟨I,j,h⟩:=Ac h
  simp only [oI]at h
  subst h
  simp only [Aw]at hr⊢
  obtain ⟨x,rest,rfl,⟨B,A⟩,H⟩:=hr
  obtain ⟨q,z⟩:=CV (ρ:=ρ) R C (u:=x)
  exact ⟨x,rest,rfl,⟨by rw [z];exact B,q.2 A⟩,Q0 R j H⟩
theorem Wr (R:Ren μ' μ σ):∀{l r:List Aa} {us:List Value},Mn σ l=some r->A6 ρ μ' l us->A6 ρ μ r us
 |[],r,us,h,hr=>by
  have h:some []=some r:=h
  simp only [oI]at h
  subst h
  exact hr
 |v::l,r,us,h,hr=>by
  have h:(AA (Jx σ v) fun u=>AA (Mn σ l) fun us=>some (u::us))=some r:=h
  obtain ⟨u,A,h⟩:=Ac h
  obtain ⟨C,j,h⟩:=Ac h
  simp only [oI]at h
  subst h
  simp only [A6]at hr⊢
  obtain ⟨x,rest,rfl,z,B⟩:=hr
  obtain ⟨q,H⟩:=CV (ρ:=ρ) R A (u:=x)
  exact ⟨x,rest,rfl,q.2 z,Wr R j B⟩
theorem AaS (R:Ren μ' μ σ) {p a:Aa} (h:Adr σ p=some a) {u:Value} (j:Ag ρ μ' p u):Ag ρ μ a u:=by
 unfold Adr at h
 split at h
 ·obtain ⟨cs,q,e⟩:=Ac h
  simp only [oI]at e
  subst e
  obtain ⟨x,rfl,v⟩:=j.agg
  simp only [Ag]
  exact ⟨x,rfl,Q0 R q v⟩
 ·exact (CV R h).1.2 j
theorem S1 (R:Ren μ' μ σ):∀{l r:List Aa} {us:List Value},AaT σ l=some r->A6 ρ μ' l us->A6 ρ μ r us
 |[],r,us,h,hr=>by
  have h:some []=some r:=h
  simp only [oI]at h
  subst h
  exact hr
 |v::l,r,us,h,hr=>by
  have h:(AA (Adr σ v) fun u=>AA (AaT σ l) fun us=>some (u::us))=some r:=h
  obtain ⟨a,ha,A⟩:=Ac h
  obtain ⟨as,q,j⟩:=Ac A
  simp only [oI]at j
  subst j
  simp only [A6]at hr⊢
  obtain ⟨u,rest,rfl,x,z⟩:=hr
  exact ⟨u,rest,rfl,AaS R ha x,S1 R q z⟩
theorem S3 (R:Ren μ' μ σ) {p a:Aa} (h:Uz σ p=some a) {u:Value} (q:Ag ρ μ' p u):Ag ρ μ a u:=by
 unfold Uz at h
 split at h
 ·obtain ⟨cs,j,e⟩:=Ac h
  simp only [oI]at e
  subst e
  obtain ⟨x,rfl,v⟩:=q.agg
  simp only [Ag]
  exact ⟨x,rfl,Q0 R j v⟩
 ·obtain ⟨cs,j,e⟩:=Ac h
  simp only [oI]at e
  subst e
  obtain ⟨x,rfl,v⟩:=q.tuple
  simp only [Ag]
  exact ⟨x,rfl,S1 R j v⟩
 ·exact (CV R h).1.2 q
theorem OF (R:Ren μ' μ σ):∀{l r:List Entry} {ms:List MapEntry},AaU σ l=some r->BM ρ μ' l ms->BM ρ μ r ms
 |[],r,ms,h,he=>by
  have h:some []=some r:=h
  simp only [oI]at h
  subst h
  exact he
 |e::l,r,ms,h,he=>by
  have h:(AA (Jx σ e.key) fun k=>AA (Jx σ e.val) fun v=>AA (AaU σ l) fun j=>some (⟨k,v,e.born⟩::j))=some r:=h
  obtain ⟨k,A,h⟩:=Ac h
  obtain ⟨v,H,h⟩:=Ac h
  obtain ⟨j,q,h⟩:=Ac h
  simp only [oI]at h
  subst h
  obtain ⟨m,rest,rfl,⟨x,B,C,J⟩,z⟩:=he
  obtain ⟨I,L⟩:=CV (ρ:=ρ) R A (u:=m.key)
  exact ⟨m,rest,rfl,⟨by rw [L];exact x,I.2 B,(CV R H).1.2 C,J⟩,OF R q z⟩
theorem AaX (R:Ren μ' μ σ) {B C:Block} (h:X5 σ B=some C) {o:Option Obj} {δ:Nat×Nat} (hB:C4 ρ μ' B o δ):C4 ρ μ C o δ:=by
 unfold X5 at h
 split at h
 ·rename_i vs
  obtain ⟨us,j,e⟩:=Ac h
  simp only [oI]at e
  subst e
  obtain ⟨U,O⟩:=Kk j
  obtain ⟨c,e,q,N,hc⟩:=hB
  refine ⟨c,e,q,N,fun i a ha=>?_⟩
  obtain ⟨p,I,J⟩:=O i a ha
  obtain ⟨v,A,x,L⟩:=hc i p I
  obtain ⟨z,Q⟩:=CV (ρ:=ρ) R J (u:=v)
  exact ⟨v,A,by rw [Q];exact x,z.2 L⟩
 ·rename_i t vs
  obtain ⟨us,j,e⟩:=Ac h
  simp only [oI]at e
  subst e
  obtain ⟨U,O⟩:=Kk j
  obtain ⟨c,q,⟨Y,hs⟩,N,hc⟩:=hB
  refine ⟨c,q,⟨Y,by rw [<-U];exact hs⟩,N,fun i a ha=>?_⟩
  obtain ⟨p,I,J⟩:=O i a ha
  obtain ⟨v,A,x,L⟩:=hc i p I
  obtain ⟨z,Q⟩:=CV (ρ:=ρ) R J (u:=v)
  exact ⟨v,A,by rw [Q];exact x,z.2 L⟩
 ·simp only [oI]at h
  subst h
  obtain ⟨c,e,P,M,Z,X,x5,x6,x7⟩:=hB
  exact ⟨c,e,P,M,Z,X,x5,x6,by rw [<-R.AU];exact x7⟩
 ·simp only [oI]at h
  subst h
  obtain ⟨H,ms,c,P,M⟩:=hB
  exact ⟨H,ms,c,P,by rw [<-R.AU];exact M⟩
 ·simp only [oI]at h
  subst h
  exact hB
 ·simp only [oI]at h
  subst h
  exact hB
 ·obtain ⟨es,V,e⟩:=Ac h
  simp only [oI]at e
  subst e
  obtain ⟨H,ms,q,he⟩:=hB
  exact ⟨H,ms,q,OF R V he⟩
theorem U1 (B:Option Block) (r:List (Option Block)) (i:Nat) (h:Ak):OG σ (B::r) i h=AA (Adu σ i B h) fun j=>OG σ r (i+1) j:=rfl
theorem X8 {i:Nat} {B:Option Block} {h q:Ak} (j:Adu σ i B h=some q):q.next=h.next/\q.fx=h.fx/\∃b,Ca σ i=some b/\∃C,(match B with|some B=>∃D,X5 σ B=some D/\C=some D|none=>C=none)/\∀d,q.get d=if d=b then C else h.get d:=by
 unfold Adu at j
 obtain ⟨b,hb,j⟩:=Ac j
 cases B with
 |none=>
  simp only [oI]at j
  subst j
  exact ⟨rfl,rfl,b,hb,none,rfl,fun d=>Ak.Bb _ _ _ _⟩
 |some B=>
  obtain ⟨D,v,j⟩:=Ac j
  simp only [oI]at j
  subst j
  exact ⟨rfl,rfl,b,hb,some D,⟨D,v,rfl⟩,fun d=>Ak.Bb _ _ _ _⟩
theorem Mr (M:σ.Nodup):∀{l:List (Option Block)} {i:Nat} {h q:Ak},OG σ l i h=some q->q.next=h.next/\q.fx=h.fx/\(∀b,(∀j,j<l.length->Ca σ (i+j)≠some b)->q.get b=h.get b)/\
  ∀j B,l[j]?=some B->∃b,Ca σ (i+j)=some b/\(match B with|some B=>∃D,X5 σ B=some D/\q.get b=some D|none=>q.get b=none)
 |[],i,h,q,v=>by
  have v:some h=some q:=v
  simp only [oI]at v
  subst v
  exact ⟨rfl,rfl,fun _ _=>rfl,fun j B hB=>by simp at hB⟩
 |B::r,i,h,q,v=>by
  rw [U1]at v
  obtain ⟨U,J,N⟩:=Ac v
  obtain ⟨n1,P,b,hb,C,L,g1⟩:=X8 J
  obtain ⟨n2,O,g2,g3⟩:=Mr M N
  refine ⟨n2.trans n1,O.trans P,fun d hd=>?_,fun j D A=>?_⟩
  ·have I:∀j,j<r.length->Ca σ (i+1+j)≠some d:=fun j Q=>by
    rw [show i+1+j=i+(j+1) by omega];exact hd (j+1) (by simp;omega)
   have R:d≠b:=fun e=>by
    subst e;exact hd 0 (by simp) (by simpa using hb)
   rw [g2 d I,g1 d,if_neg R]
  ·cases j with
   |zero=>
    simp only [List.getElem?_cons_zero,oI]at A
    subst A
    have x:q.get b=C:=by
     have I:∀j,j<r.length->Ca σ (i+1+j)≠some b:=fun j Q e=>by
      have:=SG M hb e
      omega
     rw [g2 b I,g1 b,if_pos rfl]
    refine ⟨b,by simpa using hb,?_⟩
    cases B with
    |none=>exact x.trans L
    |some B=>obtain ⟨D,z,H⟩:=L;exact ⟨D,z,x.trans H⟩
   |succ j=>
    obtain ⟨d,z,H⟩:=g3 j D (by simpa using A)
    exact ⟨d,by rw [<-z];congr 1;omega,H⟩
end
noncomputable def F5 (μ:As) (σ:List Nat):As:=⟨fun i=>(Ca σ i).bind μ.spot,μ.AU⟩
structure Fits (Γ:Ap) (h:Ak) (σ:List Nat) (pre:List Block) (n:Nat):Prop where
 len:σ.length=pre.length
 ple:pre.length<=n
 nodup:σ.Nodup
 bs:Yj Γ h σ pre 0=true
section
variable {ρ:Env} {μ:As} {Γ:Ap} {h:Ak} {w:World} {σ:List Nat} {pre:List Block} {post:List (Option Block)}
theorem Fits.lt (F:Fits Γ h σ pre post.length) (H:AI ρ μ h w):∀i b,Ca σ i=some b->i<pre.length/\b<h.next:=fun i b e=>by
 have q:=Ad5 e
 rw [F.len]at q
 obtain ⟨x,A,j,v,_⟩:=Nd F.bs i _ (List.getElem?_eq_getElem q)
 rw [Nat.zero_add,e]at j
 simp only [oI]at j
 subst j
 exact ⟨q,H.Fp v⟩
theorem Fits.ren:Ren (F5 μ σ) μ σ:=⟨fun i b e=>by show (Ca σ i).bind μ.spot=_;rw [e];rfl,rfl⟩
theorem Fits.get (F:Fits Γ h σ pre post.length):∀b B,(AV pre (empty 0)).get b=some B->∃c A,pre[b]?=some B/\Ca σ b=some c/\h.get c=some A/\Nf Γ σ B A=true:=fun b B e=>by
 rw [Cs]at e
 obtain ⟨c,A,j,q,v⟩:=Nd F.bs b B e
 rw [Nat.zero_add]at j
 exact ⟨c,A,e,j,q,v⟩
theorem Fits.own (F:Fits Γ h σ pre post.length):∀r,AJ (F5 μ σ) (AV pre (empty 0)) r->∃i b B δ,Ca σ i=some b/\h.get b=some B/\μ b=some (r,δ):=fun r ⟨b,B,δ,hb,hm⟩=>by
 obtain ⟨c,A,_,j,q,_⟩:=F.get b B hb
 rw [Fits.ren.spot b c j]at hm
 exact ⟨b,c,A,δ,j,q,hm⟩
theorem Fits.before (hΓ:Γ.AG ρ) (F:Fits Γ h σ pre post.length) (H:AI ρ μ h w):AI ρ (F5 μ σ) (AV pre (empty 0)) w:=by
 have x:∀r,AJ (F5 μ σ) (AV pre (empty 0)) r->AJ μ h r:=fun r q=>by
  obtain ⟨i,b,B,δ,_,j,v⟩:=F.own r q
  exact ⟨b,B,δ,j,v⟩
 refine ⟨fun b hb=>?_,fun b B hb=>?_,fun b L B N r δ R hb M z C=>?_,⟨fun g o e=>⟨(H.AO.AO g o e).1,fun q=>(H.AO.AO g o e).2 (x g q)⟩,fun g o e=>⟨(H.AO.AU g o e).1,fun q=>(H.AO.AU g o e).2 (x g q)⟩,?_⟩⟩
 ·rw [BR]at hb
  show (Ca σ b).bind μ.spot=none
  cases e:Ca σ b with
  |none=>rfl
  |some c=>have:=(F.lt H b c e).1;omega
 ·obtain ⟨c,A,_,j,v,P⟩:=F.get b B hb
  obtain ⟨r,δ,z,Q⟩:=H.blk c A v
  exact ⟨r,δ,by rw [Fits.ren.spot b c j];exact z,Pp hΓ Fits.ren P Q⟩
 ·obtain ⟨c,A,_,j,v,_⟩:=F.get b B hb
  obtain ⟨O,U,_,I,J,_⟩:=F.get L N M
  rw [Fits.ren.spot b c j]at z
  rw [Fits.ren.spot L O I]at C
  have:=H.inj _ _ _ _ _ _ _ v J z C
  subst this
  exact SG F.nodup j I
 ·rw [(BW pre (empty 0)).2.1]
  exact Ap.AG.none ρ
theorem Fits.after (F:Fits Γ h σ pre post.length) (H:AI ρ μ h w) {h1:Ak} (ap:OG (σ++Lb post pre.length h.next) post 0 ⟨h.DD,h.next+(post.length-pre.length),h.fx⟩=some h1) {μ':As} {w':World} (M:Av ρ (F5 μ σ) (AV pre (empty 0)) w μ' (Cv post (empty 0)) w'):
  ∃I,Av ρ μ h w I h1 w'/\Ren μ' I (σ++Lb post pre.length h.next):=by
 have av:=F.len
 have aE:=F.ple
 have aB:=F.nodup
 have U:=F.lt H
 have own:=F.own (μ:=μ)
 have ao:∀r,AJ (F5 μ σ) (AV pre (empty 0)) r->AJ μ h r:=fun r ho=>by
  obtain ⟨i,b,B,δ,_,x,v⟩:=own r ho
  exact ⟨b,B,δ,x,v⟩
 generalize hσ':σ++Lb post pre.length h.next=σ' at ap⊢
 have hσ'get:∀i b,Ca σ' i=some b↔(i<pre.length/\Ca σ i=some b)∨(pre.length<=i/\i<post.length/\b=h.next+(i-pre.length)):=fun i b=>by
  rw [<-hσ',Fo,Fo]
  by_cases N:i<pre.length
  ·rw [List.getElem?_append_left (by omega)]
   constructor
   ·intro e;exact .inl ⟨N,e⟩
   ·rintro (⟨_,e⟩|⟨e,_⟩)
    ·exact e
    ·omega
  ·rw [List.getElem?_append_right (by omega),FN,av]
   constructor
   ·intro e
    split at e
    ·simp only [oI]at e
     exact .inr ⟨by omega,by omega,e.symm⟩
    ·cases e
   ·rintro (⟨e,_⟩|⟨P,Y,e3⟩)
    ·omega
    ·rw [if_pos (by omega),e3]
 have ax:σ'.Nodup:=by
  rw [<-hσ',List.nodup_append]
  refine ⟨aB,?_,fun a ha b hb e=>?_⟩
  ·rw [List.nodup_iff_pairwise_ne,List.pairwise_iff_getElem]
   intro i j N hj aH e
   have P:=List.getElem?_eq_getElem N
   have Y:=List.getElem?_eq_getElem hj
   rw [FN]at P Y
   split at P<;>split at Y<;>simp at P Y
   omega
  ·subst e
   obtain ⟨i,N⟩:=List.mem_iff_getElem?.1 ha
   obtain ⟨j,hj⟩:=List.mem_iff_getElem?.1 hb
   rw [FN]at hj
   split at hj
   ·simp only [oI]at hj
    have:=(U i a (by rw [Fo];exact N)).2
    omega
   ·cases hj
 obtain ⟨n1,f1,g1,g2⟩:=Mr ax ap
 have n1:h1.next=h.next+(post.length-pre.length):=n1
 let I:As:=⟨fun b=>if h.next<=b/\b<h.next+(post.length-pre.length)then μ' (pre.length+(b-h.next))else μ b,μ'.AU⟩
 have z:∀b,b<h.next->I b=μ b:=fun b hb=>by
  show (if _ then _ else _)=_
  rw [if_neg (by omega)]
 have Z:Ren μ' I σ':=⟨fun i b e=>by
  rcases (hσ'get i b).1 e with ⟨N,e⟩|⟨hi1,hi2,rfl⟩
  ·rw [z b (U i b e).2,M.old i (by rw [BR];exact N)]
   exact Fits.ren.spot i b e
  ·show _=(if _ then _ else _)
   rw [if_pos (by omega)]
   congr 1;omega,rfl⟩
 have au:μ.le I:=⟨fun b y e=>by
  have hb:b<h.next:=by
   rcases Nat.lt_or_ge b h.next with hb|hb
   ·exact hb
   ·rw [H.fresh b hb]at e;cases e
  rw [z b hb];exact e,fun k o e=>M.le.AU k o e⟩
 have ae:∀b B,h1.get b=some B->(∃i O,Ca σ' i=some b/\(Cv post (empty 0)).get i=some O/\X5 σ' O=some B)∨((∀i,Ca σ i≠some b)/\h.get b=some B):=fun b B hb=>by
  by_cases hex:∃i,Ca σ' i=some b
  ·obtain ⟨i,N⟩:=hex
   left
   have aq:i<post.length:=by
    rcases (hσ'get i b).1 N with ⟨q,_⟩|⟨_,q,_⟩
    ·omega
    ·exact q
   obtain ⟨b',x,v⟩:=g2 i _ (List.getElem?_eq_getElem aq)
   rw [Nat.zero_add,N]at x
   simp only [oI]at x
   subst x
   cases X:post[i]with
   |none=>rw [X]at v;simp only at v;rw [hb]at v;cases v
   |some O=>
    rw [X]at v
    obtain ⟨D,J,k4⟩:=v
    rw [hb]at k4
    simp only [oI]at k4
    subst k4
    refine ⟨i,O,N,?_,J⟩
    rw [Dr,List.getElem?_eq_getElem aq,X];rfl
  ·right
   have R:∀i,Ca σ' i≠some b:=fun i e=>hex ⟨i,e⟩
   refine ⟨fun i e=>R i ((hσ'get i b).2 (.inl ⟨(U i b e).1,e⟩)),?_⟩
   have:=g1 b fun j _=>by rw [Nat.zero_add];exact R j
   rw [this]at hb
   exact hb
 have af:∀r,AJ μ' (Cv post (empty 0)) r->∀b B δ,(∀i,Ca σ i≠some b)->h.get b=some B->μ b=some (r,δ)->False:=fun r ho b B δ R hb A=>by
  have az:=H.lt hb A
  refine (M.kept r az fun X=>?_).2 ho
  obtain ⟨i,c,C,δ',x,v,J⟩:=own r X
  have:=H.inj _ _ _ _ _ _ _ hb v A J
  subst this
  exact R i x
 have al:∀r,AJ I h1 r->AJ μ' (Cv post (empty 0)) r∨∃b B δ,(∀i,Ca σ i≠some b)/\h.get b=some B/\μ b=some (r,δ):=fun r ⟨b,B,δ,hb,A⟩=>by
  rcases ae b B hb with ⟨i,O,x,v,J⟩|⟨x,v⟩
  ·left
   rw [<-Z.spot i b x]at A
   exact ⟨i,O,δ,v,A⟩
  ·right
   rw [z b (H.Fp v)]at A
   exact ⟨b,B,δ,x,v,A⟩
 have ad:∀r,r<w.heap.size->¬AJ μ h r->w'.heap[r]?=w.heap[r]?/\¬AJ I h1 r:=fun r hr ho=>by
  obtain ⟨Q,V⟩:=M.kept r hr fun X=>ho (ao r X)
  refine ⟨Q,fun hq=>?_⟩
  rcases al r hq with hq|⟨b,B,δ,_,v,J⟩
  ·exact V hq
  ·exact ho ⟨b,B,δ,v,J⟩
 have ak:∀k o,μ'.AU k=some o->μ.AU k=some o∨AJ (F5 μ σ) (AV pre (empty 0)) k∨w.heap.size<=k:=M.icy
 have H1:AI ρ I h1 w':=by
  refine ⟨fun b hb=>?_,fun b B hb=>?_,fun b b' B B' r δ δ' hb aC A L=>?_,⟨fun k o hk=>?_,fun k o hk=>?_,?_⟩⟩
  ·rw [n1]at hb
   show (if _ then _ else _)=none
   rw [if_neg (by omega)]
   exact H.fresh b (by omega)
  ·rcases ae b B hb with ⟨i,O,x,v,J⟩|⟨x,v⟩
   ·obtain ⟨r,δ,P,Y⟩:=M.rel.blk i O v
    exact ⟨r,δ,by rw [<-Z.spot i b x];exact P,AaX Z J Y⟩
   ·obtain ⟨r,δ,P,Y⟩:=H.blk b B v
    refine ⟨r,δ,by rw [z b (H.Fp v)];exact P,?_⟩
    have R:¬AJ (F5 μ σ) (AV pre (empty 0)) r:=fun X=>by
     obtain ⟨i,c,C,δ',Q,V,q3⟩:=own r X
     have:=H.inj _ _ _ _ _ _ _ v V P q3
     subst this
     exact x i Q
    rw [(M.kept r (H.lt v P) R).1]
    exact Y.mono au
  ·rcases ae b B hb with ⟨i,O,x,v,J⟩|⟨x,v⟩<;>rcases ae b' B' aC with ⟨i',Bp',k1',k2',k3'⟩|⟨k1',k2'⟩
   ·rw [<-Z.spot i b x]at A
    rw [<-Z.spot i' b' k1']at L
    have:=M.rel.inj _ _ _ _ _ _ _ v k2' A L
    subst this
    rw [x]at k1'
    simpa using k1'
   ·rw [<-Z.spot i b x]at A
    rw [z b' (H.Fp k2')]at L
    exact (af r ⟨i,O,δ,v,A⟩ b' B' δ' k1' k2' L).elim
   ·rw [<-Z.spot i' b' k1']at L
    rw [z b (H.Fp v)]at A
    exact (af r ⟨i',Bp',δ',k2',L⟩ b B δ x v A).elim
   ·rw [z b (H.Fp v)]at A
    rw [z b' (H.Fp k2')]at L
    exact H.inj _ _ _ _ _ _ _ v k2' A L
  ·obtain ⟨Q,V⟩:=H.AO.AO k o hk
   obtain ⟨q3,q4⟩:=ad k (Array.getElem?_eq_some_iff.1 Q).1 V
   exact ⟨q3.trans Q,q4⟩
  ·obtain ⟨Q,V⟩:=M.rel.AO.AU k o hk
   refine ⟨Q,fun hq=>?_⟩
   rcases al k hq with hq|⟨b,B,δ,x,v,J⟩
   ·exact V hq
   ·rcases ak k o hk with i1|i1|i1
    ·exact (H.AO.AU k o i1).2 ⟨b,B,δ,v,J⟩
    ·obtain ⟨i,c,C,δ',Q,V,q3⟩:=own k i1
     have:=H.inj _ _ _ _ _ _ _ v V J q3
     subst this
     exact x i Q
    ·have:=H.lt v J;omega
  ·rw [f1];exact H.AO.facts
 refine ⟨I,⟨au,H1,M.size,ad,M.os,M.output,by rw [n1];omega,z,fun k o hk=>?_,f1⟩,Z⟩
 ·rcases ak k o hk with i1|i1|i1
  ·exact .inl i1
  ·exact .inr (.inl (ao k i1))
  ·exact .inr (.inr i1)
end
end
section
section
variable {P:Program} {Γ:Ap} {ρ:Env} {pl:List Co} {nt:Nat} {call:Cl} {fuel:Nat}
theorem Rr (d:Bool) (l:List Step) (k:Nat) (f:Fr):Fy Γ call fuel (.region d l) k f=Q1 Γ call d l f:=rfl
theorem Yh (a b:IC) (k:Nat) (f:Fr):Fy Γ call fuel (.seq a b) k f=AA (Fy Γ call fuel a k f) fun r=>andThen r fun j=>Fy Γ call fuel b k j:=rfl
theorem MY (c:Ct) (a b:IC) (k:Nat) (f:Fr):Fy Γ call fuel (.cond c a b) k f=Acl (ev f.tm c) (Fy Γ call fuel a k f) (Fy Γ call fuel b k f):=rfl
theorem Te (id:Nat) (b:IC) (k:Nat) (f:Fr):Fy Γ call fuel (.block id b) k f=AA (Fy Γ call fuel b id f) fun r=>some (Gl id r):=rfl
theorem Vk (b:IC) (k:Nat) (f:Fr):Fy Γ call fuel (.loop b) k f=iter (fun f=>I0 Γ k f Γ.loops) (fun f=>Fy Γ call fuel b k f) fuel f:=rfl
def Dg:Nat->Code->List (Nat×Code)
 |k,.seq a b=>Dg k a++Dg k b
 |k,.cond _ a b=>Dg k a++Dg k b
 |_,.block id b=>Dg id b
 |k,.loop b=>(k,b)::Dg k b
 |_,_=>[]
def B4.Pm (k:B4):Exit:=bif k.out then .ret else .exit k.id
theorem B4.AbV (k:B4) {ρ:Env} {μ:As}:AcP ρ μ k.MW k.Pm:=by
 unfold B4.MW B4.Pm
 cases k.out<;>exact rfl
theorem B4.AdF {k:B4} {ρ:Env} {μ:As} {e:Exit} (h:AcP ρ μ k.MW e):e=k.Pm:=by
 unfold B4.MW at h
 unfold B4.Pm
 cases hk:k.out<;>rw [hk]at h<;>exact h
def DP (P:Program) (ρ:Env) (nt:Nat) (x:Code) (k:B4):Prop:=
 ∃n,∀μ a w (Q:Exit->Act->World->Prop),CI ρ μ nt ⟨Ox k.Xr .nil,AV k.pre (empty 0),k.df⟩ a w->
  (∀q j w',CI ρ q nt ⟨Ox k.NM .nil,Cv k.post (empty 0),k.df⟩ j w'->Av ρ μ (AV k.pre (empty 0)) w q (Cv k.post (empty 0)) w'->Q k.Pm j w')->Code.rounds P x Q n a w
def Dw (P:Program) (ρ:Env) (nt:Nat) (l:List B4) (cur:Nat) (c:Code):Prop:=∀y∈Dg cur c,∀k∈l,k.id=y.1->DP P ρ nt y.2 k
theorem Dw.none {P:Program} {ρ:Env} {nt cur:Nat} {c:Code}:Dw P ρ nt [] cur c:=fun _ _ k j=>by cases j
theorem PD:∀(l:List (Nat×Aa)) (t:Tr Aa) (n:Nat) (v:Aa),(Ox l t).get n=some v->(n,v)∈l∨t.get n=some v
 |[],t,n,v,e=>.inr e
 |x::l,t,n,v,e=>by
  have e:(Ox l (t.set x.1 (some x.2))).get n=some v:=e
  rcases PD l _ n v e with k|k
  ·exact .inl (List.mem_cons_of_mem _ k)
  ·rw [Tr.Bb]at k
   split at k
   ·rename_i hb
    simp only [oI]at k
    subst k
    rw [hb]
    exact .inl (List.mem_cons_self)
   ·exact .inr k
theorem K6 {σ:List Nat} {t:Tr Aa}:∀{l:List (Nat×Aa)},WR Γ σ t l=true->∀i v,(i,v)∈l->Ng Γ σ v (Em (t.get i))=true
 |[],_,b,B,hm=>by simp at hm
 |x::l,hf,b,B,hm=>by
  have hf:(Ng Γ σ x.2 (Em (t.get x.1))&&WR Γ σ t l)=true:=hf
  rw [aT]at hf
  rcases List.mem_cons.1 hm with e|hm
  ·subst e
   exact hf.1
  ·exact K6 hf.2 b B hm
theorem Mm {σ:List Nat}:∀{l:List (Nat×Aa)} {t t' u:Tr Aa},Uy σ l t=some t'->(∀n v,t.get n=some v->∃p,u.get n=some p/\Uz σ p=some v)->∀n v,t'.get n=some v->∃p,(Ox l u).get n=some p/\Uz σ p=some v
 |[],t,t',u,h,ht,n,v,e=>by
  have h:some t=some t':=h
  simp only [oI]at h
  subst h
  exact ht n v e
 |x::l,t,t',u,h,ht,n,v,e=>by
  have h:(AA (Uz σ x.2) fun v=>Uy σ l (Tr.set t x.1 (some v)))=some t':=h
  obtain ⟨y,A,h⟩:=Ac h
  refine Mm (u:=u.set x.1 (some x.2)) h (fun m z j=>?_) n v e
  rw [Tr.Bb]at j
  by_cases hm:m=x.1
  ·rw [if_pos hm]at j
   simp only [oI]at j
   subst j
   exact ⟨x.2,by rw [Tr.Bb,if_pos hm],A⟩
  ·rw [if_neg hm]at j
   obtain ⟨p,q,B⟩:=ht m z j
   exact ⟨p,by rw [Tr.Bb,if_neg hm];exact q,B⟩
theorem Tk {μ j:As} {σ:List Nat} (hΓ:Γ.AG ρ) (R:Ren j μ σ) {p q:List (FuncId×List Aa)} (h:AdG Γ σ p q=true) {ds:List Deferred} (hd:C2 ρ μ q ds):C2 ρ j p ds:=by
 unfold AdG at h
 split at h
 ·exact hd
 ·rw [aT]at h
  obtain ⟨c,rest,v,⟨cap,A,x⟩,z⟩:=hd
  exact ⟨c,rest,v,⟨cap,by rw [A,Ao.1 h.1],Gs hΓ R h.2 x⟩,z⟩
 ·cases h
theorem X4 {μ j:As} {σ:List Nat} (R:Ren j μ σ) {p q:List (FuncId×List Aa)} (h:AaV σ p=some q) {ds:List Deferred} (hd:C2 ρ j p ds):C2 ρ μ q ds:=by
 unfold AaV at h
 split at h
 ·simp only [oI]at h
  subst h
  exact hd
 ·obtain ⟨l,hl,h⟩:=Ac h
  simp only [oI]at h
  subst h
  obtain ⟨c,rest,v,⟨cap,A,x⟩,z⟩:=hd
  exact ⟨c,rest,v,⟨cap,A,Wr R hl x⟩,z⟩
 ·cases h
theorem NV {x:Code} {k:B4} (O:DP P ρ nt x k) {f:Fr} {r:Ba×Fr} (j:L9 Γ k f=some r) (hΓ:Γ.AG ρ):
  ∃n,∀{μ:As} {a:Act} {w:World} {Q:Exit->Act->World->Prop},CI ρ μ nt f a w->Dp ρ nt μ f.h w Q r->Code.rounds P x Q n a w:=by
 obtain ⟨n,O⟩:=O
 refine ⟨n,fun {μ a w Q} F L=>?_⟩
 unfold L9 at j
 obtain ⟨A,j⟩:=Aq j
 generalize RT f.h k.pre 0 (YC k.df f.df (TB f.tm k.Xr []))=σ at A j
 unfold Aex at A
 rw [aT,aT,aT,aT,aT]at A
 obtain ⟨X,z,B,Z,U,V⟩:=A
 have z:=Ao.1 z
 rw [Df,EG]at z
 have B:=AL.1 B
 rw [EG,Gh]at B
 unfold Acy at j
 obtain ⟨h1,C,j⟩:=Ac j
 obtain ⟨tm,N,j⟩:=Ac j
 obtain ⟨df,M,j⟩:=Ac j
 simp only [oI]at j
 subst j
 rw [EG]at C N M
 rw [Gh]at C
 have H:=F.heap
 have FF:Fits Γ f.h σ k.pre k.post.length:=⟨z,B,ER Z,V⟩
 refine O (F5 μ σ) a w Q ⟨fun t=>?_,F.size,Fits.before hΓ FF H,Tk hΓ Fits.ren X F.defs⟩ fun μ' a' w' R g'=>?_
 ·show Ag ρ (F5 μ σ) (Em ((Ox k.Xr .nil).get t)) _
  cases hg:(Ox k.Xr .nil).get t with
  |none=>trivial
  |some v=>
   rcases PD _ _ _ _ hg with q|q
   ·exact KB hΓ Fits.ren (K6 U t v q) (F.tmps t)
   ·cases q
 ·obtain ⟨I,J,Y⟩:=FF.after H C g'
  refine L I a' w' k.Pm ⟨fun t=>?_,R.size,J.rel,?_⟩ J k.AbV
  ·show Ag ρ I (Em (tm.get t)) _
   cases hg:tm.get t with
   |none=>trivial
   |some v=>
    obtain ⟨p,k1,k2⟩:=Mm (u:=.nil) N (fun n v e=>by cases e) t v hg
    have:=R.tmps t
    rw [k1]at this
    exact S3 Y k2 this
  ·exact X4 Y M R.defs
theorem Ld {x:Code} {cur:Nat} {f:Fr} {r:Ba×Fr} (hΓ:Γ.AG ρ):∀{l:List B4},(∀k∈l,k.id=cur->DP P ρ nt x k)->I0 Γ cur f l=some r->
  ∃n,∀{μ:As} {a:Act} {w:World} {Q:Exit->Act->World->Prop},CI ρ μ nt f a w->Dp ρ nt μ f.h w Q r->Code.rounds P x Q n a w
 |[],_,h=>by cases h
 |k::l,hl,h=>by
  have h:(bif Nat.beq k.id cur then (match L9 Γ k f with|some x=>some x|none=>I0 Γ cur f l)else I0 Γ cur f l)=some r:=h
  have rest:I0 Γ cur f l=some r->∃n,∀{μ:As} {a:Act} {w:World} {Q:Exit->Act->World->Prop},CI ρ μ nt f a w->Dp ρ nt μ f.h w Q r->Code.rounds P x Q n a w:=Ld hΓ fun y j=>hl y (List.mem_cons_of_mem _ j)
  rw [AH]at h
  split at h
  ·rename_i e
   split at h
   ·rename_i y j
    simp only [oI]at h
    subst h
    exact NV (hl k List.mem_cons_self e) j hΓ
   ·exact rest h
  ·exact rest h
theorem IM {μ:As} {h:Ak} {w:World} {H r:Ba×Fr} {k:Fr->Option (Ba×Fr)} (j:andThen H k=some r) {K:Act->World->Prop} {Q:Exit->Act->World->Prop} (L:Dp ρ nt μ h w Q r)
  (I:∀z,H=(.normal,z)->k z=some r->∀B A w',CI ρ B nt z A w'->Av ρ μ h w B z.h w'->K A w'):Dp ρ nt μ h w (Exit.then K Q) H:=by
 intro B A w' e F g q
 obtain ⟨x,z⟩:=H
 cases x with
 |normal=>
  have q:e=.normal:=q
  subst q
  exact I z rfl j B A w' F g
 |exit i=>
  have j:some (Ba.exit i,z)=some r:=j
  simp only [oI]at j
  subst j
  have C:=L B A w' e F g q
  have q:e=.exit i:=q
  subst q
  exact C
 |ret=>
  have j:some (Ba.ret,z)=some r:=j
  simp only [oI]at j
  subst j
  have C:=L B A w' e F g q
  have q:e=.ret:=q
  subst q
  exact C
 |panic v=>
  have j:some (Ba.panic v,z)=some r:=j
  simp only [oI]at j
  subst j
  have C:=L B A w' e F g q
  obtain ⟨u,rfl,_⟩:=q
  exact C
theorem SN {μ:As} {h:Ak} {w:World} {id:Nat} {r:Ba×Fr} {Q:Exit->Act->World->Prop} (L:Dp ρ nt μ h w Q (Gl id r)):Dp ρ nt μ h w (Exit.inBlock id Q) r:=by
 intro A q w' e F g j
 obtain ⟨x,B⟩:=r
 cases x with
 |normal=>
  have z:=L A q w' e F g j
  have j:e=.normal:=j
  subst j
  exact z
 |ret=>
  have z:=L A q w' e F g j
  have j:e=.ret:=j
  subst j
  exact z
 |panic v=>
  have z:=L A q w' e F g j
  obtain ⟨u,rfl,_⟩:=j
  exact z
 |exit i=>
  have j:e=.exit i:=j
  subst j
  unfold Gl at L
  simp only at L
  show if i=id then Q .normal q w' else Q (.exit i) q w'
  rw [AH]at L
  by_cases hi:i=id
  ·rw [if_pos hi]at L
   rw [if_pos hi]
   exact L A q w' .normal F g rfl
  ·rw [if_neg hi]at L
   rw [if_neg hi]
   exact L A q w' (.exit i) F g rfl
theorem EO {x:Code} {cur:Nat} {body:Fr->Option (Ba×Fr)} (hΓ:Γ.AG ρ) (z:∀k∈Γ.loops,k.id=cur->DP P ρ nt x k)
  (hb:∀{μ:As} {f:Fr} {a:Act} {w:World} {r:Ba×Fr} {Q:Exit->Act->World->Prop},body f=some r->CI ρ μ nt f a w->Dp ρ nt μ f.h w Q r->x.wp P Q a w):
  ∀(n:Nat) {f:Fr} {r:Ba×Fr},iter (fun f=>I0 Γ cur f Γ.loops) body n f=some r->∃m,∀{μ:As} {a:Act} {w:World} {Q:Exit->Act->World->Prop},CI ρ μ nt f a w->Dp ρ nt μ f.h w Q r->Code.rounds P x Q m a w
 |0,f,r,j=>by cases j
 |n+1,f,r,j=>by
  have j:(match I0 Γ cur f Γ.loops with
   |some r=>some r
   |none=>AA (body f) fun r=>andThen r fun v=>iter (fun f=>I0 Γ cur f Γ.loops) body n v)=some r:=j
  split at j
  ·rename_i y H
   simp only [oI]at j
   subst j
   exact Ld hΓ z H
  ·obtain ⟨A,q,j⟩:=Ac j
   obtain ⟨J,M⟩:=A
   cases J with
   |normal=>
    obtain ⟨m,I⟩:=EO hΓ z hb n j
    refine ⟨m+1,fun {μ a w Q} F L=>?_⟩
    rw [rounds_succ]
    refine hb q F (IM j L fun v e B O N w' C g=>?_)
    simp only [Prod.mk.injEq,true_and]at e
    subst e
    exact I C (L.grow g)
   |_=>
    refine ⟨1,fun {μ a w Q} F L=>?_⟩
    rw [rounds_succ]
    exact hb q F (IM j L fun v e B=>by simp at e)
theorem H9 (hΓ:Γ.AG ρ) (hc:B9 P ρ call) (R:P.follows .mixedOrders=true):∀(c:Code) {cur:Nat} (_:Dw P ρ nt Γ.loops cur c) {B:IC} {μ:As} {f:Fr} {a:Act} {w:World} {r:Ba×Fr} {Q:Exit->Act->World->Prop},
  AS P pl nt c=some B->Fy Γ call fuel B cur f=some r->CI ρ μ nt f a w->Dp ρ nt μ f.h w Q r->c.wp P Q a w:=by
 intro c
 induction c with
 |skip=>
  intro cur A B μ f a w r Q q v F L
  simp only [AS,oI]at q
  subst q
  have v:some (Ba.normal,f)=some r:=v
  simp only [oI]at v
  subst v
  exact wp_skip (L μ a w .normal F (Av.refl F.heap) rfl)
 |exit id=>
  intro cur A B μ f a w r Q q v F L
  simp only [AS,oI]at q
  subst q
  have v:some (Ba.exit id,f)=some r:=v
  simp only [oI]at v
  subst v
  exact wp_exit (L μ a w (.exit id) F (Av.refl F.heap) rfl)
 |ret=>
  intro cur A B μ f a w r Q q v F L
  simp only [AS,oI]at q
  subst q
  have v:some (Ba.ret,f)=some r:=v
  simp only [oI]at v
  subst v
  exact wp_ret (L μ a w .ret F (Av.refl F.heap) rfl)
 |region id ops draw=>
  intro cur A B μ f a w r Q q v F L
  simp only [AS]at q
  obtain ⟨N,hs,e⟩:=mS q
  subst e
  rw [Rr]at v
  unfold Q1 at v
  obtain ⟨x,O,e⟩:=Ac v
  simp only [oI]at e
  subst e
  clear v
  have L:=Qv hΓ L
  cases draw with
  |true=>
   simp only [Gv,if_true]at hs
   exact Vq hΓ hc R hs O F L
  |false=>
   simp only [Gv,Bool.false_eq_true,if_false]at hs
   refine wp_region ?_
   rw [List.range_eq_range',<-Array.length_toList]
   exact O8 hΓ hc ops.toList N 0 (fun j=>by simp) hs O F L
 |seq x y ihx ihy=>
  intro cur A B μ f a w r Q q v F L
  simp only [AS]at q
  split at q
  ·rename_i X i2 H U
   simp only [oI]at q
   subst q
   rw [Yh]at v
   obtain ⟨r1,C,v⟩:=Ac v
   have J:Dw P ρ nt Γ.loops cur x:=fun y I=>A y (List.mem_append_left _ I)
   have Z:Dw P ρ nt Γ.loops cur y:=fun z hz=>A z (List.mem_append_right _ hz)
   exact wp_seq (ihx J H C F (IM v L fun f' _ V μ' a' w' F' g=>ihy Z U V F' (L.grow g)))
  ·cases q
 |cond c x y ihx ihy=>
  intro cur A B μ f a w r Q q v F L
  simp only [AS]at q
  split at q
  ·rename_i X i2 H U
   simp only [oI]at q
   subst q
   rw [MY]at v
   have M:=Au F.tmps c
   unfold Acl at v
   split at v
   ·rename_i b e1
    rw [e1]at M
    have M:=Ag.bool M
    simp only [SB.den]at M
    refine wp_cond M ?_
    cases b with
    |true=>exact ihx (fun y I=>A y (List.mem_append_left _ I)) H v F L
    |false=>exact ihy (fun y I=>A y (List.mem_append_right _ I)) U v F L
   ·cases v
  ·cases q
 |block id x ih=>
  intro cur A B μ f a w r Q q v F L
  simp only [AS]at q
  obtain ⟨X,H,e⟩:=mS q
  subst e
  rw [Te]at v
  obtain ⟨r1,C,v⟩:=Ac v
  simp only [oI]at v
  subst v
  exact wp_block (ih A H C F (SN L))
 |loop x ih=>
  intro cur A B μ f a w r Q q v F L
  simp only [AS]at q
  obtain ⟨X,H,e⟩:=mS q
  subst e
  rw [Vk]at v
  have J:Dw P ρ nt Γ.loops cur x:=fun y I=>A y (List.mem_cons_of_mem _ I)
  have Y:∀k∈Γ.loops,k.id=cur->DP P ρ nt x k:=fun k V e=>A (cur,x) List.mem_cons_self k V e
  obtain ⟨m,key⟩:=EO hΓ Y (fun C F L=>ih J H C F L) fuel v
  exact wp_loop_rounds m (key F L)
 |refuse why=>
  intro cur A B μ f a w r Q q v F L
  simp only [AS,oI]at q
  subst q
  rw [MY]at v
  cases v
 |_=>
  intro cur A B μ f a w r Q q
  simp [AS]at q
theorem MX (hΓ:Γ.AG ρ) (z:Γ.loops=[]) (hc:B9 P ρ call) (j:P.follows .mixedOrders=true) (c:Code) {q:IC} {μ:As} {f:Fr} {a:Act} {w:World} {r:Ba×Fr} {Q:Exit->Act->World->Prop} (x:AS P pl nt c=some q) (v:exec Γ call fuel q f=some r) (F:CI ρ μ nt f a w) (L:Dp ρ nt μ f.h w Q r):c.wp P Q a w:=
 H9 hΓ hc j c (cur:=0) (by rw [z];exact Dw.none) x v F L
end
end
section
section
variable {P:Program} {Γ:Ap} {ρ:Env} {μ:As} {tm:Tr Aa} {a:Act} {w:World} {h:Ak} {pl:List Co} {call:Cl} {fuel:Nat}
theorem N5:∀(l:List Aa) (i:Nat) (t:Tr Aa) (n:Nat),(N6 l i t).get n=if i<=n/\n<i+l.length then l[n-i]? else t.get n
 |[],i,t,n=>by
  show t.get n=_
  rw [if_neg (by simp)]
 |v::r,i,t,n=>by
  have e:N6 (v::r) i t=N6 r (i+1) (t.set i (some v)):=rfl
  rw [e,N5 r,Tr.Bb]
  simp only [lC]
  by_cases h1:i+1<=n/\n<i+1+r.length
  ·rw [if_pos h1,if_pos (by omega)]
   rw [show n-i=(n-(i+1))+1 from by omega,List.getElem?_cons_succ]
  ·rw [if_neg h1]
   by_cases h2:n=i
   ·subst h2
    rw [if_pos rfl,if_pos (by omega)]
    simp
   ·rw [if_neg h2,if_neg (by omega)]
theorem Acx {F:Eu} {args:List Aa} {j:Array Value} (x:A6 ρ μ args j.toList) (k:Nat):AT ρ μ (Hg F args h).tm {tmps:=j++Array.replicate k undef,defers:=[]}:=by
 intro t
 show Ag ρ μ (Em ((N6 args 0 (Tr.full Aa F.depth)).get t)) _
 rw [N5]
 split
 ·rename_i A
  rw [Nat.sub_zero,List.getElem?_eq_getElem (by omega)]
  obtain ⟨v,q,z⟩:=x.get (List.getElem?_eq_getElem (show t<args.length from by omega))
  have hs:t<j.size:=by
   have:=(List.getElem?_eq_some_iff.1 q).1
   simpa using this
  have:(j++Array.replicate k undef).getD t undef=v:=by
   rw [Array.getD_eq_getD_getElem?,Array.getElem?_append_left hs]
   rw [Array.getElem?_toList]at q
   rw [q];rfl
  simp only [this]
  exact z
 ·rw [Tr.JB]
  trivial
theorem X3 (x:RO) (r:List RO):AaQ tm h (x::r)=AA (Qz tm h x) fun v=>AA (AaQ tm h r) fun vs=>some (v::vs):=rfl
def Jt (tmps:Array Value):ResultVar->Sem Value
 |.tmp t=>pure (tmps.getD t undef)
 |.cell a t=>do loadVar t (<-asAddr (tmps.getD a undef))
theorem Qy (H:AI ρ μ h w) (L:AT ρ μ tm a) {x:ResultVar} {i:RO} (hc:Gu P x=some i) {v:Aa} (q:Qz tm h i=some v):∃u,(Jt a.tmps x).run P w=.ok u w/\Ag ρ μ v u:=by
 cases x with
 |tmp t=>
  simp only [Gu,oI]at hc
  subst hc
  simp only [Qz,oI]at q
  subst q
  exact ⟨_,rfl,L t⟩
 |cell b t=>
  obtain ⟨n,M,e⟩:=mS hc
  subst e
  have q:MA h.fx h n (Em (tm.get b))=some v:=q
  obtain ⟨u,B,J⟩:=M9 H.AO.facts H M (L b) q
  have A:=L b
  unfold MA at q
  split at q
  ·rename_i O N j I C
   rw [C]at A
   obtain ⟨r,m,_,z,_⟩:=A.vptr
   refine ⟨u,?_,J⟩
   rw [z]at B
   show (do loadVar t (<-asAddr (a.tmps.getD b undef)):Sem Value).run P w=_
   rw [z]
   exact B
  ·rename_i c j I C
   rw [C]at A
   obtain ⟨r,δ,_,_,_,z,_⟩:=A.lptr
   refine ⟨u,?_,J⟩
   rw [z]at B
   show (do loadVar t (<-asAddr (a.tmps.getD b undef)):Sem Value).run P w=_
   rw [z]
   exact B
  ·rename_i c I C
   rw [C]at A
   obtain ⟨r,δ,m,_,z⟩:=A.ptr
   refine ⟨u,?_,J⟩
   rw [z]at B
   show (do loadVar t (<-asAddr (a.tmps.getD b undef)):Sem Value).run P w=_
   rw [z]
   exact B
  ·cases q
theorem Ml (H:AI ρ μ h w) (C:AT ρ μ tm a):∀{l:List ResultVar} {is:List RO} {vs:List Aa},B3 (l.map (Gu P))=some is->AaQ tm h is=some vs->∃us:List Value,(l.mapM (Jt a.tmps)).run P w=.ok us w/\A6 ρ μ vs us
 |[],is,vs,hc,j=>by
  simp only [List.map_nil,B3,oI]at hc
  subst hc
  have j:some []=some vs:=j
  simp only [oI]at j
  subst j
  exact ⟨[],by simp,by simp only [A6]⟩
 |x::l,is,vs,hc,j=>by
  have q:=Dl hc
  cases is with
  |nil=>simp at q
  |cons i is=>
   simp only [List.map_cons,List.cons.injEq]at q
   obtain ⟨N,z⟩:=q
   have I:B3 (l.map (Gu P))=some is:=by
    rw [z]
    clear z hc j
    induction is with
    |nil=>rfl
    |cons x r ih=>simp only [List.map_cons,B3,ih,Option.map_some]
   rw [X3]at j
   obtain ⟨v,A,j⟩:=Ac j
   obtain ⟨Q,B,j⟩:=Ac j
   simp only [oI]at j
   subst j
   obtain ⟨u,L,O⟩:=Qy H C N A
   obtain ⟨us,J,M⟩:=Ml H C I B
   refine ⟨u::us,?_,?_⟩
   ·rw [List.mapM_cons]
    simp [L,J]
   ·simp only [A6]
    exact ⟨_,_,rfl,O,M⟩
theorem F6 (H:AI ρ μ h w) (A:AT ρ μ tm a) {fn:Func} {is:List RO} (hc:B3 (fn.results.toList.map (Gu P))=some is) {vs:List Aa} (z:AaQ tm h is=some vs):∃u,(results fn a.tmps).run P w=.ok u w/\Ag ρ μ (oneOf vs) u:=by
 obtain ⟨us,B,j⟩:=Ml H A hc z
 have x:(fn.results.mapM (Jt a.tmps)).run P w=.ok us.toArray w:=by
  rw [Array.mapM_eq_mapM_toList]
  simp [B]
 have e:results fn a.tmps=(do
   let vs<-fn.results.mapM (Jt a.tmps)
   pure (if h:vs.size=1 then vs[0]else .tuple vs)):=by
  unfold results
  congr 2
 rw [e]
 refine ⟨(if h:us.toArray.size=1 then us.toArray[0]else .tuple us.toArray),by simp only [Sem.run_bind,x,Result.andThen_ok,Sem.run_pure],?_⟩
 cases vs with
 |nil=>
  simp only [A6]at j
  subst j
  simp only [oneOf,Ag]
  exact ⟨#[],by simp,by simp only [A6]⟩
 |cons v vs=>
  cases vs with
  |nil=>
   simp only [A6]at j
   obtain ⟨u,_,rfl,C,rfl⟩:=j
   simpa [oneOf]using C
  |cons v' vs=>
   have q:=j
   simp only [A6]at q
   obtain ⟨u,_,rfl,_,I,r,rfl,_⟩:=q
   simp only [oneOf,Ag]
   exact ⟨(u::I::r).toArray,by simp,j⟩
end
end
section
section
variable {P:Program} {Γ:Ap} {ρ:Env} {μ:As} {tm:Tr Aa} {a:Act} {w:World} {h:Ak} {pl:List Co} {call:Cl} {dcall:RP} {fuel:Nat}
def Ff (ρ:Env) (μ:As):CA->FrameMode->Prop
 |.returning,u=>u=.returning
 |.panicking v,u=>∃x,u=.panicking (Ib x)/\Ag ρ μ v x
theorem Ff.mono {q:As} (hl:μ.le q) {m:CA} {u:FrameMode} (j:Ff ρ μ m u):Ff ρ q m u:=by
 cases m with
 |returning=>exact j
 |panicking v=>obtain ⟨x,e,z⟩:=j;exact ⟨x,e,z.mono hl⟩
theorem Ff.settle {m:CA} {u:FrameMode} (j:Ff ρ μ m u):settle u=u:=by
 cases m with
 |returning=>have j:u=.returning:=j;subst j;rfl
 |panicking v=>obtain ⟨x,rfl,q⟩:=j;rfl
theorem Ff.Ahj {m:CA} {u:FrameMode} (j:Ff ρ μ m u):u≠.run:=by
 cases m with
 |returning=>have j:u=.returning:=j;subst j;simp
 |panicking v=>obtain ⟨x,rfl,q⟩:=j;simp
def Y7 (ρ:Env) (μ:As) (h:Ak) (w:World) (x:CA) (q:Ak) (e:Ending) (z:FrameMode) (w':World):Prop:=
 ∃j,Av ρ μ h w j q w'/\Ff ρ j x (Go.settle z)/\∃v,e=.returned v
def VF (P:Program) (ρ:Env) (dcall:RP):Prop:=
 ∀g args m h v q,dcall g args m h=some (v,q)->JW P g/\∀μ w (j:Array Value) u,AI ρ μ h w->A6 ρ μ args j.toList->Ff ρ μ m u->CallsD P g j u w (Y7 ρ μ h w v q)
theorem SL (d:FuncId×List Aa) (ds:List (FuncId×List Aa)) (m:CA) (h:Ak):QL dcall (d::ds) m h=AA (dcall d.1 d.2 m h) fun r=>QL dcall ds r.1 r.2:=rfl
theorem Lf (hd:VF P ρ dcall) {fn:Func} {tmps:Array Value} {R:Ending->World->Prop}:∀(ds:List (FuncId×List Aa)) {cs:List Deferred} {μ:As} {m:CA} {u:FrameMode} {h:Ak} {w:World} {r:CA×Ak},
  QL dcall ds m h=some r->C2 ρ μ ds cs->AI ρ μ h w->Ff ρ μ m u->(∀B w' A,Av ρ μ h w B r.2 w'->Ff ρ B r.1 A->Leaves P fn tmps R [] A w')->Leaves P fn tmps R cs u w
 |[],cs,μ,m,u,h,w,r,j,q,H,hm,hR=>by
  have j:some (m,h)=some r:=j
  simp only [oI]at j
  subst j
  have q:cs=[]:=q
  subst q
  exact hR μ w u (Av.refl H) hm
 |d::ds,cs,μ,m,u,h,w,r,j,q,H,hm,hR=>by
  rw [SL]at j
  obtain ⟨⟨m1,X⟩,Q,j⟩:=Ac j
  obtain ⟨c,rest,rfl,⟨cap,J,O⟩,x⟩:=q
  obtain ⟨hf,z⟩:=hd _ _ _ _ _ _ Q
  refine ⟨hm.Ahj,.func d.1,cap,d.1,c.args++cap,J,?_,?_⟩
  ·rw [J]
   simp only [invoke]
   exact GF hf _
  ·refine CallsD.mono (z μ w (c.args++cap) u H O hm) fun e A w' V=>?_
   obtain ⟨B,g,I,v,rfl⟩:=V
   exact Lf hd ds j (x.mono g.le) g.rel I fun L N M U C=>hR L N M (g.trans U) C
theorem DN {fn:Func} {F:Eu} (hc:EC P pl fn=some F):∃c,fn.body=some c/\AS P pl fn.ntmps c=some F.body/\B3 (fn.results.toList.map (Gu P))=some F.results:=by
 unfold EC at hc
 split at hc
 ·cases hc
 ·rename_i c hb
  split at hc
  ·rename_i body results q j
   simp only [oI]at hc
   subst hc
   exact ⟨c,hb,q,j⟩
  ·cases hc
theorem Kg {F:Eu} {args:List Aa} {j:Array Value} (H:AI ρ μ h w) (q:A6 ρ μ args j.toList) (n:Nat):CI ρ μ n (Hg F args h) {tmps:=j++Array.replicate (n-j.size) undef,defers:=[]} w:=
 ⟨Acx q _,by simp;omega,H,rfl⟩
theorem Ny (hΓ:Γ.AG ρ) (hc:B9 P ρ call) (hd:VF P ρ dcall) (N:P.follows .mixedOrders=true) {g:FuncId} {fn:Func} (hf:P.funcs[g]?=some fn) {F:Eu} (L:EC P pl fn=some F) (hL:∀c,fn.body=some c->Dw P ρ fn.ntmps Γ.loops 0 c) {args:List Aa} {r:NG} {O:Ak}
  (j:P0 Γ call dcall fuel F args h=some (r,O)) {I:Array Value} (H:AI ρ μ h w) (hv:A6 ρ μ args I.toList):Calls P g I w fun e w'=>∃B,Av ρ μ h w B O w'/\KM ρ B r e:=by
 obtain ⟨c,hb,X,ab⟩:=DN L
 unfold P0 at j
 obtain ⟨x,Z,j⟩:=Ac j
 obtain ⟨m,q,j⟩:=Ac j
 obtain ⟨y,V,j⟩:=Ac j
 refine calls_of_wp_defers hf hb (H9 hΓ hc N c (hL c hb) X Z (Kg H hv fn.ntmps) ?_)
 intro B Y w' e Q J C
 have J:Av ρ μ h w B x.2.h w':=J
 have fin:∀u,Ff ρ B m u->Leaves P fn Y.tmps (fun e w'=>∃B,Av ρ μ h w B O w'/\KM ρ B r e) Y.defers u w':=fun u hm=>by
  refine Lf hd x.2.df V Q.defs Q.heap hm fun M aj aa g2 A=>?_
  unfold Aeq at j
  split at j
  ·rename_i U
   obtain ⟨vs,ac,j⟩:=Ac j
   simp only [oI,Prod.mk.injEq]at j
   obtain ⟨rfl,rfl⟩:=j
   rw [U]at A
   have A:aa=.returning:=A
   subst A
   obtain ⟨v,h1,h2⟩:=F6 g2.rel (Q.tmps.mono g2.le) ab ac
   exact ⟨v,h1,M,J.trans g2,h2⟩
  ·rename_i v U
   simp only [oI,Prod.mk.injEq]at j
   obtain ⟨rfl,rfl⟩:=j
   rw [U]at A
   obtain ⟨z,rfl,R⟩:=A
   exact ⟨M,J.trans g2,z,rfl,R⟩
 obtain ⟨x1,x2⟩:=x
 cases x1 with
 |normal=>
  have C:e=.normal:=C
  subst C
  simp only [QF,oI]at q
  subst q
  exact fin .returning rfl
 |ret=>
  have C:e=.ret:=C
  subst C
  simp only [QF,oI]at q
  subst q
  exact fin .returning rfl
 |exit i=>cases q
 |panic v=>
  obtain ⟨z,rfl,R⟩:=C
  simp only [QF,oI]at q
  subst q
  exact fin _ ⟨z,rfl,R⟩
theorem Pt {m z:CA} {r:Ba×Fr} {x:Ak} (j:FU m r=some (z,x)):z=m/\x=r.2.h/\r.2.df=[]/\(r.1=.normal∨r.1=.ret):=by
 unfold FU at j
 split at j
 ·rename_i q v
  simp only [oI,Prod.mk.injEq]at j
  exact ⟨j.1.symm,j.2.symm,v,.inl q⟩
 ·rename_i q v
  simp only [oI,Prod.mk.injEq]at j
  exact ⟨j.1.symm,j.2.symm,v,.inr q⟩
 ·cases j
theorem Tp (hΓ:Γ.AG ρ) (h0:Γ.loops=[]) (hc:B9 P ρ call) (L:P.follows .mixedOrders=true) {g:FuncId} {fn:Func} (hf:P.funcs[g]?=some fn) {F:Eu} (I:EC P pl fn=some F) (O:F.results=[]) {args:List Aa} {m Z:CA} {X:Ak} {x:Ba×Fr}
  (Y:exec Γ call fuel F.body (Hg F args h)=some x) (hx:FU m x=some (Z,X)) {A:Array Value} {u:FrameMode} (H:AI ρ μ h w) (hv:A6 ρ μ args A.toList) (hm:Ff ρ μ m u):CallsD P g A u w (Y7 ρ μ h w Z X):=by
 obtain ⟨c,hb,U,J⟩:=DN I
 obtain ⟨rfl,rfl,Q,B⟩:=Pt hx
 refine CallsD.mono (callsD_of_wp (R:=fun e w'=>∃q,Av ρ μ h w q x.2.h w'/\∃v,e=.returned v) hf hb (MX hΓ h0 hc L c U Y (Kg H hv fn.ntmps) ?_)) fun e u' w' j=>?_
 ·intro q N w' e M C j
  have C:Av ρ μ h w q x.2.h w':=C
  have z:=M.defs
  rw [Q]at z
  have z:N.defers=[]:=z
  rw [O]at J
  obtain ⟨v,h1,_⟩:=F6 (vs:=[]) M.heap M.tmps J rfl
  have fin:N.defers=[]/\∃v,(results fn N.tmps).run P w'=.ok v w'/\∃q,Av ρ μ h w q x.2.h w'/\∃v',Ending.returned v=.returned v':=⟨z,v,h1,q,C,v,rfl⟩
  rcases B with B|B<;>rw [B]at j
  ·have j:e=.normal:=j
   subst j
   exact fin
  ·have j:e=.ret:=j
   subst j
   exact fin
 ·obtain ⟨rfl,q,C,V⟩:=j
  exact ⟨q,C,by rw [hm.settle];exact hm.mono C.le,V⟩
theorem S4 {o:Oper} (hc:Dq P pl o=some (.m .recover)):(execOp a.eval o).run P w=.ok .recover w:=by
 cases hop:o.op<;>simp only [Dq,hop,reduceCtorEq,oI]at hc
 case call c=>
  unfold EX at hc
  split at hc
  ·split at hc
   ·split at hc
    ·simp at hc
    ·split at hc
     ·split at hc<;>simp at hc
     ·split at hc
      ·split at hc<;>simp at hc
      ·cases hc
   ·cases hc
  ·simp at hc
  ·cases hc
  ·rename_i b hb
   split at hc
   ·split at hc<;>simp at hc
   ·exfalso
    unfold ED at hc
    split at hc<;>first|cases hc|skip
    all_goals (split at hc<;>first|(cases hc;done) |(split at hc<;>simp at hc))
   ·exfalso
    split at hc<;>first|(cases hc;done) |(obtain ⟨_,_,e⟩:=mS hc;cases e)
   ·simp at hc
   ·simp at hc
   ·rename_i q
    have v:c.args=#[]:=by rw [<-Array.toList_inj];simpa using q
    simp [execOp,hop,resolve,hb,v,invoke,builtin]
   ·simp at hc
   ·exfalso
    split at hc
    ·split at hc<;>simp at hc
    ·cases hc
   ·cases hc
 case convert s d x=>
  rcases CD hc with ⟨k0,k,hs,hd,e⟩|⟨hs,hd,e⟩|⟨t,n,hs,hd,hn,e⟩|⟨u,n,hs,hd,hn,e⟩|⟨el,hs,he,hd,e⟩<;>cases e
 case typeAssert x xt t ok=>
  obtain ⟨d,i,z,C,hd,A,H,e⟩:=Cf hc
  cases e
 case defer c=>
  obtain ⟨j,args,B⟩:=c
  cases j<;>simp at hc
 case makeFunc fn x c=>cases fn<;>simp at hc
 case binOp op t x y yt=>obtain ⟨_,_,e⟩:=mS hc;cases e
 case slice t x lo A mx=>
  exfalso
  split at hc
  ·simp at hc
  ·obtain ⟨_,_,e⟩:=mS hc;cases e
  ·split at hc
   ·obtain ⟨_,_,e⟩:=mS hc;cases e
   ·cases hc
  ·cases hc
 case build t parts=>
  exfalso
  split at hc
  ·split at hc
   ·obtain ⟨_,_,e⟩:=mS hc;cases e
   ·cases hc
  ·obtain ⟨_,_,hc⟩:=Option.bind_eq_some_iff.1 hc
   obtain ⟨_,_,e⟩:=mS hc;cases e
  ·cases hc
 case fieldAddr t x f=>
  exfalso
  split at hc
  ·obtain ⟨_,_,hc⟩:=Option.bind_eq_some_iff.1 hc
   split at hc<;>simp at hc
  ·cases hc
 case field t x f=>
  exfalso
  split at hc
  ·obtain ⟨_,_,hc⟩:=Option.bind_eq_some_iff.1 hc
   obtain ⟨_,_,e⟩:=mS hc;cases e
  ·cases hc
 all_goals
  exfalso
  first
   |(cases hc;done)
   |(split at hc<;>first|(cases hc;done) |(simp at hc;done) |(obtain ⟨_,_,e⟩:=mS hc;cases e;done) |(split at hc<;>first|(cases hc;done) |(simp at hc;done) |(obtain ⟨_,_,e⟩:=mS hc;cases e;done) |(split at hc<;>first|(cases hc;done) |(simp at hc;done) |(obtain ⟨_,_,e⟩:=mS hc;cases e;done))))
   |(obtain ⟨_,_,e⟩:=mS hc;cases e;done)
theorem Mf (hΓ:Γ.AG ρ) (hc:B9 P ρ call) {nt:Nat} {B:Array Oper} {cs:List Frame} {Q:Exit->Act->List Frame->World->Prop}:∀(l:List Oper) (q:List Step) (k:Nat) {μ:As} {a:Act} {w:World} {f:Fr} {r:Cb},(∀j,l[j]?=B[k+j]?)->B3 (l.map fun o=>stepOf P pl nt B o 0)=some q->
  Ut Γ call q f=some r->CI ρ μ nt f a w->Dp ρ nt μ f.h w (fun e C w'=>Q e C cs w') (F8 r)->wpOpsS P B Q (List.range' k l.length) a cs w
 |[],q,k,μ,a,w,f,r,hl,hs,A,F,L=>by
  simp only [List.map_nil,B3,oI]at hs
  subst hs
  have A:some (Cb.go f)=some r:=A
  simp only [oI]at A
  subst A
  exact L μ a w .normal F (Av.refl F.heap) rfl
 |o::l,q,k,μ,a,w,f,r,hl,hs,A,F,L=>by
  have H:=Dl hs
  cases q with
  |nil=>simp at H
  |cons s q=>
   simp only [List.map_cons,List.cons.injEq]at H
   obtain ⟨X,N⟩:=H
   have V:B3 (l.map fun o=>stepOf P pl nt B o 0)=some q:=by
    rw [N]
    clear N A hs
    induction q with
    |nil=>rfl
    |cons x r ih=>simp only [List.map_cons,B3,ih,Option.map_some]
   rw [O9]at A
   obtain ⟨x,Z,A⟩:=Ac A
   have Y:B[k]?=some o:=by simpa using (hl 0).symm
   have U:∀j,l[j]?=B[k+1+j]?:=fun j=>by simpa [Nat.add_assoc,Nat.add_comm 1 j]using hl (j+1)
   rw [lC,List.range'_succ]
   have O:VE ρ nt μ f.h a w (fun C w'=>wpOpsS P B Q (List.range' (k+1) l.length) C cs w') (fun e C w'=>Q e C cs w') x:=by
    cases x with
    |go f'=>exact fun R C w' I g=>Mf hΓ hc l q (k+1) U V A I (L.grow g)
    |panic v f'=>
     simp only [goes,oI]at A
     subst A
     exact fun R u w' I g hv=>L R a w' _ I g ⟨u,rfl,hv⟩
   have z:=O4 hΓ hc F (Fj X) Z O
   unfold wpOpsS
   rw [Y]
   simp only
   split
   ·rename_i J
    rw [if_pos J]at z
    unfold Oper.wp at z
    split
    ·rename_i w' M
     rw [M]at z
     exact z.elim
    ·exact z
   ·rename_i J
    rw [if_neg J]at z
    exact z
theorem Q2 {m:CA} {c₀:Frame} {cs:List Frame} (j:Ff ρ μ m c₀.mode):
  ∃v q,(match recoverD (c₀::cs)with|some (v,cs')=>(v,cs') |none=>(.nilIface,c₀::cs))=(v,{c₀ with mode:=q}::cs)/\settle q=.returning/\Ag ρ μ (recovered m) v:=by
 cases m with
 |returning=>
  have j:c₀.mode=.returning:=j
  refine ⟨.nilIface,c₀.mode,?_,by rw [j];rfl,by simp only [recovered,Ag]⟩
  have e:recoverD (c₀::cs)=none:=by simp [recoverD,j]
  rw [e]
 |panicking v=>
  obtain ⟨x,A,z⟩:=j
  refine ⟨x,.panicking [{v:=x,recovered:=true}],?_,rfl,z⟩
  simp [recoverD,A,Ib]
theorem Om (hΓ:Γ.AG ρ) (h0:Γ.loops=[]) (hc:B9 P ρ call) (ac:P.follows .mixedOrders=true) {g:FuncId} {fn:Func} (hf:P.funcs[g]?=some fn) {F:Eu} (Z:EC P pl fn=some F) (ae:F.results=[]) {dst:Option Nat} {bk:Nat} {A:List Step} {rest:IC}
  (Q:F.body=.seq (.region false (⟨dst,none,.m .recover,bk⟩::A)) rest) {args:List Aa} {m m':CA} {h':Ak} {r:Cb} {x:Ba×Fr}
  (hr:Ut Γ call A ⟨DI (Hg F args h).tm dst (recovered m),h,[]⟩=some r) (I:(andThen (F8 r) fun f=>exec Γ call fuel rest f)=some x) (hx:FU .returning x=some (m',h')) {z:Array Value} {u:FrameMode} (H:AI ρ μ h w) (hv:A6 ρ μ args z.toList) (hm:Ff ρ μ m u):
  CallsD P g z u w (Y7 ρ μ h w m' h'):=by
 obtain ⟨c,hb,q,ab⟩:=DN Z
 obtain ⟨rfl,rfl,ao,C⟩:=Pt hx
 rw [Q]at q
 cases c<;>simp only [AS,reduceCtorEq,oI]at q
 case region=>obtain ⟨_,_,e⟩:=mS q;cases e
 case cond=>split at q<;>simp at q
 case block=>obtain ⟨_,_,e⟩:=mS q;cases e
 case loop=>obtain ⟨_,_,e⟩:=mS q;cases e
 case seq c1 c2=>
  split at q
  case h_2=>cases q
  rename_i i1 i2 L h2
  simp only [oI,IC.seq.injEq]at q
  obtain ⟨rfl,rfl⟩:=q
  cases c1<;>simp only [AS,reduceCtorEq,oI]at L
  case seq=>split at L<;>simp at L
  case cond=>split at L<;>simp at L
  case block=>obtain ⟨_,_,e⟩:=mS L;cases e
  case loop=>obtain ⟨_,_,e⟩:=mS L;cases e
  case region id ops draw=>
   obtain ⟨st,U,e⟩:=mS L
   simp only [IC.region.injEq]at e
   obtain ⟨rfl,rfl⟩:=e
   simp only [Gv,Bool.false_eq_true,if_false]at U
   have J:=Dl U
   generalize hol:ops.toList=ol at U J
   cases ol with
   |nil=>simp at J
   |cons o l=>
    simp only [List.map_cons,List.cons.injEq]at J
    obtain ⟨k1,k2⟩:=J
    have al:B3 (l.map fun o=>stepOf P pl fn.ntmps ops o 0)=some A:=by
     rw [k2]
     clear k2 hr U Q L
     induction A with
     |nil=>rfl
     |cons x r ih=>simp only [List.map_cons,B3,ih,Option.map_some]
    have M:=Fj k1
    have R:∀j:Nat,(o::l)[j]?=ops[j]?:=fun j=>by rw [<-hol,Array.getElem?_toList]
    have ho:ops[0]?=some o:=by simpa using (R 0).symm
    have aj:ops.size=l.length+1:=by
     have:=cL hol
     simpa using this
    refine callsD_of_wpS hf hb fun c₀ cs hu=>wpS_seq (wpS_region ?_)
    rw [List.range_eq_range',aj,List.range'_succ]
    have F0:=Kg (F:=F) H hv fn.ntmps
    unfold wpOpsS
    rw [ho]
    simp only
    rw [E8 F0.tmps M.guard (fun d b e=>Nat.lt_of_lt_of_le (M.seen d b e) F0.size) (b:=true) rfl]
    simp only [if_true]
    rw [S4 M.op]
    simp only
    obtain ⟨v,u',B,ah,ap⟩:=Q2 (c₀:=c₀) (cs:=cs) (m:=m) (ρ:=ρ) (μ:=μ) (by rw [hu];exact hm)
    have F1:CI ρ μ fn.ntmps ⟨DI (Hg F args h).tm dst (recovered m),h,[]⟩ (Act.put {tmps:=z++Array.replicate (fn.ntmps-z.size) undef,defers:=[]} o.dst v) w:=by
     have:=F0.put (d:=o.dst) μ.le_refl F0.heap M.small ap
     rw [<-M.dst]at this⊢
     exact this
    have V:wpOpsS P ops (Exit.thenS (c2.wpS P (bodyPostS P fn c₀ cs (Y7 ρ μ h w .returning x.2.h))) (bodyPostS P fn c₀ cs (Y7 ρ μ h w .returning x.2.h))) (List.range' 1 l.length)
      (Act.put {tmps:=z++Array.replicate (fn.ntmps-z.size) undef,defers:=[]} o.dst v) ({c₀ with mode:=u'}::cs) w:=by
     refine Mf hΓ hc l A 1 (fun j=>by have:=R (j+1);simpa [Nat.add_comm 1 j]using this) al hr F1 ?_
     intro μ1 a1 w1 e1 F2 g1 X
     have g1:Av ρ μ h w μ1 (F8 r).2.h w1:=g1
     cases r with
     |panic v f'=>
      exfalso
      have I:some (Ba.panic v,f')=some x:=I
      simp only [oI]at I
      subst I
      rcases C with C|C<;>cases C
     |go f'=>
     have X:e1=.normal:=X
     subst X
     have I:exec Γ call fuel i2 f'=some x:=I
     refine wpS_of_wp (MX hΓ h0 hc ac c2 h2 I F2 ?_)
     intro μ' Y w' e F' g' N
     have g':Av ρ μ h w μ' x.2.h w':=g1.trans g'
     have O:=F'.defs
     rw [ao]at O
     have O:Y.defers=[]:=O
     rw [ae]at ab
     obtain ⟨vr,r1,_⟩:=F6 (vs:=[]) F'.heap F'.tmps ab rfl
     have fin:Y.defers=[]/\∃u2,({c₀ with mode:=u'}::cs:List Frame)={c₀ with mode:=u2}::cs/\∃v,(results fn Y.tmps).run P w'=.ok v w'/\Y7 ρ μ h w .returning x.2.h (.returned v) u2 w':=
      ⟨O,u',rfl,vr,r1,μ',g',by rw [ah];rfl,vr,rfl⟩
     rcases C with C|C<;>rw [C]at N
     ·have N:e=.normal:=N
      subst N
      exact fin
     ·have N:e=.ret:=N
      subst N
      exact fin
    cases hrd:recoverD (c₀::cs)with
    |none=>
     rw [hrd]at B
     simp only [Prod.mk.injEq]at B
     obtain ⟨rfl,av⟩:=B
     simp only
     rw [av]
     exact V
    |some p=>
     obtain ⟨pv,aN⟩:=p
     rw [hrd]at B
     simp only [Prod.mk.injEq]at B
     obtain ⟨rfl,rfl⟩:=B
     exact V
def P5 (P:Program) (pl:List Co) (DD:FuncId->Option Eu):Prop:=
 ∀g F,DD g=some F->∃fn,P.funcs[g]?=some fn/\EC P pl fn=some F/\(fn.name== "runtime.NumGoroutine")=false
theorem JW.QC {g:FuncId} {fn:Func} {F:Eu} (hf:P.funcs[g]?=some fn) (j:EC P pl fn=some F) (q:(fn.name== "runtime.NumGoroutine")=false):JW P g:=by
 obtain ⟨c,hb,_⟩:=DN j
 exact ⟨fn,hf,by rw [hb];rfl,q⟩
theorem O7 (hΓ:Γ.AG ρ) (J:Γ.loops=[]) (hc:B9 P ρ call) (z:P.follows .mixedOrders=true) {DD:FuncId->Option Eu} (R:P5 P pl DD):VF P ρ fun f args m h=>AA (DD f) fun F=>KI Γ call fuel F args m h:=by
 intro g args m h m' Z v
 obtain ⟨F,U,v⟩:=Ac v
 obtain ⟨fn,hf,j,X⟩:=R g F U
 refine ⟨JW.QC hf j X,fun μ w Q u H N M=>?_⟩
 unfold KI at v
 split at v
 ·rename_i dst Y O rest B q
  obtain ⟨r,V,C⟩:=Ac v
  obtain ⟨x,A,L⟩:=Ac C
  exact Om hΓ J hc z hf j q B V A L H N M
 ·rename_i q _
  obtain ⟨x,A,I⟩:=Ac v
  exact Tp hΓ J hc z hf j q A I H N M
 ·cases v
def Cw (P:Program) (ρ:Env) (f:FuncId) (o:Bk):Prop:=
 ∀args h r q,o args h=some (r,q)->JW P f/\∀μ w (j:Array Value),AI ρ μ h w->A6 ρ μ args j.toList->
  Calls P f j w fun e w'=>∃v,Av ρ μ h w v q w'/\KM ρ v r e
theorem HK (hΓ:Γ.AG ρ) (I:Γ.loops=[]) (x:P.follows .mixedOrders=true) {DD:FuncId->Option Eu} (J:P5 P pl DD) {q:FuncId->Option Bk} (B:∀f o,q f=some o->Cw P ρ f o):∀d:Nat,B9 P ρ (Lp Γ q DD fuel d)
 |0=>fun g args h r A j=>by cases j
 |d+1=>fun g args h r A j=>by
  have ih:=HK hΓ I x J B d
  have j:Q9 (q g) args h (fun _=>AA (DD g) fun F=>P0 Γ (Lp Γ q DD fuel d) (fun f args m h=>AA (DD f) fun F=>KI Γ (Lp Γ q DD fuel d) fuel F args m h) fuel F args h)=some (r,A):=j
  have C:(AA (DD g) fun F=>P0 Γ (Lp Γ q DD fuel d) (fun f args m h=>AA (DD f) fun F=>KI Γ (Lp Γ q DD fuel d) fuel F args m h) fuel F args h)=some (r,A)->JW P g/\∀μ w (v:Array Value),AI ρ μ h w->A6 ρ μ args v.toList->
    Calls P g v w fun e w'=>∃M,Av ρ μ h w M A w'/\KM ρ M r e:=fun j=>by
   obtain ⟨F,N,j⟩:=Ac j
   obtain ⟨fn,hf,z,Q⟩:=J g F N
   exact ⟨JW.QC hf z Q,fun μ w v H R=>Ny hΓ ih (O7 hΓ I ih x J) x hf z (fun c _=>by rw [I];exact Dw.none) j H R⟩
  unfold Q9 at j
  split at j
  ·rename_i o O
   split at j
   ·rename_i U L
    simp only [oI]at j
    subst j
    exact B g o O args h r A L
   ·exact C j
  ·exact C j
theorem Ap.AG.bare {Γ:Ap} {ρ:Env} (h:Γ.AG ρ):Γ.bare.AG ρ:=⟨h.DJ,h.tests,h.strs,h.E3,h.BQ,h.Bc,h.elems,h.defs,h.looks,h.Lx,h.C8,h.C6⟩
theorem TD (hΓ:Γ.AG ρ) (j:P.follows .mixedOrders=true) {DD:FuncId->Option Eu} (z:P5 P pl DD) {x:FuncId->Option Bk} (A:∀f o,x f=some o->Cw P ρ f o) (d:Nat) {g:FuncId}
  (C:∀fn c,P.funcs[g]?=some fn->fn.body=some c->Dw P ρ fn.ntmps Γ.loops 0 c):Cw P ρ g (AeR Γ x DD fuel d g):=by
 intro args h r M v
 unfold AeR at v
 obtain ⟨F,I,v⟩:=Ac v
 obtain ⟨fn,hf,q,J⟩:=z g F I
 have ih:=HK hΓ.bare rfl j z A d (fuel:=fuel)
 exact ⟨JW.QC hf q J,fun μ w B H L=>Ny hΓ ih (O7 hΓ.bare rfl ih j z) j hf q (fun c hc=>C fn c hf hc) v H L⟩
end
end
section
open Go.ChangeShapes Go.WideShapes Go.ChangeAt Go.RowKit
def Kept (W w':World):Prop:=W.keptBut w' (fun _=>False)/\(∀b j,b<W.heap.size->w'.frozen? ⟨b,j,none⟩=W.frozen? ⟨b,j,none⟩)/\W.heap.size<=w'.heap.size
theorem Kept.of_same {W w':World} (j:∀r,r<W.heap.size->w'.heap[r]?=W.heap[r]?) (hs:W.heap.size<=w'.heap.size) (v:w'.os=W.os) (q:w'.output=W.output):Kept W w':=by
 refine ⟨⟨v,q,fun i x=>?_⟩,fun b z hb=>?_,hs⟩
 ·rw [j i x]
  cases W.heap[i]? with
  |none=>trivial
  |some o=>cases o<;>simp
 ·unfold World.frozen?
  simp only [j b hb]
theorem Kept.frame {W w':World} (h:Kept W w') (ps:List MemPlace):W.keptBut w' (·∈ps):=World.keptBut_mono (fun _ h=>h.elim) h.1
section
variable {H:Type} {enc:TypeId×Value->H} {P:Program}
theorem Q3 {f:Func} {s:ChangeSpec} {apart fresh C O:Bool} {W B:World} {args:Array Value} {v:Value} {ds I:List (DataW H)} {before L pv:List MemPlace}
  (Q:DataW.Whole enc P f.params.toList s.vars apart W args.toList ds I before)
  (J:∀(b:Nat) (sp:Nat->Bool) (hd:Bool),DataW.TrodAll enc P B b sp hd f.resultTypes.toList (v.resultList f.resultTypes.size) (s.fn H (ds++I)).results [])
  (x:∀sp:Nat->Bool,(∀p∈before,sp p.block=true)->DataW.TrodAll enc P B 0 sp true f.params.toList args.toList (s.fn H (ds++I)).args L)
  (z:∀sp:Nat->Bool,(∀p∈before,sp p.block=true)->DataW.TrodVars enc P B sp s.vars (s.fn H (ds++I)).vars pv)
  (A:before=L++pv) (V:Kept W B)
  (R:∀(j:Nat) (t:TypeId) (r:Value),f.resultTypes[j]?=some t->(v.resultList f.resultTypes.size)[j]?=some r->Value.okWide P B .any 0 t r):
  s.post enc P f apart fresh C O W args v B:=by
 have M:∀p∈before,(fun b=>decide (b<W.heap.size)) p.block=true:=fun p q=>by simpa using Q.lt p q
 have U:=Q.lt
 refine ⟨ds,I,before,[],L,pv,Q,J _ _ _,x _ M,z _ M,World.keptBut_mono (fun p q=>⟨q,?_⟩) (V.frame before),fun _=>?_⟩
 ·rw [A,List.mem_append]at q
  exact Or.inr q
 ·obtain ⟨_,_,_,_,_,X,Y⟩:=Q
  refine ⟨R,_,_,([]++L)++pv,⟨[]++L,pv,trodAll_append (x _ (fun _ _=>rfl)) (J _ _ _),z _ (fun _ _=>rfl),rfl,?_,?_⟩,?_⟩
  ·intro b N q
   have hb:MemPlace.cell b N∈before:=by rw [A];simpa using q
   rw [V.2.1 b N (U _ hb)]
   exact X b N hb
  ·intro ha
   have:=Y ha
   rw [A]at this
   simpa using this
  ·intro p q _
   rw [A]
   simpa using q
end
theorem Av.idle {ρ:Env} {μ:As} {h:Ak} {w w':World} (H:AI ρ μ h w) (z:∀r,r<w.heap.size->w'.heap[r]?=w.heap[r]?) (hs:w.heap.size<=w'.heap.size) (C:w'.os=w.os) (A:w'.output=w.output):Av ρ μ h w μ h w':=by
 have j:∀r,r<w.heap.size->¬AJ μ h r->w'.heap[r]?=w.heap[r]?/\¬AJ μ h r:=fun r q v=>⟨z r q,v⟩
 refine ⟨μ.le_refl,⟨H.fresh,fun b B hb=>?_,H.inj,H.Ga j⟩,hs,j,C,A,Nat.le_refl _,fun _ _=>rfl,fun _ _ h=>.inl h,rfl⟩
 obtain ⟨r,δ,x,q⟩:=H.blk b B hb
 exact ⟨r,δ,x,by rw [z r (H.lt hb x)];exact q⟩
theorem OJ {f:Nat}:∀{l:List (Nat×Bk)} {o:Bk},SA f l=some o->(f,o)∈l
 |[],o,h=>by cases h
 |x::r,o,h=>by
  have h:(bif Nat.beq x.1 f then some x.2 else SA f r)=some o:=h
  rw [AH]at h
  by_cases e:x.1=f
  ·rw [if_pos e]at h
   simp only [oI]at h
   rw [<-e,<-h]
   exact List.mem_cons_self
  ·rw [if_neg e]at h
   exact List.mem_cons_of_mem _ (OJ h)
theorem P8 (k:IntKind) (n:Int) (h:k.min<=n/\n<=k.max):k.wrap n=n:=by
 obtain ⟨j,q⟩:=h
 unfold IntKind.wrap
 unfold IntKind.min at j
 unfold IntKind.max at q
 cases k<;>simp [IntKind.signed,IntKind.bits]at j q⊢<;>(try split)<;>omega
theorem RU {k:IntKind} {n:Int} (h:(Lit.int k n).wf=true):k.min<=n/\n<=k.max:=by
 simpa [Lit.wf]using h
theorem Bl {α:Type} {p:α->Prop} {x:α} {l:List α} (h:p x) (q:∀y∈l,p y):∀y∈x::l,p y:=fun y j=>by
 rcases List.mem_cons.1 j with rfl|j
 ·exact h
 ·exact q y j
end
section
def Holds (P:Program) (ρ:Env) (g:FuncId) (x:BO):Prop:=
 JW P g/\∀μ w (j:Array Value),AI ρ μ (AV x.pre (empty 0)) w->A6 ρ μ x.args j.toList->
  Calls P g j w fun e w'=>∃q,Av ρ μ (AV x.pre (empty 0)) w q (Cv x.post (empty 0)) w'/\KM ρ q (.ret x.res) e
theorem R3 {P:Program} {ρ:Env} {g:FuncId} {x:BO} (R:Holds P ρ g x):Cw P ρ g (R4 x):=by
 intro args h r h' B
 unfold R4 at B
 generalize RT h x.pre 0 (VI x.args args [])=σ at B
 simp only at B
 obtain ⟨z,L⟩:=Aq B
 clear B
 unfold Aew at z
 rw [aT,aT,aT,aT]at z
 obtain ⟨j,q,X,J,N⟩:=z
 have j:=Ao.1 j
 rw [Df,EG]at j
 have q:=AL.1 q
 rw [EG,Gh]at q
 have F:Fits h.fx h σ x.pre x.post.length:=⟨j,q,ER X,N⟩
 unfold Acz at L
 obtain ⟨h1,A,Y⟩:=Ac L
 obtain ⟨v,U,M⟩:=Ac Y
 simp only [oI,Prod.mk.injEq]at M
 obtain ⟨rfl,rfl⟩:=M
 rw [EG]at A U
 rw [Gh]at A
 refine ⟨R.1,fun μ w C H O=>?_⟩
 refine (R.2 _ w C (Fits.before H.AO.facts F H) (Gs H.AO.facts Fits.ren J O)).mono fun e w' I=>?_
 obtain ⟨μ',Z,I⟩:=I
 obtain ⟨V,Q,R1⟩:=F.after H A Z
 refine ⟨V,Q,?_⟩
 ·cases e
  case returned u=>exact S3 R1 U (show Ag ρ μ' x.res u from I)
  all_goals exact I.elim
theorem HD {P:Program} {ρ:Env} {g:FuncId}:∀{l:List BO},(∀x∈l,Holds P ρ g x)->Cw P ρ g (JM l)
 |[],_,args,h,r,h',hr=>by cases hr
 |x::l,hl,args,h,r,h',hr=>by
  have e:JM (x::l) args h=(match R4 x args h with|some y=>some y|none=>JM l args h):=rfl
  rw [e]at hr
  split at hr
  ·rename_i y j
   simp only [oI]at hr
   subst hr
   exact R3 (hl x List.mem_cons_self) args h r h' j
  ·exact HD (fun y j=>hl y (List.mem_cons_of_mem _ j)) args h r h' hr
end
end Go.AM
