/- Part 3 of MeaningExpressions. -/
import Derived.Test.YtaolbokoijfhnaaGreatDoorH2
import Derived.WalkKit
import Derived.ProofKit
import Derived.OpenShut
import Derived.LoopN
import Derived.Defers
import Derived.Recover
import Derived.Laws.Sem
set_option linter.all false
namespace Go.AM
section
def C6 (ρ:Env) (μ:Aq):List (FuncId×List Aa)->List Deferred->Prop
 |[],ds=>ds=[]
 |d::r,ds=>∃c rest,ds=c::rest/\KZ ρ μ d c/\C6 ρ μ r rest
theorem KZ.mono {ρ:Env} {μ j:Aq} (h:μ.le j) {d:FuncId×List Aa} {c:Deferred} (hd:KZ ρ μ d c):KZ ρ j d c:=
 let ⟨cap,h1,h2⟩:=hd
 ⟨cap,h1,h2.mono h⟩
theorem C6.mono {ρ:Env} {μ j:Aq} (h:μ.le j):∀{l:List (FuncId×List Aa)} {ds:List Deferred},C6 ρ μ l ds->C6 ρ j l ds
 |[],_,e=>e
 |_::_,_,e=>let ⟨c,rest,e1,e2,e3⟩:=e;⟨c,rest,e1,e2.mono h,C6.mono h e3⟩
structure CM (ρ:Env) (μ:Aq) (nt:Nat) (f:Fr) (a:Act) (w:World):Prop where
 tmps:AW ρ μ f.tm a
 size:nt<=a.tmps.size
 heap:AJ ρ μ f.h w
 defs:C6 ρ μ f.df a.defers
def KY (ρ:Env) (μ:Aq):NT->Ending->Prop
 |.ret v,.returned u=>Ah ρ μ v u
 |.panic v,.panicked chain=>∃u,chain=[{v:=u,recovered:=false}]/\Ah ρ μ v u
 |_,_=>False
def BC (P:Program) (ρ:Env) (call:Co):Prop:=
 ∀g args h r q,call g args h=some (r,q)->Kg P g/\∀μ w (j:Array Value),AJ ρ μ h w->A9 ρ μ args j.toList->
  Calls P g j w fun e w'=>∃v,Au ρ μ h w v q w'/\KY ρ v r e
section
variable {P:Program} {Γ:Ao} {ρ:Env} {μ:Aq} {tm:Tr Aa} {a:Act} {w:World} {h:Ak} {pl:List Cq} {nt:Nat} {ops:Array Oper} {call:Co}
theorem II:Ah ρ μ IJ undef:=by
 simp only [IJ,Ah]
 exact ⟨_,rfl,by simp only [A9]⟩
theorem EE (H:AW ρ μ tm a) {o:Oper} {g:Option (Nat×Bool)} (v:guardOf ops o.guard=some g) (hs:∀d b,g=some (d,b)->d<a.tmps.size) {b:Bool} (hb:De tm g=some b):Region.wanted o (yielded ops a.tmps)=b:=by
 unfold Region.wanted
 cases hog:o.guard with
 |none=>
  rw [hog]at v
  simp only [guardOf,oI]at v
  subst v
  simp only [De,oI]at hb
  simp [<-hb]
 |some jw=>
  obtain ⟨j,z⟩:=jw
  rw [hog]at v
  simp only [guardOf]at v
  split at v
  ·rename_i d hd
   simp only [oI]at v
   subst v
   simp only [De]at hb
   have x:=hs d z rfl
   have q:=H d
   unfold Wg at hb
   split at hb
   ·rename_i C B
    simp only [oI]at hb
    subst hb
    rw [B]at q
    have q:=Ah.bool q
    simp only [SB.den]at q
    rw [Array.getD_eq_getD_getElem?,Array.getElem?_eq_getElem x,Option.getD_some]at q
    have A:yielded ops a.tmps j=some C:=by
     unfold yielded
     rw [hd]
     simp [x,q]
    simp only [A]
    cases z<;>cases C<;>rfl
   ·rename_i B
    simp only [oI]at hb
    subst hb
    rw [B]at q
    have q:Ah ρ μ (.tuple []) (a.tmps.getD d undef):=q
    simp only [Ah]at q
    obtain ⟨us,q,I⟩:=q
    rw [Array.getD_eq_getD_getElem?,Array.getElem?_eq_getElem x,Option.getD_some]at q
    have A:yielded ops a.tmps j=none:=by
     unfold yielded
     rw [hd]
     simp [x,q]
    simp only [A]
    rfl
   ·cases hb
  ·cases v
structure NP (P:Program) (pl:List Cq) (nt:Nat) (ops:Array Oper) (o:Oper) (s:Step):Prop where
 op:Ds P pl o=some s.op
 guard:guardOf ops o.guard=some s.guard
 dst:s.dst=o.dst
 small:∀d,o.dst=some d->d<nt
 seen:∀d b,s.guard=some (d,b)->d<nt
theorem Ft {o:Oper} {b:Nat} {s:Step} (h:stepOf P pl nt ops o b=some s):NP P pl nt ops o s:=by
 unfold stepOf at h
 split at h
 ·rename_i op g q v
  split at h
  ·rename_i hd
   simp only [oI]at h
   subst h
   rw [aT]at hd
   refine ⟨q,v,rfl,fun d j=>?_,fun d b j=>?_⟩
   ·have:=hd.1
    rw [j]at this
    simp only [Option.all_some]at this
    exact Nat.lt_of_lt_of_le (Nat.lt_succ_self d) (AP.1 this)
   ·have:=hd.2
    simp only at j
    rw [j]at this
    simp only [Option.all_some]at this
    exact Nat.lt_of_lt_of_le (Nat.lt_succ_self d) (AP.1 this)
  ·cases h
 ·cases h
inductive AeF where
 |val (v:Aa) (h:Ak)
 |panic (v:Aa) (h:Ak)
 |defer (g:FuncId) (args:List Aa)
def SV (call:Co) (h:Ak) (r:GY):Option AeF:=
 match r with
 |.val v h=>some (.val v h)
 |.call g args=>match call g args h with
  |some (.ret v,h)=>some (.val v h)
  |some (.panic v,h)=>some (.panic v h)
  |none=>none
 |.panic v=>some (.panic v h)
 |.defer g args=>some (.defer g args)
noncomputable def AdY (f:Fr) (d:Option Nat) (o:AeF):Cc:=
 match o with
 |.val v h=>KI f d v h
 |.panic v h=>.panic v ⟨f.tm,h,f.df⟩
 |.defer g args=>.go ⟨DM f.tm d .any,f.h,(g,args)::f.df⟩
theorem ME {f:Fr} {d:Option Nat} {r:GY} {x:Cc} (j:AhU call f d r=some x):∃o,SV call f.h r=some o/\x=AdY f d o:=by
 unfold AhU at j
 split at j
 ·simp only [oI]at j
  exact ⟨_,rfl,j.symm⟩
 ·rename_i g args
  obtain ⟨r,z,j⟩:=Ac j
  simp only [oI]at j
  subst j
  obtain ⟨c,q⟩:=r
  cases c with
  |ret v=>exact ⟨.val v q,by simp [SV,z],rfl⟩
  |panic v=>exact ⟨.panic v q,by simp [SV,z],rfl⟩
 ·simp only [oI]at j
  exact ⟨_,rfl,j.symm⟩
 ·simp only [oI]at j
  exact ⟨_,rfl,j.symm⟩
def Io (u:Value):List PanicEntry:=[{v:=u,recovered:=false}]
def AmS (ρ:Env) (μ:Aq) (h:Ak) (a:Act) (w:World) (d:Option Tmp) (K:Act->World->Prop) (Q:Exit->Act->World->Prop):AeF->Prop
 |.val v h'=>∀j u w',Au ρ μ h w j h' w'->Ah ρ j v u->K (a.put d u) w'
 |.panic v h'=>∀j u w',Au ρ μ h w j h' w'->Ah ρ j v u->Q (.panic (Io u)) a w'
 |.defer g args=>∀x,KZ ρ μ (g,args) x->K ({a with defers:=x::a.defers}.put d undef) w
theorem Td (hc:BC P ρ call) (H:AJ ρ μ h w) {o:Oper} {res:GY} (hd:E6 P ρ μ h a o w res) {out:AeF} (q:SV call h res=some out) {K:Act->World->Prop} {Q:Exit->Act->World->Prop}
  (I:AmS ρ μ h a w o.dst K Q out):o.wp P a w K Q:=by
 unfold Oper.wp
 cases res with
 |val v R=>
  simp only [SV,oI]at q
  subst q
  obtain ⟨V,u,w',J,j,U,B,C⟩:=hd
  rw [j]
  rcases U with rfl|⟨rfl,rfl⟩
  ·exact I J u w' B C
  ·exact I J undef w' B C
 |call g args=>
  simp only [SV]at q
  split at q
  ·rename_i v R z
   simp only [oI]at q
   subst q
   obtain ⟨hf,L⟩:=hc _ _ _ _ _ z
   obtain ⟨x,j,M⟩:=hd hf
   rw [j]
   refine Calls.mono (L μ w x H M) fun e w' N=>?_
   obtain ⟨J,B,A⟩:=N
   cases e with
   |returned u=>exact I J u w' B A
   |panicked c=>exact A.elim
   |outgrown=>exact A.elim
  ·rename_i v R z
   simp only [oI]at q
   subst q
   obtain ⟨hf,L⟩:=hc _ _ _ _ _ z
   obtain ⟨x,j,M⟩:=hd hf
   rw [j]
   refine Calls.mono (L μ w x H M) fun e w' N=>?_
   obtain ⟨J,B,A⟩:=N
   cases e with
   |returned u=>exact A.elim
   |panicked c=>
    obtain ⟨u,rfl,C⟩:=A
    exact I J u w' B C
   |outgrown=>exact A.elim
  ·cases q
 |panic v=>
  simp only [SV,oI]at q
  subst q
  obtain ⟨u,j,C⟩:=hd
  rw [j]
  exact I μ u w (Au.refl H) C
 |defer g args=>
  simp only [SV,oI]at q
  subst q
  obtain ⟨d,j,O⟩:=hd
  rw [j]
  exact I d O
def Ad1 (ρ:Env) (μ:Aq):Bc->Exit->Prop
 |.normal,e=>e=.normal
 |.exit i,e=>e=.exit i
 |.ret,e=>e=.ret
 |.panic v,e=>∃u,e=.panic (Io u)/\Ah ρ μ v u
def Dr (ρ:Env) (nt:Nat) (μ:Aq) (h:Ak) (w:World) (Q:Exit->Act->World->Prop) (r:Bc×Fr):Prop:=
 ∀j q w' e,CM ρ j nt r.2 q w'->Au ρ μ h w j r.2.h w'->Ad1 ρ j r.1 e->Q e q w'
theorem Dr.grow {q:Aq} {j:Ak} {w':World} {Q:Exit->Act->World->Prop} {r:Bc×Fr} (hl:Dr ρ nt μ h w Q r) (g:Au ρ μ h w q j w'):Dr ρ nt q j w' Q r:=
 fun _ _ _ _ hf v x=>hl _ _ _ _ hf (g.trans v) x
theorem Kk {Q:Exit->Act->World->Prop} {i:Nat} {o:Oper} {K:Act->World->Prop} (q:ops[i]?=some o)
  (h:if Region.wanted o (yielded ops a.tmps)then o.wp P a w K Q else K (a.put o.dst undef) w):wpOp P ops Q i K a w:=by
 unfold wpOp
 rw [q]
 simp only
 split
 ·rename_i j
  rw [if_pos j]at h
  exact .inl h
 ·rename_i j
  rw [if_neg j]at h
  exact h
theorem CM.put {j:Aq} {f:Fr} {x:Ak} {w':World} (F:CM ρ μ nt f a w) (q:μ.le j) (H:AJ ρ j x w') {d:Option Tmp} (hd:∀t,d=some t->t<nt) {v:Aa} {u:Value} (z:Ah ρ j v u):CM ρ j nt ⟨DM f.tm d v,x,f.df⟩ (a.put d u) w':=
 ⟨(F.tmps.mono q).put (fun t e=>Nat.lt_of_lt_of_le (hd t e) F.size) z,by rw [Act.Mo];exact F.size,H,by
  have:(a.put d u).defers=a.defers:=by cases d<;>rfl
  rw [this];exact F.defs.mono q⟩
def VZ (ρ:Env) (nt:Nat) (μ:Aq) (h:Ak) (a:Act) (w:World) (K:Act->World->Prop) (Q:Exit->Act->World->Prop):Cc->Prop
 |.go f'=>∀j q w',CM ρ j nt f' q w'->Au ρ μ h w j f'.h w'->K q w'
 |.panic v f'=>∀j u w',CM ρ j nt f' a w'->Au ρ μ h w j f'.h w'->Ah ρ j v u->Q (.panic (Io u)) a w'
theorem OH (hΓ:Γ.AI ρ) (hc:BC P ρ call) {f:Fr} (F:CM ρ μ nt f a w) {o:Oper} {s:Step} (hs:NP P pl nt ops o s) {r:Cc} (x:I6 Γ call s f=some r) {K:Act->World->Prop} {Q:Exit->Act->World->Prop}
  (j:VZ ρ nt μ f.h a w K Q r):if Region.wanted o (yielded ops a.tmps)then o.wp P a w K Q else K (a.put o.dst undef) w:=by
 unfold I6 at x
 obtain ⟨b,hb,x⟩:=Ac x
 rw [EE F.tmps hs.guard (fun d b e=>Nat.lt_of_lt_of_le (hs.seen d b e) F.size) hb]
 cases b with
 |false=>
  simp only [cond_false,oI]at x
  subst x
  simp only [Bool.false_eq_true,if_false]
  have j:∀z A w',CM ρ z nt (⟨DM f.tm s.dst IJ,f.h,f.df⟩:Fr) A w'->Au ρ μ f.h w z f.h w'->K A w':=j
  rw [hs.dst]at j
  exact j μ _ w (F.put μ.le_refl F.heap hs.small II) (Au.refl F.heap)
 |true=>
  simp only [cond_true]at x
  simp only [if_true]
  have H:=hs.op
  unfold WJ at x
  split at x
  ·rename_i q M
   rw [M]at H
   obtain ⟨v,J,x⟩:=Ac x
   simp only [oI]at x
   subst x
   obtain ⟨u,I,L⟩:=M4 (w:=w) hΓ F.tmps H J
   unfold Oper.wp
   rw [I]
   have j:∀z A w',CM ρ z nt (⟨DM f.tm s.dst v,f.h,f.df⟩:Fr) A w'->Au ρ μ f.h w z f.h w'->K A w':=j
   rw [hs.dst]at j
   exact j μ _ w (F.put μ.le_refl F.heap hs.small L) (Au.refl F.heap)
  ·rename_i q M
   rw [M]at H
   obtain ⟨v,J,x⟩:=Ac x
   simp only [oI]at x
   subst x
   obtain ⟨u,I,L⟩:=M1 hΓ F.heap F.tmps H J
   unfold Oper.wp
   rw [I]
   have j:∀z A w',CM ρ z nt (⟨DM f.tm s.dst v,f.h,f.df⟩:Fr) A w'->Au ρ μ f.h w z f.h w'->K A w':=j
   rw [hs.dst]at j
   exact j μ _ w (F.put μ.le_refl F.heap hs.small L) (Au.refl F.heap)
  ·rename_i q M
   rw [M]at H
   obtain ⟨⟨B,v⟩,J,x⟩:=Ac x
   simp only [oI]at x
   subst x
   obtain ⟨U,u,I,m,hB,L⟩:=OV (w:=w) F.tmps H J
   have C:=Au.add F.heap B U (0,m) hB
   unfold Oper.wp
   rw [I]
   have j:∀z A w',CM ρ z nt (⟨DM f.tm s.dst v,f.h.add B,f.df⟩:Fr) A w'->Au ρ μ f.h w z (f.h.add B) w'->K A w':=j
   rw [hs.dst]at j
   exact j _ _ _ (F.put C.le C.rel hs.small (L _ C.le (Aq.BF _ _ _))) C
  ·rename_i q M
   rw [M]at H
   obtain ⟨res,N,x⟩:=Ac x
   obtain ⟨out,O,rfl⟩:=ME x
   refine Td hc F.heap (Lh F.heap F.tmps H N) O ?_
   cases out with
   |val v h'=>
    have j:∀z A w',CM ρ z nt (⟨DM f.tm s.dst v,h',f.df⟩:Fr) A w'->Au ρ μ f.h w z h' w'->K A w':=j
    rw [hs.dst]at j
    exact fun z u w' C J=>j z _ w' (F.put C.le C.rel hs.small J) C
   |panic v h'=>exact fun z u w' C J=>j z u w' ⟨F.tmps.mono C.le,F.size,C.rel,F.defs.mono C.le⟩ C J
   |defer g args=>
    have j:∀z A w',CM ρ z nt (⟨DM f.tm s.dst .any,f.h,(g,args)::f.df⟩:Fr) A w'->Au ρ μ f.h w z f.h w'->K A w':=j
    rw [hs.dst]at j
    refine fun d hd=>j μ _ w ?_ (Au.refl F.heap)
    have R:CM ρ μ nt ⟨f.tm,f.h,(g,args)::f.df⟩ {a with defers:=d::a.defers} w:=⟨F.tmps,F.size,F.heap,d,a.defers,rfl,hd,F.defs⟩
    exact R.put μ.le_refl F.heap hs.small trivial
theorem Um (hΓ:Γ.AI ρ) (hc:BC P ρ call) {f:Fr} (F:CM ρ μ nt f a w) {o:Oper} {s:Step} {i:Nat} (j:ops[i]?=some o) (hs:NP P pl nt ops o s) {r:Cc} (q:I6 Γ call s f=some r) {K:Act->World->Prop} {Q:Exit->Act->World->Prop}
  (v:VZ ρ nt μ f.h a w K Q r):wpOp P ops Q i K a w:=
 Kk j (OH hΓ hc F hs q v)
theorem Dm {α:Type}:∀{l:List (Option α)} {r:List α},B6 l=some r->l=r.map some
 |[],r,h=>by simp only [B6,oI]at h;subst h;rfl
 |some a::l,r,h=>by
  simp only [B6]at h
  obtain ⟨q,j,e⟩:=mS h
  subst e
  simp [Dm j]
 |none::l,r,h=>by simp [B6]at h
theorem OM (s:Step) (r:List Step) (f:Fr):UD Γ call (s::r) f=AD (I6 Γ call s f) fun x=>goes x fun j=>UD Γ call r j:=rfl
theorem OL (hΓ:Γ.AI ρ) (hc:BC P ρ call) {Q:Exit->Act->World->Prop}:∀(l:List Oper) (q:List Step) (k:Nat) {μ:Aq} {a:Act} {w:World} {f:Fr} {r:Cc},(∀j,l[j]?=ops[k+j]?)->B6 (l.map fun o=>stepOf P pl nt ops o 0)=some q->
  UD Γ call q f=some r->CM ρ μ nt f a w->Dr ρ nt μ f.h w Q (FH r)->wpOps P ops Q (List.range' k l.length) a w
 |[],q,k,μ,a,w,f,r,hl,hs,z,F,L=>by
  simp only [List.map_nil,B6,oI]at hs
  subst hs
  have z:some (Cc.go f)=some r:=z
  simp only [oI]at z
  subst z
  exact L μ a w .normal F (Au.refl F.heap) rfl
 |o::l,q,k,μ,a,w,f,r,hl,hs,z,F,L=>by
  have A:=Dm hs
  cases q with
  |nil=>simp at A
  |cons s q=>
   simp only [List.map_cons,List.cons.injEq]at A
   obtain ⟨J,C⟩:=A
   have I:B6 (l.map fun o=>stepOf P pl nt ops o 0)=some q:=by
    rw [C]
    clear C z hs
    induction q with
    |nil=>rfl
    |cons x r ih=>simp only [List.map_cons,B6,ih,Option.map_some]
   rw [OM]at z
   obtain ⟨x,N,z⟩:=Ac z
   have M:ops[k]?=some o:=by simpa using (hl 0).symm
   rw [lC,List.range'_succ,wpOps_cons]
   refine Um hΓ hc F M (Ft J) N ?_
   cases x with
   |go f'=>exact fun H R w' B g=>OL hΓ hc l q (k+1) (fun j=>by simpa [Nat.add_assoc,Nat.add_comm 1 j]using hl (j+1)) I z B (L.grow g)
   |panic v f'=>
    simp only [goes,oI]at z
    subst z
    exact fun H u w' B g O=>L H a w' _ B g ⟨u,rfl,O⟩
end
end
section
section
variable {Γ:Ao} {tm tm':Tr Aa} {h h':Ak}
def DE (tm tm':Tr Aa) (l:List Cu):Prop:=∀x∈l,ev tm x=ev tm' x
theorem ES:∀{l:List Cu},DE tm tm' l->Sj tm l=Sj tm' l
 |[],_=>rfl
 |x::r,h=>by
  show ev tm x::Sj tm r=ev tm' x::Sj tm' r
  rw [h x (by simp),ES fun y j=>h y (by simp [j])]
theorem HI:∀{ps:List (Nat×Nat×Cu)} {cs:List Aa},DE tm tm' (ps.map (·.2.2))->HJ tm ps cs=HJ tm' ps cs
 |[],_,_=>rfl
 |p::r,cs,h=>by
  show (AD (F5 cs (ev tm p.2.2) p.1 p.2.1) fun cs=>HJ tm r cs)=AD (F5 cs (ev tm' p.2.2) p.1 p.2.1) fun cs=>HJ tm' r cs
  rw [h p.2.2 (by simp)]
  congr 1
  funext cs
  exact HI fun y j=>h y (by simp only [List.map_cons,List.mem_cons];exact .inr j)
theorem EG {d:Nat} {o:Option Cu} (h:DE tm tm' o.toList):Cg tm d o=Cg tm' d o:=by
 cases o with
 |none=>rfl
 |some x=>simp only [Cg];rw [h x (by simp)]
theorem UN {o:Option Cu} (h:DE tm tm' o.toList):AdZ tm o=AdZ tm' o:=by
 cases o with
 |none=>rfl
 |some x=>simp only [AdZ];rw [h x (by simp)]
theorem MB {o:Option Cu} (h:DE tm tm' o.toList):LA tm o=LA tm' o:=by
 cases o with
 |none=>rfl
 |some x=>simp only [LA];rw [h x (by simp)]
theorem DE.app {l q:List Cu} (h:DE tm tm' (l++q)):DE tm tm' l/\DE tm tm' q:=⟨fun x j=>h x (by simp [j]),fun x j=>h x (by simp [j])⟩
theorem DE.cons {x:Cu} {l:List Cu} (h:DE tm tm' (x::l)):ev tm x=ev tm' x/\DE tm tm' l:=⟨h x (by simp),fun x j=>h x (by simp [j])⟩
theorem SQ {o:POp} (h:DE tm tm' o.BW):I9 Γ tm o=I9 Γ tm' o:=by
 cases o<;>simp only [POp.BW]at h<;>simp only [I9]
 case build zero parts=>rw [HI h]
 case func f a c=>rw [ES h.app.1,ES h.app.2]
 case big m xs=>rw [ES h]
 case subs x lo hi=>
  obtain ⟨v,j⟩:=h.cons
  obtain ⟨j,q⟩:=j.app
  rw [v,EG j]
  congr 1
  funext d
  exact EG q
 case reslice n x lo hi mx=>
  obtain ⟨v,j⟩:=h.cons
  obtain ⟨j,q⟩:=j.app
  obtain ⟨q,z⟩:=q.app
  have e:(fun d=>Cg tm d hi)=fun d=>Cg tm' d hi:=funext fun d=>EG q
  rw [v]
  unfold FQ
  rw [EG j,UN z,e,MB j,MB q]
 case pick c a b=>rw [h.cons.1,h.cons.2.cons.1,h.cons.2.cons.2.cons.1]
 all_goals first
  |(rw [h.cons.1,h.cons.2.cons.1];done)
  |(rw [h.cons.1];done)
theorem Fv {o:NV} (j:DE tm tm' o.BW):Dp Γ tm h o=Dp Γ tm' h o:=by
 cases o<;>simp only [NV.BW]at j<;>simp only [Dp]
 case load n x=>rw [j.cons.1]
 case lenM x=>rw [j.cons.1]
 case uptr ok x=>rw [j.cons.1]
 case bstr x=>rw [j.cons.1]
 case lookup kk z ok x k=>rw [j.cons.1,j.cons.2.cons.1]
theorem UT {id:Nat} {o:AOp} (j:DE tm tm' o.BW):Yv tm id o=Yv tm' id o:=by
 cases o<;>simp only [AOp.BW]at j<;>simp only [Yv]
 case box t x=>rw [j.cons.1]
 case bslice len z ps=>rw [HI j]
 case mkSlice z l c=>rw [j.cons.1,j.cons.2.cons.1]
theorem QS {o:MOp} (j:DE tm tm' o.BW):Ky tm h o=Ky tm' h o:=by
 cases o<;>simp only [MOp.BW]at j<;>simp only [Ky]
 case call f args=>rw [j.cons.1,ES j.cons.2]
 case defer f args=>rw [j.cons.1,ES j.cons.2]
 case mapUp kk m k v=>rw [j.cons.1,j.cons.2.cons.1,j.cons.2.cons.2.cons.1]
 all_goals first
  |(rw [j.cons.1,j.cons.2.cons.1];done)
  |(rw [j.cons.1];done)
theorem Fj {l:List Cu} (h:∀t∈l.flatMap Cu.names,tm.get t=tm'.get t):DE tm tm' l:=fun x j=>by
 cases x with
 |con v=>rfl
 |tmp t=>
  simp only [ev]
  rw [h t (List.mem_flatMap.2 ⟨.tmp t,j,by simp [Cu.names]⟩)]
end
theorem Abu {P:Program} {pl:List Cq} {o:Oper} {q:NV} (hc:Ds P pl o=some (.r q)):∀x∈q.BW,∃y:Operand,x=AF y:=by
 cases hop:o.op<;>simp only [Ds,hop,reduceCtorEq,oI]at hc
 case load t x=>
  obtain ⟨n,v,e⟩:=mS hc
  simp only [DF.r.injEq]at e
  subst e
  intro y j
  simp only [NV.BW,List.mem_singleton]at j
  exact ⟨_,j⟩
 case lookup t x k ok=>
  split at hc
  ·split at hc
   ·obtain ⟨z,C,e⟩:=mS hc
    simp only [DF.r.injEq]at e
    subst e
    intro y j
    simp only [NV.BW,List.mem_cons,List.not_mem_nil,or_false]at j
    rcases j with j|j
    ·exact ⟨_,j⟩
    ·exact ⟨_,j⟩
   ·cases hc
  ·cases hc
 case call c=>
  unfold Ff at hc
  split at hc
  ·split at hc
   ·split at hc
    ·simp at hc
    ·split at hc
     ·split at hc<;>simp at hc
     ·split at hc
      ·split at hc<;>simp at hc
      ·cases hc
   ·cases hc
  ·simp at hc
  ·cases hc
  ·rename_i b hb
   split at hc
   ·split at hc
    ·simp at hc
    ·simp at hc
    ·simp at hc
    ·simp only [oI,DF.r.injEq]at hc
     subst hc
     intro y j
     simp only [NV.BW,List.mem_singleton]at j
     exact ⟨_,j⟩
    ·cases hc
   ·exfalso
    unfold EK at hc
    split at hc<;>first|cases hc|skip
    all_goals (split at hc<;>first|(cases hc;done) |(split at hc<;>simp at hc))
   ·exfalso
    split at hc<;>first|(cases hc;done) |(obtain ⟨_,_,e⟩:=mS hc;cases e)
   ·simp at hc
   ·simp at hc
   ·simp at hc
   ·simp at hc
   ·exfalso
    split at hc
    ·split at hc<;>simp at hc
    ·cases hc
   ·cases hc
 case convert s d x=>
  rcases CH hc with ⟨k0,k,hs,hd,e⟩|⟨hs,hd,e⟩|⟨t,n,hs,hd,v,e⟩|⟨u,n,hs,hd,v,e⟩|⟨el,hs,he,hd,e⟩
  ·cases e
  ·cases e
  all_goals
   simp only [DF.r.injEq]at e
   subst e
   intro y j
   simp only [NV.BW,List.mem_singleton]at j
   exact ⟨_,j⟩
 case typeAssert x xt t ok=>
  obtain ⟨d,i,z,I,hd,B,C,e⟩:=Ci hc
  cases e
 case defer c=>
  obtain ⟨A,args,H⟩:=c
  cases A<;>simp at hc
 case makeFunc fn x c=>cases fn<;>simp at hc
 case binOp op t x y yt=>obtain ⟨_,_,e⟩:=mS hc;cases e
 case slice t x lo B mx=>
  exfalso
  split at hc
  ·simp at hc
  ·obtain ⟨_,_,e⟩:=mS hc;cases e
  ·split at hc
   ·obtain ⟨_,_,e⟩:=mS hc;cases e
   ·cases hc
  ·cases hc
 case build t parts=>
  exfalso
  split at hc
  ·split at hc
   ·obtain ⟨_,_,e⟩:=mS hc;cases e
   ·cases hc
  ·obtain ⟨_,_,hc⟩:=Option.bind_eq_some_iff.1 hc
   obtain ⟨_,_,e⟩:=mS hc;cases e
  ·cases hc
 case fieldAddr t x f=>
  exfalso
  split at hc
  ·obtain ⟨_,_,hc⟩:=Option.bind_eq_some_iff.1 hc
   split at hc<;>simp at hc
  ·cases hc
 case field t x f=>
  exfalso
  split at hc
  ·obtain ⟨_,_,hc⟩:=Option.bind_eq_some_iff.1 hc
   obtain ⟨_,_,e⟩:=mS hc;cases e
  ·cases hc
 all_goals
  exfalso
  first
   |(cases hc;done)
   |(split at hc<;>first|(cases hc;done) |(simp at hc;done) |(obtain ⟨_,_,e⟩:=mS hc;cases e;done) |(split at hc<;>first|(cases hc;done) |(simp at hc;done) |(obtain ⟨_,_,e⟩:=mS hc;cases e;done) |(split at hc<;>first|(cases hc;done) |(simp at hc;done) |(obtain ⟨_,_,e⟩:=mS hc;cases e;done))))
   |(obtain ⟨_,_,e⟩:=mS hc;cases e;done)
section
variable {P:Program} {ρ:Env} {μ:Aq} {tm:Tr Aa} {a:Act} {h h':Ak}
theorem UK {Γ:Ao} (Y:AW ρ μ tm a) {o:Oper} {pl:List Cq} {q:NV} (hc:Ds P pl o=some (.r q)) (M:∀b B,μ b≠none->h.get b=some B->h'.get b=some B) {v:Aa} (A:Dp Γ tm h q=some v):Dp Γ tm h' q=some v:=by
 have cells:∀{b:Nat} {vs:List Aa},μ b≠none->cellsOf (h.get b)=some vs->cellsOf (h'.get b)=some vs:=fun {b vs} hb C=>by
  rcases EM C with e|⟨t,e⟩<;>rw [M _ _ hb e]<;>rfl
 have R:∀{b:Nat} {vs:List Entry×Nat},μ b≠none->mapOf (h.get b)=some vs->mapOf (h'.get b)=some vs:=fun {b vs} hb C=>by
  rw [M _ _ hb (D0 C)];rfl
 have U:∀x∈q.BW,∃u,Ah ρ μ (ev tm x) u:=fun x hx=>by
  obtain ⟨y,rfl⟩:=Abu hc x hx
  exact ⟨_,As Y y⟩
 cases q with
 |load n x=>
  obtain ⟨u,H⟩:=U x (by simp [NV.BW])
  simp only [Dp]at A⊢
  unfold MK at A⊢
  split at A
  ·rename_i b X j L J
   rw [J]at H
   obtain ⟨r,m,I,_⟩:=H.vptr
   obtain ⟨vs,C,ac⟩:=Ac A
   obtain ⟨l,hl,_⟩:=Ac C
   have hb:=M _ _ (by rw [I];simp) (CZ hl)
   have Z:elemV Γ (h'.get b) X j=elemV Γ (h.get b) X j:=by rw [hb,CZ hl]
   simp only [Z]
   exact A
  ·exact A
  ·rename_i b L J
   rw [J]at H
   obtain ⟨r,δ,m,I,_⟩:=H.ptr
   obtain ⟨vs,C,A⟩:=Ac A
   simp only [cells (by rw [I];simp) C]
   exact A
  ·cases A
 |lookup kk z ok x k=>
  obtain ⟨u,H⟩:=U x (by simp [NV.BW])
  simp only [Dp]at A⊢
  unfold WZ at A⊢
  split at A
  ·exact A
  ·rename_i b J
   rw [J]at H
   obtain ⟨r,I,_⟩:=H.Og
   unfold Vb at A⊢
   split at A
   ·rename_i i hi
    have Q:IS (h'.get b)=some i:=by rw [M _ _ (by rw [I];simp) (Er hi)];rfl
    simp only [Q]
    exact A
   ·obtain ⟨vs,C,A⟩:=Ac A
    have Q:IS (h'.get b)=none:=by rw [M _ _ (by rw [I];simp) (D0 C)];rfl
    simp only [Q,R (by rw [I];simp) C]
    exact A
  ·cases A
 |lenM x=>
  obtain ⟨u,H⟩:=U x (by simp [NV.BW])
  simp only [Dp]at A⊢
  unfold Xa at A⊢
  split at A
  ·exact A
  ·rename_i b J
   rw [J]at H
   obtain ⟨r,I,_⟩:=H.Og
   obtain ⟨vs,C,A⟩:=Ac A
   simp only [R (by rw [I];simp) C]
   exact A
  ·cases A
 |bstr x=>
  obtain ⟨u,H⟩:=U x (by simp [NV.BW])
  simp only [Dp]at A⊢
  have key:∀b L len,μ b≠none->NC h b L len=some v->NC h' b L len=some v:=fun b L len hb O=>by
   unfold NC at O⊢
   cases hl:Nat.beq len 0 with
   |true=>rw [hl]at O;exact O
   |false=>
    rw [hl]at O
    obtain ⟨vs,C,V⟩:=Ac O
    simp only [cond_false,cells hb C]
    exact V
  unfold Xy at A⊢
  split at A
  ·exact A
  ·rename_i b L len c J
   rw [J]at H
   obtain ⟨r,δ,m,I,_⟩:=H.slice
   exact key _ _ _ (by rw [I];simp) A
  ·rename_i b L len c J
   rw [J]at H
   obtain ⟨r,δ,m,_,I,_⟩:=H.gslice
   exact key _ _ _ (by rw [I];simp) A
  ·cases A
 |uptr ok x=>
  obtain ⟨u,H⟩:=U x (by simp [NV.BW])
  simp only [Dp]at A⊢
  unfold O8 at A⊢
  split at A
  ·rename_i b J
   rw [J]at H
   obtain ⟨r,δ,m,I,_⟩:=H.ptr
   have N:=A
   unfold Zo at N
   split at N
   ·rename_i e vs hb
    rw [hb]at A
    rw [M _ _ (by rw [I];simp) hb]
    exact A
   ·cases N
  ·cases A
end
end
section
structure Item where
 i:Nat
 s:Step
 e:Option (Aa×Option Block)
def Item.pair (x:Item):Nat×Step:=(x.i,x.s)
def Gv:List Item->(Nat->Option Aa)->Nat->Option Aa
 |[],g,t=>g t
 |x::r,g,t=>match x.e with
  |some u=>if x.s.dst=some t then some u.1 else Gv r g t
  |none=>Gv r g t
def E2:List Item->Nat->(Nat->Option Block)->Nat->Option Block
 |[],_,g,b=>g b
 |x::r,id,g,b=>match x.e with
  |some (_,some B)=>if b=id then some B else E2 r (id+1) g b
  |_=>E2 r (id+1) g b
def Clo (W:Nat->Nat->Bool):List Item->Prop
 |[]=>True
 |x::r=>(x.e=none->∀z∈r,z.e≠none->W x.i z.i=false)/\Clo W r
def YZ (Γ:Ao) (call:Co):List Item->Nat->Fr->Prop
 |[],_,_=>True
 |x::r,id,f=>(∀u,x.e=some u->HF Γ f.tm f.h id x.s=some u)/\
  ((∃j,I5 Γ call x.s id f=some (.go j)/\YZ Γ call r (id+1) j)∨∀y∈r,y.e=none)
structure X7 (W:Nat->Nat->Bool) (x y:Nat×Step):Prop where
 ne:x.1≠y.1
 chg:BN y.2.op=true->W x.1 y.1=true
 dst:∀d,x.2.dst=some d->y.2.dst≠some d
 reads:∀d,x.2.dst=some d->d∈y.2.names->W x.1 y.1=true
 writes:∀d,y.2.dst=some d->d∈x.2.names->W x.1 y.1=true
section
variable {W:Nat->Nat->Bool}
theorem any_beq {l:List Nat} {d:Nat}:l.any (Nat.beq d)=true↔d∈l:=by
 rw [List.any_eq_true]
 constructor
 ·rintro ⟨x,hx,e⟩
  rw [An.1 e];exact hx
 ·intro h
  exact ⟨d,h,An.2 rfl⟩
theorem TV {x y:Nat×Step} (h:VV W x y=true):X7 W x y:=by
 unfold VV at h
 rw [aT,aT,aT]at h
 obtain ⟨⟨⟨A,z⟩,j⟩,q⟩:=h
 refine ⟨fun e=>?_,fun B=>?_,fun d hd C=>?_,fun d hd v=>?_,fun d hd v=>?_⟩
 ·rw [An.2 e]at A;cases A
 ·rw [B]at z;simpa using z
 ·rw [hd,C]at j
  simp only [aT]at j
  rw [An.2 rfl]at j
  simp at j
 ·rw [hd]at j
  simp only [aT,Bool.or_eq_true]at j
  rcases j.2 with h|h
  ·rw [any_beq.2 v]at h;cases h
  ·exact h
 ·rw [hd]at q
  simp only [Bool.or_eq_true]at q
  rcases q with h|h
  ·rw [any_beq.2 v]at h;cases h
  ·exact h
structure OkD (W:Nat->Nat->Bool) (x:Nat×Step) (r:List (Nat×Step)):Prop where
 self:∀d,x.2.dst=some d->d∉x.2.names
 apart:∀y∈r,X7 W x y
 back:BN x.2.op=true->NK W x.1 r 0=true
 rest:okD W r=true
theorem EW {x:Nat×Step} {r:List (Nat×Step)} (h:okD W (x::r)=true):OkD W x r:=by
 simp only [okD,aT]at h
 obtain ⟨j,A,q,B⟩:=h
 refine ⟨fun d hd C=>?_,fun y z=>TV (List.all_eq_true.1 A y z),fun v=>?_,B⟩
 ·unfold AeN at j
  rw [hd]at j
  simp only at j
  rw [any_beq.2 C]at j
  cases j
 ·rw [v]at q;simpa using q
def muts (l:List (Nat×Step)):Nat:=l.countP fun x=>BN x.2.op
theorem Jm {x:Nat}:∀{pre post:List (Nat×Step)} {y:Nat×Step} {k:Nat},NK W x (pre++y::post) k=true->BN y.2.op=false->W x y.1=false->k+muts pre<y.2.back
 |[],post,y,k,h,hm,hw=>by
  simp only [List.nil_append,NK,hm,Bool.false_eq_true,if_false,aT,Bool.or_eq_true,hw,or_false]at h
  have:=AP.1 h.1
  simp only [muts,List.countP_nil]
  omega
 |z::pre,post,y,k,h,hm,hw=>by
  simp only [List.cons_append,NK]at h
  cases hz:BN z.2.op with
  |true=>
   rw [hz]at h
   simp only [if_true]at h
   have:=Jm h hm hw
   simp only [muts,List.countP_cons,hz,if_true]at this⊢
   omega
  |false=>
   rw [hz]at h
   simp only [Bool.false_eq_true,if_false,aT]at h
   have:=Jm h.2 hm hw
   simp only [muts,List.countP_cons,hz]at this⊢
   simpa using this
theorem Lw (s:Step) (r:List Step) (k:Nat):KU (s::r) k=bif BN s.op then KU r (k+1)else Nat.ble s.back k&&KU r k:=rfl
theorem HR:∀{pre post:List (Nat×Step)} {y:Nat×Step} {k:Nat},KU ((pre++y::post).map (·.2)) k=true->BN y.2.op=false->y.2.back<=k+muts pre
 |[],post,y,k,h,hm=>by
  simp only [List.nil_append,List.map_cons,Lw,hm,cond_false,aT]at h
  have:=AP.1 h.1
  simp only [muts,List.countP_nil]
  omega
 |z::pre,post,y,k,h,hm=>by
  simp only [List.cons_append,List.map_cons,Lw]at h
  cases hz:BN z.2.op with
  |true=>
   rw [hz]at h
   simp only [cond_true]at h
   have:=HR h hm
   simp only [muts,List.countP_cons,hz,if_true]at this⊢
   omega
  |false=>
   rw [hz]at h
   simp only [cond_false,aT]at h
   have:=HR h.2 hm
   simp only [muts,List.countP_cons,hz]at this⊢
   simpa using this
end
theorem Ef:∀{r:List Item} {g j:Nat->Option Aa} {t:Nat},g t=j t->Gv r g t=Gv r j t
 |[],_,_,_,h=>h
 |x::r,g,j,t,h=>by
  simp only [Gv]
  cases x.e with
  |none=>exact Ef h
  |some u=>
   dsimp only
   split
   ·rfl
   ·exact Ef h
theorem DB:∀{r:List Item} {g:Nat->Option Aa} {t:Nat},(∀z∈r,z.e≠none->z.s.dst≠some t)->Gv r g t=g t
 |[],_,_,_=>rfl
 |x::r,g,t,h=>by
  simp only [Gv]
  have ih:=DB (g:=g) fun z j=>h z (List.mem_cons_of_mem _ j)
  cases hx:x.e with
  |none=>exact ih
  |some u=>
   dsimp only
   rw [if_neg (h x List.mem_cons_self (by rw [hx];simp))]
   exact ih
theorem DL (tm:Tr Aa) (d:Option Nat) (v:Aa) (t:Nat):(DM tm d v).get t=if d=some t then some v else tm.get t:=by
 cases d with
 |none=>simp [DM]
 |some d=>
  simp only [DM,Tr.Bf,oI]
  by_cases h:t=d
  ·rw [if_pos h,if_pos h.symm]
  ·rw [if_neg h,if_neg (Ne.symm h)]
theorem Et (h:Ak) (id:Nat) (B:Option Block) (b:Nat):(Gk h id B).get b=match B with|some B=>if b=id then some B else h.get b|none=>h.get b:=by
 cases B with
 |none=>rfl
 |some B=>exact Tr.Bf _ _ _ _
theorem EP (h:Ak) (id:Nat) (B:Option Block):(Gk h id B).next=h.next:=by cases B<;>rfl
theorem Gw:∀{r:List Item} {id:Nat} {g j:Nat->Option Block} {b:Nat},g b=j b->E2 r id g b=E2 r id j b
 |[],_,_,_,_,h=>h
 |x::r,id,g,j,b,h=>by
  simp only [E2]
  split
  ·split
   ·rfl
   ·exact Gw h
  ·exact Gw h
theorem Jd:∀{r:List Item} {id:Nat} {g:Nat->Option Block} {b:Nat},b<id->E2 r id g b=g b
 |[],_,_,_,_=>rfl
 |x::r,id,g,b,h=>by
  simp only [E2]
  split
  ·rw [if_neg (by omega)]
   exact Jd (by omega)
  ·exact Jd (by omega)
theorem Jc:∀{r:List Item} {id:Nat} {g:Nat->Option Block} {b:Nat} {B:Block},E2 r id g b=some B->g b=some B∨∃k x v,r[k]?=some x/\x.e=some (v,some B)/\b=id+k
 |[],_,_,_,_,h=>.inl h
 |x::r,id,g,b,B,h=>by
  simp only [E2]at h
  split at h
  ·rename_i v q j
   split at h
   ·rename_i e
    simp only [oI]at h
    subst h
    exact .inr ⟨0,x,v,rfl,j,e⟩
   ·rcases Jc h with h|⟨k,y,v,h1,h2,h3⟩
    ·exact .inl h
    ·exact .inr ⟨k+1,y,v,by simpa using h1,h2,by omega⟩
  ·rcases Jc h with h|⟨k,y,v,h1,h2,h3⟩
   ·exact .inl h
   ·exact .inr ⟨k+1,y,v,by simpa using h1,h2,by omega⟩
theorem RD:∀{r:List Item} {id:Nat} {g:Nat->Option Block} {k:Nat} {x:Item} {v:Aa} {B:Block},r[k]?=some x->x.e=some (v,some B)->E2 r id g (id+k)=some B
 |[],_,_,_,_,_,_,h,_=>by simp at h
 |y::r,id,g,0,x,v,B,h,hx=>by
  simp only [List.getElem?_cons_zero,oI]at h
  subst h
  simp [E2,hx]
 |y::r,id,g,k+1,x,v,B,h,hx=>by
  have ih:=RD (id:=id+1) (g:=g) (by simpa using h) hx
  rw [show id+1+k=id+(k+1)from by omega]at ih
  simp only [E2]
  split
  ·rw [if_neg (by omega)];exact ih
  ·exact ih
theorem Nf:∀{r:List Item} {id:Nat} {g:Nat->Option Block} {b:Nat},(∀k x v B,r[k]?=some x->x.e=some (v,some B)->b≠id+k)->E2 r id g b=g b:=fun {r id g b} h=>by
 induction r generalizing id with
 |nil=>rfl
 |cons x r ih=>
  have ih:=ih (id:=id+1) fun k y v B q j=>by
   have:=h (k+1) y v B (by simpa using q) j
   omega
  simp only [E2]
  split
  ·rename_i v B z
   rw [if_neg (by simpa using h 0 x v B rfl z)]
   exact ih
  ·exact ih
section
variable {Γ:Ao} {call:Co} {all:List Step}
theorem Gz (s:Step) (r:List Step) (id:Nat) (f:Fr) (hs:List Ak):Lu Γ call all (s::r) id f hs=
  bif LH Γ s f hs then AD (I5 Γ call s id f) fun x=>To all r x fun j=>Lu Γ call all r (id+1) j (bif BN s.op then f.h::hs else Ms id (Lm f.h j.h id) hs)else none:=rfl
theorem XH {id:Nat} {B:Option Block}:∀{hs:List Ak} {n:Nat} {j:Ak},hs[n]?=some j->(Ms id B hs)[n]?=some (Gk j id B):=by
 cases B with
 |none=>intro hs n j h;exact h
 |some B=>
  intro hs
  induction hs with
  |nil=>intro n j h;simp at h
  |cons x r ih=>
   intro n j h
   have e:Ms id (some B) (x::r)=Gk x id (some B)::Ms id (some B) r:=rfl
   rw [e]
   cases n with
   |zero=>simp only [List.getElem?_cons_zero,oI]at h⊢;rw [h]
   |succ n=>rw [List.getElem?_cons_succ]at h⊢;exact ih h
theorem Ih {s:Step} {id:Nat} {f:Fr} (j:BN s.op=false) {x:Cc} (h:I5 Γ call s id f=some x):∃u,HF Γ f.tm f.h id s=some u/\x=.go ⟨DM f.tm s.dst u.1,Gk f.h id u.2,f.df⟩:=by
 unfold I5 at h
 rw [j]at h
 obtain ⟨u,q,h⟩:=Ac h
 simp only [oI]at h
 exact ⟨u,q,h.symm⟩
theorem Jw {s:Step} {id:Nat} {f:Fr} (j:BN s.op=false) {u:Aa×Option Block} (h:HF Γ f.tm f.h id s=some u):I5 Γ call s id f=some (.go ⟨DM f.tm s.dst u.1,Gk f.h id u.2,f.df⟩):=by
 unfold I5
 rw [j,h]
 rfl
theorem OI {s:Step} {id:Nat} {f:Fr} (j:BN s.op=true):I5 Γ call s id f=I6 Γ call s f:=by
 unfold I5
 rw [j]
 rfl
theorem Aa1 {s:Step} {f j:Fr} (h:I6 Γ call s f=some (.go j)):∃v,j.tm=DM f.tm s.dst v:=by
 unfold I6 at h
 obtain ⟨b,hb,h⟩:=Ac h
 cases b with
 |false=>
  simp only [cond_false,Y5,oI,Cc.go.injEq]at h
  exact ⟨_,by subst h;rfl⟩
 |true=>
  simp only [cond_true]at h
  unfold WJ at h
  split at h
  ·obtain ⟨v,_,h⟩:=Ac h
   simp only [Y5,oI,Cc.go.injEq]at h
   exact ⟨_,by subst h;rfl⟩
  ·obtain ⟨v,_,h⟩:=Ac h
   simp only [Y5,oI,Cc.go.injEq]at h
   exact ⟨_,by subst h;rfl⟩
  ·obtain ⟨v,_,h⟩:=Ac h
   simp only [KI,oI,Cc.go.injEq]at h
   exact ⟨_,by subst h;rfl⟩
  ·obtain ⟨r,_,h⟩:=Ac h
   obtain ⟨o,_,h⟩:=ME h
   cases o with
   |val v h'=>
    simp only [AdY,KI,Cc.go.injEq]at h
    exact ⟨_,by subst h;rfl⟩
   |panic v h'=>simp only [AdY,reduceCtorEq]at h
   |defer g args=>
    simp only [AdY,Cc.go.injEq]at h
    exact ⟨_,by subst h;rfl⟩
theorem Aa0 {s:Step} {id:Nat} {f j:Fr} (h:I5 Γ call s id f=some (.go j)):∃v,j.tm=DM f.tm s.dst v:=by
 cases hm:BN s.op with
 |true=>rw [OI hm]at h;exact Aa1 h
 |false=>
  obtain ⟨u,_,h⟩:=Ih hm h
  simp only [Cc.go.injEq]at h
  exact ⟨_,by subst h;rfl⟩
theorem V0 {tm j:Tr Aa} {h:Ak} {id:Nat} {s:Step} (x:∀t∈s.names,tm.get t=j.get t):HF Γ tm h id s=HF Γ j h id s:=by
 have z:De tm s.guard=De j s.guard:=by
  unfold De
  cases hg:s.guard with
  |none=>rfl
  |some g=>
   dsimp only
   rw [x g.1 (by simp [Step.names,hg])]
 have q:DE tm j s.op.BW:=Fj fun t v=>x t (by
  unfold Step.names
  split
  ·exact List.mem_cons_of_mem _ v
  ·exact v)
 unfold HF
 rw [z]
 congr 1
 funext w
 cases w with
 |false=>rfl
 |true=>
  simp only [cond_true]
  unfold V3
  cases ho:s.op with
  |p o=>rw [ho]at q;simp only;rw [SQ q]
  |r o=>rw [ho]at q;simp only;rw [Fv q]
  |a o=>rw [ho]at q;simp only;rw [UT q]
  |m o=>rfl
end
end
section
theorem Aa.AcD {x y:Aa} (h:x.eqs y=true):x=y:=by
 unfold Aa.eqs at h
 split at h
 ·rw [Aa.Db h]
 ·rw [Aa.Db h]
 ·exact Aa.Dk h
section
variable {Γ:Ao} {call:Co} {all:List Step} {W:Nat->Nat->Bool}
theorem L7 {Γ:Ao} {tm:Tr Aa} {o:NV} {v:Aa}:∀{k n:Nat} {hs:List Ak} {h:Ak},VW Γ tm o v k hs=true->n<k->hs[n]?=some h->Dp Γ tm h o=some v
 |0,_,_,_,_,hn,_=>by omega
 |k+1,n,[],h,ha,hn,hh=>by simp at hh
 |k+1,n,g::hs,h,ha,hn,hh=>by
  have ha:(Abr v (Dp Γ tm g o)&&VW Γ tm o v k hs)=true:=ha
  rw [aT]at ha
  cases n with
  |zero=>
   simp only [List.getElem?_cons_zero,oI]at hh
   subst hh
   have j:=ha.1
   unfold Abr at j
   split at j
   ·rename_i u q
    rw [q,Aa.AcD j]
   ·cases j
  |succ n=>exact L7 (k:=k) (n:=n) ha.2 (Nat.lt_of_succ_lt_succ hn) (by simpa using hh)
theorem PW {Γ:Ao} {s:Step} {f:Fr} {hs:List Ak} {o:NV} (z:s.op=.r o) (h:LH Γ s f hs=true) (x:De f.tm s.guard=some true) {v:Aa} (A:Dp Γ f.tm f.h o=some v) {n:Nat} {j:Ak} (q:n<s.back) (B:hs[n]?=some j):Dp Γ f.tm j o=some v:=by
 unfold LH at h
 cases hb:s.back with
 |zero=>omega
 |succ m=>
  rw [z,hb]at h
  simp only at h
  unfold Wj at h
  rw [x]at h
  simp only [A]at h
  exact L7 (k:=m+1) h (by rw [hb]at q;exact q) B
def Adn (μ:Aq) (h:Ak) (f:Fr) (hs:List Ak) (pre:List Item) (back:Nat):Prop:=
 (∀b B,μ b≠none->f.h.get b=some B->h.get b=some B)∨
 ∃n j,hs[n]?=some j/\(∀b B,μ b≠none->j.get b=some B->h.get b=some B)/\n+muts (pre.map Item.pair)<back
theorem Ir:∀{l:List Item} {id:Nat} {f:Fr},(∀y∈l,y.e=none)->YZ Γ call l id f
 |[],_,_,_=>trivial
 |z::_,_,_,h=>⟨fun _ e=>(by rw [h z (by simp)]at e;cases e),.inr fun w j=>h w (by simp [j])⟩
theorem early {μ:Aq} {tm:Tr Aa} {h:Ak} {res:Cc} {y:Item} {post:List Item} (hy:y.e=none) (I:BN y.s.op=false)
  (M:∀o,y.s.op=.r o->∀J:Ak,(∀b B,μ b≠none->J.get b=some B->h.get b=some B)->∀v,Dp Γ tm J o=some v->Dp Γ tm h o=some v):
  ∀(pre:List Item) {id:Nat} {f:Fr} {hs:List Ak},okD W ((pre++y::post).map Item.pair)=true->Clo W (pre++y::post)->(∀x∈pre++y::post,x.e≠none->BN x.s.op=false)->
   (∀x∈pre,x.e=none->W x.i y.i=false)->Lu Γ call all ((pre++y::post).map (·.s)) id f hs=some res->YZ Γ call (pre++y::post) id f->
   (∀t∈y.s.names,tm.get t=Gv (pre++y::post) f.tm.get t)->Adn μ h f hs pre y.s.back->
   (∀(k:Nat) (x:Item) (v:Aa) (B:Block),pre[k]?=some x->x.e=some (v,some B)->h.get (id+k)=some B)->(∀(k:Nat) (x:Item),pre[k]?=some x->x.e=none->μ (id+k)=none)->
   ∃u,HF Γ tm h (id+pre.length) y.s=some u/\YZ Γ call (pre++{y with e:=some u}::post) id f
 |[],id,f,hs,hok,hclo,hflo,_,hd,hfut,ht,hsee,_,_=>by
  have V:=EW (x:=y.pair) (r:=post.map Item.pair) hok
  simp only [List.nil_append,List.map_cons,Gz]at hd
  obtain ⟨ae,hd⟩:=Ap hd
  obtain ⟨x,hx,hd⟩:=Ac hd
  obtain ⟨u,q,rfl⟩:=Ih I hx
  have N:∀t∈y.s.names,tm.get t=f.tm.get t:=fun t Q=>by
   rw [ht t Q]
   simp only [List.nil_append,Gv,hy]
   refine DB fun z H al X=>?_
   have U:=(V.apart z.pair (List.mem_map_of_mem H)).writes t X Q
   have R:=hclo.1 hy z H al
   simp only [Item.pair]at U
   rw [U]at R
   cases R
  refine ⟨u,?_,?_⟩
  ·rw [V0 N]at*
   simp only [lN,Nat.add_zero]
   cases hop:y.s.op with
   |m o=>rw [hop]at I;cases I
   |p o=>
    have:HF Γ f.tm h id y.s=HF Γ f.tm f.h id y.s:=by unfold HF V3;rw [hop]
    rw [this];exact q
   |a o=>
    have:HF Γ f.tm h id y.s=HF Γ f.tm f.h id y.s:=by unfold HF V3;rw [hop]
    rw [this];exact q
   |r o=>
    have az:=q
    unfold HF at q⊢
    obtain ⟨b,hb,q⟩:=Ac q
    rw [hb]
    show (bif b then V3 Γ f.tm h id y.s.op else some (IJ,none))=some u
    cases b with
    |false=>exact q
    |true=>
     simp only [cond_true]at q⊢
     rw [hop]at q⊢
     simp only [V3]at q⊢
     obtain ⟨v,hv,q⟩:=Ac q
     simp only [oI]at q
     subst q
     have Y:DE tm f.tm o.BW:=Fj fun t Q=>N t (by
      unfold Step.names
      rw [hop]
      split
      ·exact List.mem_cons_of_mem _ Q
      ·exact Q)
     have aj:Dp Γ f.tm h o=some v:=by
      rw [<-Fv Y]
      rcases hsee with C|⟨n,J,hh,hs2,hlt⟩
      ·exact M o hop f.h C v (by rw [Fv Y];exact hv)
      ·refine M o hop J hs2 v ?_
       rw [Fv Y]
       exact PW hop ae hb hv (n:=n) (by omega) hh
     rw [aj]
     rfl
  ·refine ⟨fun u' e=>?_,hfut.2⟩
   simp only [oI]at e
   subst e
   exact q
 |x::pre,id,f,hs,hok,hclo,hflo,hW,hd,hfut,ht,hsee,hE,hN=>by
  have V:=EW (x:=x.pair) (r:=(pre++y::post).map Item.pair) hok
  have ai:y.pair∈(pre++y::post).map Item.pair:=List.mem_map_of_mem (by simp)
  have hA:=V.apart y.pair ai
  have aa:(pre++y::post).map Item.pair=pre.map Item.pair++y.pair::post.map Item.pair:=by simp
  simp only [List.cons_append,List.map_cons,Gz]at hd
  obtain ⟨ae,hd⟩:=Ap hd
  obtain ⟨r,P,hd⟩:=Ac hd
  have af:x.e=none->BN x.s.op=true->muts (pre.map Item.pair)<y.s.back:=fun A j=>by
   have hb:=V.back j
   rw [aa]at hb
   have:=Jm hb I (hW x (by simp) A)
   simp only [Item.pair]at this⊢
   omega
  have L:x.e≠none->BN x.s.op=false:=fun A=>hflo x (by simp) A
  cases r with
  |panic v f1=>
   exfalso
   have j:BN x.s.op=true:=by
    cases hb:BN x.s.op with
    |true=>rfl
    |false=>
     obtain ⟨u,_,e⟩:=Ih hb P
     cases e
   have A:x.e=none:=by
    cases hb:x.e with
    |none=>rfl
    |some u=>rw [L (by rw [hb];simp)]at j;cases j
   simp only [To]at hd
   obtain ⟨aq,_⟩:=Ap hd
   have ag:KU ((pre.map Item.pair++y.pair::post.map Item.pair).map (·.2)) 0=true:=by
    rw [<-aa]
    rw [List.map_map]
    exact aq
   have U:=HR ag I
   have R:=af A j
   simp only [Item.pair]at U R
   omega
  |go f'=>
   simp only [To]at hd
   obtain ⟨v,hv⟩:=Aa0 P
   have ac:YZ Γ call (pre++y::post) (id+1) f':=by
    rcases hfut.2 with ⟨g,hg,hf⟩|hf
    ·rw [P]at hg
     simp only [oI,Cc.go.injEq]at hg
     subst hg
     exact hf
    ·exact Ir hf
   have ap:∀t∈y.s.names,tm.get t=Gv (pre++y::post) f'.tm.get t:=fun t Q=>by
    rw [ht t Q]
    simp only [List.cons_append,Gv]
    cases A:x.e with
    |none=>
     simp only
     refine Ef ?_
     rw [hv,DL]
     rw [if_neg]
     intro hd
     have U:=hA.reads t hd Q
     have R:=hW x (by simp) A
     simp only [Item.pair]at U
     rw [U]at R
     cases R
    |some u=>
     simp only
     have j:=L (by rw [A];simp)
     have O:=hfut.1 u A
     rw [Jw j O]at P
     simp only [oI,Cc.go.injEq]at P
     subst P
     by_cases hd:x.s.dst=some t
     ·rw [if_pos hd,DB,DL,if_pos hd]
      intro z H _ X
      exact (V.apart z.pair (List.mem_map_of_mem H)).dst t hd X
     ·rw [if_neg hd]
      exact Ef (by rw [DL,if_neg hd])
   have ab:Adn μ h f' (bif BN x.s.op then f.h::hs else Ms id (Lm f.h f'.h id) hs) pre y.s.back:=by
    cases j:BN x.s.op with
    |true=>
     have A:x.e=none:=by
      cases hb:x.e with
      |none=>rfl
      |some u=>rw [L (by rw [hb];simp)]at j;cases j
     rcases hsee with C|⟨n,J,hh,hs2,hlt⟩
     ·exact .inr ⟨0,f.h,rfl,C,by have:=af A j;omega⟩
     ·refine .inr ⟨n+1,J,by simpa using hh,hs2,?_⟩
      have:muts ((x::pre).map Item.pair)=muts (pre.map Item.pair)+1:=by
       simp only [muts,List.map_cons,List.countP_cons]
       simp only [Item.pair,j,if_true]
      omega
    |false=>
     simp only [cond_false]
     obtain ⟨u,q,e⟩:=Ih j P
     simp only [Cc.go.injEq]at e
     have Z:∀g:Ak,(∀b B,μ b≠none->g.get b=some B->h.get b=some B)->∀b B,μ b≠none->(Gk g id u.2).get b=some B->h.get b=some B:=fun g C b B hb hB=>by
      simp only [Et]at hB
      split at hB
      ·rename_i B' eB
       split at hB
       ·rename_i eb
        simp only [oI]at hB
        subst hB
        cases A:x.e with
        |none=>
         have:=hN 0 x rfl A
         rw [Nat.add_zero]at this
         rw [eb]at hb
         exact absurd this hb
        |some u'=>
         have O:=hfut.1 u' A
         rw [q]at O
         simp only [oI]at O
         subst O
         have:=hE 0 x u.1 B' rfl (by rw [A,<-eB])
         rw [eb];simpa using this
       ·exact C b B hb hB
      ·exact C b B hb hB
     have aA:muts ((x::pre).map Item.pair)=muts (pre.map Item.pair):=by
      simp only [muts,List.map_cons,List.countP_cons]
      simp only [Item.pair,j]
      simp
     rcases hsee with C|⟨n,J,hh,hs2,hlt⟩
     ·left
      rw [e]
      exact Z f.h C
     ·have ak:(Gk f.h id u.2).get id=match u.2 with|some B=>some B|none=>f.h.get id:=by rw [Et];cases u.2<;>simp
      cases hg:f.h.get id with
      |some B0=>
       have I:Lm f.h f'.h id=none:=by unfold Lm;rw [hg]
       rw [I]
       exact .inr ⟨n,J,hh,hs2,by omega⟩
      |none=>
       have I:Lm f.h f'.h id=u.2:=by
        unfold Lm;rw [hg,e];show (Gk f.h id u.2).get id=u.2
        rw [ak,hg];cases u.2<;>rfl
       rw [I]
       exact .inr ⟨n,_,XH hh,Z J hs2,by omega⟩
   obtain ⟨u,q,hF⟩:=early hy I M pre V.rest hclo.2 (fun z H=>hflo z (by simp only [List.cons_append,List.mem_cons];exact .inr H)) (fun z H=>hW z (by simp [H])) hd ac ap ab
    (fun k z v B H A=>by have:=hE (k+1) z v B (by simpa using H) A;rw [show id+(k+1)=id+1+k from by omega]at this;exact this)
    (fun k z H A=>by have:=hN (k+1) z (by simpa using H) A;rw [show id+(k+1)=id+1+k from by omega]at this;exact this)
   refine ⟨u,?_,hfut.1,.inl ⟨f',P,hF⟩⟩
   rw [lC,show id+(pre.length+1)=id+1+pre.length from by omega]
   exact q
end
end
section
section
variable {ρ:Env} {μ μ' μ0:Aq} {h h' h0 h1:Ak} {w w' w0:World}
theorem Au.sub (H:AJ ρ μ h w) (q:h'.next=h.next) (j:h'.fx=h.fx) (hs:∀b B,h'.get b=some B->h.get b=some B):Au ρ μ h w μ h' w:=
 ⟨μ.le_refl,H.drop _ q j hs,Nat.le_refl _,fun r _ v=>⟨rfl,fun ⟨c,B,δ,hc,hm⟩=>v ⟨c,B,δ,hs c B hc,hm⟩⟩,rfl,rfl,Nat.le_of_eq q.symm,fun _ _=>rfl,fun _ _ h=>.inl h,j⟩
theorem Au.under (H:AJ ρ μ h w) (hn:h0.next=h.next) (hs:∀b B,h0.get b=some B->h.get b=some B) (g:Au ρ μ h0 w μ' h1 w') (ah:h'.next=h1.next) (Q:h'.fx=h1.fx) (Z:h0.fx=h.fx)
  (N:∀b B,h'.get b=some B->h1.get b=some B∨(h.get b=some B/\h0.get b=none)):Au ρ μ h w μ' h' w':=by
 have un:∀{b B r δ},h.get b=some B->h0.get b=none->μ b=some (r,δ)->¬AN μ h0 r:=fun {b B r δ} hb h0b j ⟨c,C,M,hc,hmc⟩=>by
  have:=H.inj _ _ _ _ _ _ _ (hs c C hc) hb hmc j
  subst this
  rw [h0b]at hc
  cases hc
 have old:∀{b B},h.get b=some B->h0.get b=none->∃r δ,μ b=some (r,δ)/\μ' b=some (r,δ)/\w'.heap[r]?=w.heap[r]?/\¬AN μ' h1 r/\C7 ρ μ B w.heap[r]? δ:=fun {b B} hb h0b=>by
  obtain ⟨r,δ,j,hB⟩:=H.blk b B hb
  obtain ⟨R,Y⟩:=g.kept r (H.lt hb j) (un hb h0b j)
  exact ⟨r,δ,j,g.le.to _ _ j,R,Y,hB⟩
 have L:∀r,r<w.heap.size->¬AN μ h r->w'.heap[r]?=w.heap[r]?/\¬AN μ' h' r:=fun r hr ho=>by
  have x:¬AN μ h0 r:=fun ⟨c,C,δ,hc,j⟩=>ho ⟨c,C,δ,hs c C hc,j⟩
  obtain ⟨R,Y⟩:=g.kept r hr x
  refine ⟨R,?_⟩
  rintro ⟨b,B,δ,hb,j⟩
  rcases N b B hb with h1b|⟨hb',h0b⟩
  ·exact Y ⟨b,B,δ,h1b,j⟩
  ·obtain ⟨U,M,q,v,_⟩:=old hb' h0b
   rw [v]at j
   simp only [oI,Prod.mk.injEq]at j
   obtain ⟨rfl,_⟩:=j
   exact ho ⟨b,B,M,hb',q⟩
 have X:∀k o,μ'.AX k=some o->μ.AX k=some o∨AN μ h k∨w.heap.size<=k:=fun k o A=>by
  rcases g.icy k o A with h1|⟨c,C,δ,hc,j⟩|h1
  ·exact .inl h1
  ·exact .inr (.inl ⟨c,C,δ,hs c C hc,j⟩)
  ·exact .inr (.inr h1)
 have P:Zb ρ μ' h' w':=by
  refine ⟨fun k o A=>?_,fun k o A=>?_,Q▸g.rel.AQ.facts⟩
  ·obtain ⟨O,q2⟩:=H.AQ.AQ k o A
   obtain ⟨q3,q4⟩:=L k (Array.getElem?_eq_some_iff.1 O).1 q2
   exact ⟨q3.trans O,q4⟩
  ·obtain ⟨O,q2⟩:=g.rel.AQ.AX k o A
   refine ⟨O,?_⟩
   rintro ⟨b,B,δ,hb,j⟩
   rcases N b B hb with h1b|⟨hb',h0b⟩
   ·exact q2 ⟨b,B,δ,h1b,j⟩
   ·obtain ⟨U,M,q,v,_⟩:=old hb' h0b
    rw [v]at j
    simp only [oI,Prod.mk.injEq]at j
    obtain ⟨rfl,_⟩:=j
    rcases g.icy _ o A with i1|i1|i1
    ·exact (H.AQ.AX _ o i1).2 ⟨b,B,M,hb',q⟩
    ·exact un hb' h0b q i1
    ·have:=H.lt hb' q;omega
 refine ⟨g.le,⟨fun b hb=>g.rel.fresh b (by omega),fun b B hb=>?_,fun b c B C r δ M hb hc I J=>?_,P⟩,g.size,L,g.os,g.output,by have:=g.next;omega,fun b hb=>g.old b (by omega),X,by rw [Q,g.fx,Z]⟩
 ·rcases N b B hb with h1b|⟨hb',h0b⟩
  ·exact g.rel.blk b B h1b
  ·obtain ⟨r,δ,_,z,A,_,hB⟩:=old hb' h0b
   exact ⟨r,δ,z,by rw [A];exact hB.mono g.le⟩
 ·rcases N b B hb with h1b|⟨hb',h0b⟩<;>rcases N c C hc with h1c|⟨hc',h0c⟩
  ·exact g.rel.inj _ _ _ _ _ _ _ h1b h1c I J
  ·obtain ⟨U,δ2,_,z,_,x,_⟩:=old hc' h0c
   rw [z]at J
   simp only [oI,Prod.mk.injEq]at J
   obtain ⟨rfl,_⟩:=J
   exact absurd ⟨b,B,δ,h1b,I⟩ x
  ·obtain ⟨U,δ2,_,z,_,x,_⟩:=old hb' h0b
   rw [z]at I
   simp only [oI,Prod.mk.injEq]at I
   obtain ⟨rfl,_⟩:=I
   exact absurd ⟨c,C,M,h1c,J⟩ x
  ·obtain ⟨r1,δ1,q,v,_⟩:=old hb' h0b
   obtain ⟨r2,δ2,ac,V,_⟩:=old hc' h0c
   rw [v]at I
   rw [V]at J
   simp only [oI,Prod.mk.injEq]at I J
   obtain ⟨rfl,rfl⟩:=I
   obtain ⟨rfl,rfl⟩:=J
   exact H.inj _ _ _ _ _ _ _ hb' hc' q ac
theorem Au.AmO (g:Au ρ μ0 h0 w0 μ h w) {id:Nat} (Q:h0.next<=id) (I:μ id=none) (O:id<h.next) (B:Block) (o:Obj) (δ:Nat×Nat)
  (hB:∀μ':Aq,μ.le μ'->C7 ρ μ' B (some o) δ):Au ρ μ0 h0 w0 (μ.put id (w.heap.size,δ)) (Gk h id (some B)) (w.alloc o):=by
 have H:=g.rel
 have A:μ.le (μ.put id (w.heap.size,δ)):=Aq.Rh I
 have x:∀b q r v,(Gk h id (some B)).get b=some q->μ.put id (w.heap.size,δ) b=some (r,v)->(b=id/\r=w.heap.size)∨(h.get b=some q/\μ b=some (r,v)/\r<w.heap.size):=fun b q r v hb j=>by
  rw [Et]at hb
  by_cases e:b=id
  ·subst e
   rw [Aq.BF]at j
   simp only [oI,Prod.mk.injEq]at j
   exact .inl ⟨rfl,j.1.symm⟩
  ·simp only [if_neg e]at hb
   rw [Aq.Ca _ _ e]at j
   exact .inr ⟨hb,j,H.lt hb j⟩
 have P:(w.alloc o).heap.size=w.heap.size+1:=by show (w.heap.push o).size=_;simp
 refine ⟨Aq.le_trans g.le A,⟨fun b hb=>?_,fun b q hb=>?_,fun b V X Y r U R h1 L m1 m2=>?_,H.Gg (fun r z C=>⟨World.Du _ _ z,?_⟩)⟩,by have:=g.size;omega,fun r z C=>?_,g.os,g.output,by rw [EP];exact g.next,fun b hb=>?_,fun k o M=>g.icy k o M,g.fx⟩
 ·rw [EP]at hb
  rw [Aq.Ca _ _ (by omega)]
  exact H.fresh b hb
 ·rw [Et]at hb
  by_cases e:b=id
  ·subst e
   simp only [if_true,oI]at hb
   subst hb
   exact ⟨_,_,Aq.BF _ _ _,by rw [World.heap_alloc_new];exact hB _ A⟩
  ·simp only [if_neg e]at hb
   obtain ⟨r,v,j,z⟩:=H.blk b q hb
   exact ⟨r,v,by rw [Aq.Ca _ _ e];exact j,by rw [World.Du _ _ (H.lt hb j)];exact z.mono A⟩
 ·rcases x _ _ _ _ h1 m1 with ⟨e1,e2⟩|⟨g1,n1,l1⟩<;>rcases x _ _ _ _ L m2 with ⟨e3,e4⟩|⟨g2,n2,l2⟩
  ·rw [e1,e3]
  ·omega
  ·omega
  ·exact H.inj _ _ _ _ _ _ _ g1 g2 n1 n2
 ·rintro ⟨b,q,v,hb,j⟩
  rcases x _ _ _ _ hb j with ⟨_,e⟩|⟨g1,n1,_⟩
  ·omega
  ·exact C ⟨b,q,v,g1,n1⟩
 ·obtain ⟨J,N⟩:=g.kept r z C
  have:=g.size
  refine ⟨by rw [World.Du _ _ (by omega)];exact J,?_⟩
  rintro ⟨b,q,v,hb,j⟩
  rcases x _ _ _ _ hb j with ⟨_,e⟩|⟨g1,n1,_⟩
  ·omega
  ·exact N ⟨b,q,v,g1,n1⟩
 ·rw [Aq.Ca _ _ (by omega)]
  exact g.old b hb
theorem Au.reserve (H:AJ ρ μ h w) (n:Nat):Au ρ μ h w μ ⟨h.DG,h.next+n,h.fx⟩ w:=
 ⟨μ.le_refl,⟨fun b hb=>H.fresh b (by have:h.next+n<=b:=hb;omega),H.blk,H.inj,H.AQ.of (fun _ _ j=>⟨rfl,j⟩) rfl rfl⟩,Nat.le_refl _,fun _ _ j=>⟨rfl,j⟩,rfl,rfl,Nat.le_add_right _ _,fun _ _=>rfl,fun _ _ h=>.inl h,rfl⟩
end
section
variable {P:Program} {Γ:Ao} {ρ:Env} {μ:Aq} {tm:Tr Aa} {a:Act} {w:World} {h:Ak} {pl:List Cq} {nt:Nat} {ops:Array Oper} {call:Co}
theorem Y9 (hΓ:Γ.AI ρ) (J:AW ρ μ tm a) (R:nt<=a.tmps.size) (H:AJ ρ μ h w) {o:Oper} {s:Step} {i:Nat} (U:ops[i]?=some o) (hs:NP P pl nt ops o s) {id:Nat} {u:Aa×Option Block}
  (j:HF Γ tm h id s=some u) {K:Act->World->Prop} {Q:Exit->Act->World->Prop} (L:u.2=none->∀v,Ah ρ μ u.1 v->K (a.put s.dst v) w)
  (N:∀B,u.2=some B->∀M m v,(∀μ':Aq,μ.le μ'->C7 ρ μ' B (some M) (0,m))->(∀μ':Aq,μ.le μ'->μ' id=some (w.heap.size,0,m)->Ah ρ μ' u.1 v)->K (a.put s.dst v) (w.alloc M)):wpOp P ops Q i K a w:=by
 refine Kk U ?_
 unfold HF at j
 obtain ⟨b,hb,j⟩:=Ac j
 rw [EE J hs.guard (fun d b e=>Nat.lt_of_lt_of_le (hs.seen d b e) R) hb]
 rw [hs.dst]at L N
 cases b with
 |false=>
  simp only [cond_false,oI]at j
  subst j
  simp only [Bool.false_eq_true,if_false]
  exact L rfl _ II
 |true=>
  simp only [cond_true]at j
  simp only [if_true]
  have z:=hs.op
  unfold V3 at j
  split at j
  ·rename_i q C
   rw [C]at z
   obtain ⟨v,I,j⟩:=Ac j
   simp only [oI]at j
   subst j
   obtain ⟨O,x,A⟩:=M4 (w:=w) hΓ J z I
   unfold Oper.wp
   rw [x]
   exact L rfl _ A
  ·rename_i q C
   rw [C]at z
   obtain ⟨v,I,j⟩:=Ac j
   simp only [oI]at j
   subst j
   obtain ⟨O,x,A⟩:=M1 hΓ H J z I
   unfold Oper.wp
   rw [x]
   exact L rfl _ A
  ·rename_i q C
   rw [C]at z
   obtain ⟨⟨B,v⟩,I,j⟩:=Ac j
   simp only [oI]at j
   subst j
   obtain ⟨M,O,x,m,hB,A⟩:=OV (w:=w) J z I
   unfold Oper.wp
   rw [x]
   exact N B rfl M m O hB A
  ·cases j
theorem HP {q:Array Bool} {j:Nat} (B:j∈Region.ready .any ops q):∀e∈CS ops j,q.getD e false=true:=fun e v=>by
 obtain ⟨_,o,A,z⟩:=mem_ready.1 B
 unfold CS at v
 rw [A]at v
 simp only [List.mem_map,List.mem_filter]at v
 obtain ⟨x,⟨C,hb⟩,rfl⟩:=v
 exact z x (Array.mem_toList_iff.1 C) hb
theorem M0 {q:Array Bool} {j:Nat} {o:Oper} (v:ops[j]?=some o) (hl:q.getD j true=false) (h:∀e∈CS ops j,q.getD e false=true):j∈Region.ready .any ops q:=
 mem_ready.2 ⟨hl,o,v,fun e x hb=>h e.on (by
  unfold CS
  rw [v]
  simp only [List.mem_map,List.mem_filter]
  exact ⟨e,⟨Array.mem_toList_iff.2 x,hb⟩,rfl⟩)⟩
theorem Jq {before:List Nat} (B:IG ops before=true) {q:Array Bool} (hc:∀j,q.getD j false=true->∀e∈CS ops j,q.getD e false=true):
  ∀(n j:Nat),j<n->j<ops.size->(∀e∈CS ops j,q.getD e false=true)->∀i,i<ops.size->waits before i j=true->q.getD i false=true
 |0,_,hj,_,_,_,_,_=>by omega
 |n+1,j,hj,hjs,hl,i,hi,hw=>by
  unfold IG at B
  have h1:=List.all_eq_true.1 B j (List.mem_range.2 hjs)
  have A:=List.all_eq_true.1 h1 i (List.mem_range.2 hi)
  rw [hw]at A
  simp only [Bool.not_true,Bool.false_or,List.any_eq_true,aT,Bool.or_eq_true]at A
  obtain ⟨e,C,x,v⟩:=A
  have x:e<j:=AP.1 x
  have z:=hl e C
  rcases v with v|v
  ·rw [<-An.1 v];exact z
  ·exact Jq B hc n e (by omega) (by omega) (hc e z) i hi v
end
end
section
section
variable {P:Program} {Γ:Ao} {ρ:Env} {μ:Aq} {tm:Tr Aa} {a:Act} {w:World} {h:Ak} {pl:List Cq} {nt:Nat} {ops:Array Oper} {call:Co} {all:List Step} {W:Nat->Nat->Bool} {before:List Nat}
 {res:Cc} {μ0:Aq} {h0:Ak} {w0:World}
structure GZ (P:Program) (Γ:Ao) (ρ:Env) (call:Co) (pl:List Cq) (nt:Nat) (ops:Array Oper) (W:Nat->Nat->Bool) (all:List Step) (res:Cc) (μ0:Aq) (h0:Ak) (w0:World)
  (q:List Item) (id:Nat) (f:Fr) (hs:List Ak) (listed:Array Bool) (μ:Aq) (tm:Tr Aa) (h:Ak) (a:Act) (w:World):Prop where
 ok:okD W (q.map Item.pair)=true
 src:∀x∈q,∃o,ops[x.i]?=some o/\NP P pl nt ops o x.s
 sub:∀x∈q,x.s∈all
 clo:Clo W q
 flo:∀x∈q,x.e≠none->BN x.s.op=false
 run:Lu Γ call all (q.map (·.s)) id f hs=some res
 fut:YZ Γ call q id f
 tmps:∀t,tm.get t=Gv q f.tm.get t
 tr:AW ρ μ tm a
 size:nt<=a.tmps.size
 mem:∀b,h.get b=E2 q id f.h.get b
 next:h.next=f.h.next
 F4:Au ρ μ0 h0 w0 μ h w
 low:h0.next<=id
 high:id+q.length<=f.h.next
 free:∀k,k<q.length->f.h.get (id+k)=none
 unb:∀k x,q[k]?=some x->(∀v B,x.e≠some (v,some B))->μ (id+k)=none
 defs:C6 ρ μ f.df a.defers
 lsize:listed.size=ops.size
 lst:∀i,i<ops.size->(listed.getD i true=false↔∃x∈q,x.i=i/\x.e=none)
 closed:∀j,listed.getD j false=true->∀e∈CS ops j,listed.getD e false=true
 lin:Y1 ops (q.map (·.i))=true
 fx:h.fx=f.h.fx
theorem WN (h:Ak) (id:Nat) (b:Option Block):(Gk h id b).fx=h.fx:=by cases b<;>rfl
theorem K7 {i:Nat} {r:List Nat} (h:Y1 ops (i::r)=true):(∀e∈CS ops i,e<i/\e∉r)/\Y1 ops r=true:=by
 simp only [Y1,aT,List.all_eq_true]at h
 refine ⟨fun e q=>?_,h.2⟩
 have j:=h.1 e q
 refine ⟨AP.1 j.1,fun v=>?_⟩
 have:r.any (Nat.beq e)=true:=any_beq.2 v
 rw [this]at j;simp at j
theorem GZ.skip {x:Item} {r:List Item} {id:Nat} {f:Fr} {hs:List Ak} {A:Array Bool} (D:GZ P Γ ρ call pl nt ops W all res μ0 h0 w0 (x::r) id f hs A μ tm h a w) {u:Aa×Option Block} (C:x.e=some u):
  ∃Q J,GZ P Γ ρ call pl nt ops W all res μ0 h0 w0 r (id+1) Q J A μ tm h a w:=by
 have M:=EW (x:=x.pair) (r:=r.map Item.pair) D.ok
 have N:=D.flo x (by simp) (by rw [C];simp)
 have R:=D.fut.1 u C
 have I:=Jw (call:=call) N R
 have j:=D.run
 simp only [List.map_cons,Gz]at j
 obtain ⟨_,j⟩:=Ap j
 rw [I]at j
 have j:Lu Γ call all (r.map (·.s)) (id+1) ⟨DM f.tm x.s.dst u.1,Gk f.h id u.2,f.df⟩ (bif BN x.s.op then f.h::hs else Ms id (Lm f.h (Gk f.h id u.2) id) hs)=some res:=j
 rw [N]at j
 have H:∀b,b≠id->(Gk f.h id u.2).get b=f.h.get b:=fun b hb=>by
  rw [Et]
  split
  ·rw [if_neg hb]
  ·rfl
 have O:=D.high
 simp only [lC]at O
 refine ⟨_,_,⟨M.rest,fun z q=>D.src z (by simp [q]),fun z q=>D.sub z (by simp [q]),D.clo.2,fun z q=>D.flo z (by simp [q]),j,?_,fun t=>?_,D.tr,D.size,fun b=>?_,?_,D.F4,?_,?_,fun k X=>?_,fun k z q V=>?_,D.defs,D.lsize,fun i U=>?_,D.closed,(K7 D.lin).2,by rw [D.fx];exact (WN _ _ _).symm⟩⟩
 ·rcases D.fut.2 with ⟨g,hg,hf⟩|hf
  ·rw [I]at hg
   simp only [oI,Cc.go.injEq]at hg
   subst hg
   exact hf
  ·exact Ir hf
 ·rw [D.tmps t]
  simp only [Gv,C]
  by_cases hd:x.s.dst=some t
  ·rw [if_pos hd,DB,DL,if_pos hd]
   intro z q _ L
   exact (M.apart z.pair (List.mem_map_of_mem q)).dst t hd L
  ·rw [if_neg hd]
   exact Ef (by rw [DL,if_neg hd])
 ·rw [D.mem b]
  obtain ⟨v,B⟩:=u
  simp only [E2,C]
  cases B with
  |none=>simp only;exact Gw rfl
  |some B=>
   simp only
   by_cases hb:b=id
   ·rw [if_pos hb,Jd (by omega),Et]
    simp [hb]
   ·rw [if_neg hb]
    exact Gw (H b hb).symm
 ·rw [D.next];exact (EP _ _ _).symm
 ·have:=D.low;omega
 ·show id+1+r.length<=(Gk f.h id u.2).next
  rw [EP];omega
 ·show (Gk f.h id u.2).get (id+1+k)=none
  rw [H _ (by omega)]
  have:=D.free (k+1) (by simp;omega)
  rw [show id+1+k=id+(k+1)from by omega];exact this
 ·have:=D.unb (k+1) z (by simpa using q) V
  rw [show id+1+k=id+(k+1)from by omega];exact this
 ·rw [D.lst i U]
  constructor
  ·rintro ⟨z,q,e1,e2⟩
   simp only [List.mem_cons]at q
   rcases q with rfl|q
   ·rw [C]at e2;cases e2
   ·exact ⟨z,q,e1,e2⟩
  ·rintro ⟨z,q,e1,e2⟩
   exact ⟨z,by simp [q],e1,e2⟩
theorem WT:∀{pre:List Item} {y:Item} {post:List Item},okD W ((pre++y::post).map Item.pair)=true->(∀x∈pre,X7 W x.pair y.pair)/\∀z∈post,X7 W y.pair z.pair
 |[],y,post,h=>⟨fun _ B=>(by cases B),fun z j=>(EW (x:=y.pair) (r:=post.map Item.pair) h).apart z.pair (List.mem_map_of_mem j)⟩
 |x::pre,y,post,h=>by
  have q:=EW (x:=x.pair) (r:=(pre++y::post).map Item.pair) h
  obtain ⟨A,v⟩:=WT (pre:=pre) q.rest
  refine ⟨fun z j=>?_,v⟩
  simp only [List.mem_cons]at j
  rcases j with rfl|j
  ·exact q.apart y.pair (List.mem_map_of_mem (by simp))
  ·exact A z j
theorem Tz {g:Nat->Option Aa} {u:Aa×Option Block} {y:Item} {post:List Item} (j:y.e=none) {t:Nat}:∀{pre:List Item},(∀x∈pre,x.e≠none->x.s.dst=some t->y.s.dst≠some t)->
  Gv (pre++{y with e:=some u}::post) g t=if y.s.dst=some t then some u.1 else Gv (pre++y::post) g t
 |[],_=>by simp [Gv,j]
 |x::pre,h=>by
  have ih:=Tz (g:=g) (u:=u) (y:=y) (post:=post) j (t:=t) (pre:=pre) fun z q=>h z (by simp [q])
  simp only [List.cons_append,Gv]
  cases hx:x.e with
  |none=>exact ih
  |some v=>
   simp only
   rw [ih]
   by_cases h1:x.s.dst=some t
   ·rw [if_pos h1,if_pos h1,if_neg (h x (by simp) (by rw [hx];simp) h1)]
   ·rw [if_neg h1,if_neg h1]
theorem Ng {g:Nat->Option Block} {v:Aa} {oB:Option Block} {y:Item} {post:List Item} (j:y.e=none) {b:Nat}:∀{pre:List Item} {id:Nat},
  E2 (pre++{y with e:=some (v,oB)}::post) id g b=match oB with|some B=>if b=id+pre.length then some B else E2 (pre++y::post) id g b|none=>E2 (pre++y::post) id g b
 |[],id=>by cases oB<;>simp [E2,j]
 |x::pre,id=>by
  have ih:=Ng (g:=g) (v:=v) (oB:=oB) (y:=y) (post:=post) j (b:=b) (pre:=pre) (id:=id+1)
  simp only [List.cons_append,E2,lC]
  rw [ih]
  cases oB with
  |none=>rfl
  |some B=>
   simp only
   rw [show id+1+pre.length=id+(pre.length+1)from by omega]
   by_cases hb:b=id+(pre.length+1)
   ·rw [if_pos hb,if_pos hb]
    split
    ·rw [if_neg (by omega)]
    ·rfl
   ·rw [if_neg hb,if_neg hb]
theorem Xq {y:Item} {post:List Item} {u:Aa×Option Block}:∀{pre:List Item},Clo W (pre++y::post)->(∀x∈pre,x.e=none->W x.i y.i=false)->Clo W (pre++{y with e:=some u}::post)
 |[],h,_=>⟨fun e=>(by cases e),h.2⟩
 |x::pre,h,hW=>by
  refine ⟨fun v z j q=>?_,Xq h.2 fun z j=>hW z (by simp [j])⟩
  have j:z∈pre++{y with e:=some u}::post:=j
  simp only [List.mem_append,List.mem_cons]at j
  rcases j with j|rfl|j
  ·exact h.1 v z (by simp [j]) q
  ·exact hW x (by simp) v
  ·exact h.1 v z (by simp [j]) q
theorem GZ.lt {q:List Item} {id:Nat} {f:Fr} {hs:List Ak} {j:Array Bool} (D:GZ P Γ ρ call pl nt ops W all res μ0 h0 w0 q id f hs j μ tm h a w) {x:Item} (z:x∈q):x.i<ops.size:=by
 obtain ⟨o,v,_⟩:=D.src x z
 exact (Array.getElem?_eq_some_iff.1 v).1
theorem Ac2 {j:Array Bool} {i:Nat} (h:j.getD i true=false):j.getD i false=false:=by
 rcases Nat.lt_or_ge i j.size with h'|h'
 ·simp [h']at h⊢;exact h
 ·simp [Array.getElem?_eq_none h']at h
theorem GZ.apart {q:List Item} {id:Nat} {f:Fr} {hs:List Ak} {v:Array Bool} (D:GZ P Γ ρ call pl nt ops (waits before) all res μ0 h0 w0 q id f hs v μ tm h a w) (B:IG ops before=true) {x:Item} (z:x∈q) (C:x.e=none)
  {j:Nat} (H:j<ops.size) (I:∀e∈CS ops j,v.getD e false=true):waits before x.i j=false:=by
 cases hw:waits before x.i j with
 |false=>rfl
 |true=>
  have J:=Jq B D.closed (j+1) j (by omega) H I x.i (D.lt z) hw
  have A:=Ac2 ((D.lst x.i (D.lt z)).2 ⟨x,z,rfl,C⟩)
  rw [J]at A
  cases A
theorem N4 {q:Array Bool} (hc:∀j,q.getD j false=true->∀e∈CS ops j,q.getD e false=true) {i:Nat} (z:∀e∈CS ops i,q.getD e false=true):
  ∀j,(q.setIfInBounds i true).getD j false=true->∀e∈CS ops j,(q.setIfInBounds i true).getD e false=true:=fun j v e x=>by
 refine getD_set_true ?_
 by_cases hij:i=j
 ·exact z e (hij▸x)
 ·rw [getD_set_ne false hij]at v
  exact hc j v e x
theorem IB {j:Array Bool} {i:Nat} (h:i<j.size):(j.setIfInBounds i true).getD i true=true:=by
 simp [h]
theorem Ry {y:Item} {pre post:List Item} {z:Item} (k:Nat):(pre++z::post)[k]?=if k=pre.length then some z else (pre++y::post)[k]?:=by
 by_cases hk:k=pre.length
 ·subst hk
  simp
 ·rw [if_neg hk]
  by_cases hlt:k<pre.length
  ·rw [List.getElem?_append_left hlt,List.getElem?_append_left hlt]
  ·rw [List.getElem?_append_right (by omega),List.getElem?_append_right (by omega)]
   have:k-pre.length=(k-pre.length-1)+1:=by omega
   rw [this,List.getElem?_cons_succ,List.getElem?_cons_succ]
theorem GZ.Aez {pre:List Item} {y:Item} {post:List Item} {id:Nat} {f:Fr} {hs:List Ak} {A:Array Bool} (D:GZ P Γ ρ call pl nt ops (waits before) all res μ0 h0 w0 (pre++y::post) id f hs A μ tm h a w)
  (hΓ:Γ.AI ρ) (hv:IG ops before=true) (V:y.e=none) (hm:BN y.s.op=false) (hr:y.i∈Region.ready .any ops A) {K:Act->World->Prop} {Q:Exit->Act->World->Prop}
  (hK:∀u J ap M a' w',GZ P Γ ρ call pl nt ops (waits before) all res μ0 h0 w0 (pre++{y with e:=some u}::post) id f hs (A.setIfInBounds y.i true) J ap M a' w'->K a' w'):wpOp P ops Q y.i K a w:=by
 have O:y∈pre++y::post:=by simp
 obtain ⟨o,ho,R⟩:=D.src y O
 have ac:=D.lt O
 have ad:=HP hr
 have hW:∀x∈pre++y::post,x.e=none->waits before x.i y.i=false:=fun x j N=>D.apart hv j N ac ad
 obtain ⟨ab,ak⟩:=WT D.ok
 have ax:(pre++y::post)[pre.length]?=some y:=by simp
 have U:μ (id+pre.length)=none:=D.unb _ _ ax fun v B e=>by rw [V]at e;cases e
 have av:=D.high
 simp only [lA,lC]at av
 obtain ⟨u,hu,ae⟩:=early (Γ:=Γ) (call:=call) (all:=all) (W:=waits before) (μ:=μ) (tm:=tm) (h:=h) (res:=res) (y:=y) (post:=post) V hm
  (fun q hq z hh v H=>UK D.tr (by rw [<-hq];exact R.op) hh H) pre D.ok D.clo D.flo (fun x j N=>hW x (by simp [j]) N) D.run D.fut (fun t _=>D.tmps t)
  (.inl fun b B hb hB=>by
   rw [D.mem b]
   rw [Nf]
   ·exact hB
   ·intro k x v B' z j e
    have ao:=(List.getElem?_eq_some_iff.1 z).1
    have:=D.free k ao
    rw [<-e,hB]at this
    cases this)
  (fun k x v B z j=>by
   rw [D.mem]
   exact RD (by rw [List.getElem?_append_left (List.getElem?_eq_some_iff.1 z).1];exact z) j)
  (fun k x z j=>D.unb k x (by rw [List.getElem?_append_left (List.getElem?_eq_some_iff.1 z).1];exact z) fun v B e=>by rw [j]at e;cases e)
 have fin:∀(J:Aq) (M:Ak) (w':World) (v:Value),μ.le J->Ah ρ J u.1 v->Au ρ μ0 h0 w0 J M w'->M.next=h.next->(∀b,M.get b=E2 (pre++{y with e:=some u}::post) id f.h.get b)->(∀b,b≠id+pre.length->J b=μ b)->(u.2=none->J=μ)->
   GZ P Γ ρ call pl nt ops (waits before) all res μ0 h0 w0 (pre++{y with e:=some u}::post) id f hs (A.setIfInBounds y.i true) J (DM tm y.s.dst u.1) M (a.put y.s.dst v) w':=fun J M w' v L H X hn ah hμ al=>by
  have C:∀{x:Item},x∈pre++{y with e:=some u}::post->x∈pre++y::post∨x={y with e:=some u}:=fun {x} j=>by
   simp only [List.mem_append,List.mem_cons]at j⊢
   rcases j with j|rfl|j
   ·exact .inl (.inl j)
   ·exact .inr rfl
   ·exact .inl (.inr (.inr j))
  have Y:(pre++{y with e:=some u}::post).map Item.pair=(pre++y::post).map Item.pair:=by simp [Item.pair]
  have Z:(pre++{y with e:=some u}::post).map (·.s)=(pre++y::post).map (·.s):=by simp
  have ag:(pre++{y with e:=some u}::post).map (·.i)=(pre++y::post).map (·.i):=by simp
  refine ⟨by rw [Y];exact D.ok,fun x j=>?_,fun x j=>?_,Xq D.clo fun x j N=>hW x (by simp [j]) N,fun x j N=>?_,by rw [Z];exact D.run,ae,fun t=>?_,(D.tr.mono L).put (fun t e=>?_) H,by rw [Act.Mo];exact D.size,ah,by rw [hn];exact D.next,X,D.low,?_,fun k z=>?_,fun k x z j=>?_,?_,by simp [D.lsize],fun i hi=>?_,N4 D.closed ad,by rw [ag];exact D.lin,by rw [X.fx,<-D.F4.fx];exact D.fx⟩
  ·rcases C j with j|rfl
   ·exact D.src x j
   ·exact D.src y O
  ·rcases C j with j|rfl
   ·exact D.sub x j
   ·exact D.sub y O
  ·rcases C j with j|rfl
   ·exact D.flo x j N
   ·exact hm
  ·rw [Tz V,DL,D.tmps t]
   intro x j _ hd
   exact (ab x j).dst t hd
  ·rw [R.dst]at e
   exact Nat.lt_of_lt_of_le (R.small t e) D.size
  ·have:=D.high
   simp only [lA,lC]at this⊢
   exact this
  ·refine D.free k ?_
   simp only [lA,lC]at z⊢
   exact z
  ·rw [Ry (y:=y)]at z
   split at z
   ·rename_i e
    simp only [oI]at z
    subst z
    have ai:u.2=none:=by
     obtain ⟨v1,B1⟩:=u
     cases B1 with
     |none=>rfl
     |some B1=>exact absurd rfl (j v1 B1)
    rw [al ai,e]
    exact U
   ·rename_i e
    rw [hμ _ (by omega)]
    exact D.unb k x z j
  ·have:(a.put y.s.dst v).defers=a.defers:=by cases y.s.dst<;>rfl
   rw [this]
   exact D.defs.mono L
  ·by_cases e:y.i=i
   ·subst e
    rw [IB (by rw [D.lsize];exact ac)]
    constructor
    ·intro I;cases I
    ·rintro ⟨x,j,e1,I⟩
     exfalso
     simp only [List.mem_append,List.mem_cons]at j
     rcases j with j|rfl|j
     ·exact (ab x j).ne e1
     ·cases I
     ·exact (ak x j).ne e1.symm
   ·rw [getD_set_ne true e,D.lst i hi]
    constructor
    ·rintro ⟨x,j,e1,I⟩
     simp only [List.mem_append,List.mem_cons]at j
     rcases j with j|rfl|j
     ·exact ⟨x,by simp [j],e1,I⟩
     ·exact absurd e1 e
     ·exact ⟨x,by simp [j],e1,I⟩
    ·rintro ⟨x,j,e1,I⟩
     rcases C j with j|rfl
     ·exact ⟨x,j,e1,I⟩
     ·cases I
 refine Y9 hΓ D.tr D.size D.F4.rel ho R hu (fun hn v H=>?_) (fun B hB ob m v an H=>?_)
 ·refine hK u μ (DM tm y.s.dst u.1) h _ _ (fin μ h w v μ.le_refl H D.F4 rfl (fun b=>?_) (fun _ _=>rfl) fun _=>rfl)
  obtain ⟨u1,u2⟩:=u
  simp only at hn
  subst hn
  rw [Ng V,D.mem b]
 ·have ay:=D.low
  have X:=D.F4.AmO (id:=id+pre.length) (by omega) U (by rw [D.next];omega) B ob (0,m) an
  have L:μ.le (μ.put (id+pre.length) (w.heap.size,0,m)):=Aq.Rh U
  refine hK u _ _ _ _ _ (fin _ _ _ v L (H _ L (Aq.BF _ _ _)) X (EP _ _ _) (fun b=>?_) (fun b hb=>Aq.Ca _ _ hb) fun e=>by rw [hB]at e;cases e)
  obtain ⟨u1,u2⟩:=u
  simp only at hB
  subst hB
  rw [Ng V,Et,D.mem b]
end
end
section
noncomputable def O7:List Item->Nat->Ak->Ak
 |[],_,h=>h
 |x::r,id,h=>match x.e with
  |some (_,some B)=>Gk (O7 r (id+1) h) id (some B)
  |_=>O7 r (id+1) h
theorem NN:∀{q:List Item} {id:Nat} {h:Ak} {b:Nat},(O7 q id h).get b=E2 q id h.get b
 |[],_,_,_=>rfl
 |x::r,id,h,b=>by
  have ih:=NN (q:=r) (id:=id+1) (h:=h) (b:=b)
  simp only [O7,E2]
  cases hx:x.e with
  |none=>exact ih
  |some u=>
   obtain ⟨v,B⟩:=u
   cases B with
   |none=>exact ih
   |some B=>
    simp only
    rw [Et]
    simp only
    rw [ih]
theorem LR:∀{q:List Item} {id:Nat} {h:Ak},(O7 q id h).fx=h.fx
 |[],_,_=>rfl
 |x::r,id,h=>by
  simp only [O7]
  split
  ·rw [WN];exact LR
  ·exact LR
theorem Iy:∀{q:List Item} {id:Nat} {h:Ak},(O7 q id h).next=h.next
 |[],_,_=>rfl
 |x::r,id,h=>by
  simp only [O7]
  split
  ·rw [EP];exact Iy
  ·exact Iy
theorem Na:∀{l:List Step} {tm:Tr Aa} {t:Nat},(forget l tm).get t=none∨((forget l tm).get t=tm.get t/\∀s∈l,s.dst≠some t)
 |[],tm,t=>.inr ⟨rfl,fun _ h=>(by cases h)⟩
 |s::r,tm,t=>by
  have q:forget (s::r) tm=forget r (match s.dst with|some d=>Tr.set tm d none|none=>tm):=rfl
  rw [q]
  rcases Na (l:=r) (tm:=match s.dst with|some d=>Tr.set tm d none|none=>tm) (t:=t)with h|⟨h1,h2⟩
  ·exact .inl h
  ·cases hd:s.dst with
   |none=>
    rw [hd]at h1
    refine .inr ⟨h1,fun z j=>?_⟩
    simp only [List.mem_cons]at j
    rcases j with rfl|j
    ·rw [hd];simp
    ·exact h2 z j
   |some d=>
    rw [hd]at h1
    simp only [Tr.Bf]at h1
    by_cases e3:t=d
    ·rw [if_pos e3]at h1
     exact .inl h1
    ·rw [if_neg e3]at h1
     refine .inr ⟨h1,fun z j=>?_⟩
     simp only [List.mem_cons]at j
     rcases j with rfl|j
     ·rw [hd]
      intro v
      exact e3 (Option.some.inj v).symm
     ·exact h2 z j
section
variable {P:Program} {Γ:Ao} {ρ:Env} {μ:Aq} {tm:Tr Aa} {a:Act} {w:World} {h:Ak} {pl:List Cq} {nt:Nat} {ops:Array Oper} {call:Co} {all:List Step} {W:Nat->Nat->Bool} {before:List Nat}
 {res:Cc} {μ0:Aq} {h0:Ak} {w0:World}
theorem GZ.part {q:List Item} {id:Nat} {f:Fr} {hs:List Ak} {j:Array Bool} (D:GZ P Γ ρ call pl nt ops W all res μ0 h0 w0 q id f hs j μ tm h a w):∀b B,f.h.get b=some B->h.get b=some B:=fun b B hB=>by
 rw [D.mem b,Nf]
 ·exact hB
 ·intro k x v A z C e
  have:=D.free k (List.getElem?_eq_some_iff.1 z).1
  rw [<-e,hB]at this
  cases this
theorem Ti {x:Item} {r:List Item} {id:Nat} {f:Fr} {hs:List Ak} {j:Array Bool} (D:GZ P Γ ρ call pl nt ops W all res μ0 h0 w0 (x::r) id f hs j μ tm h a w) {v:Aa} {C:Ak} {A:Aq} {w':World} (q:Au ρ μ f.h w A C w')
  (B:res=.panic v ⟨forget all f.tm,C,f.df⟩) {Q:Exit->Act->World->Prop} (L:Dr ρ nt μ0 h0 w0 Q (FH res)) {u:Value} (J:Ah ρ A v u):Q (.panic (Io u)) a w':=by
 subst B
 refine L A a w' _ ⟨fun t=>?_,D.size,q.rel,D.defs.mono q.le⟩ ((D.F4.trans (Au.sub D.F4.rel D.next.symm D.fx.symm D.part)).trans q) ⟨u,rfl,J⟩
 show Ah ρ A (Eu ((forget all f.tm).get t)) _
 rcases Na (l:=all) (tm:=f.tm) (t:=t)with h1|⟨h1,h2⟩
 ·rw [h1];trivial
 ·rw [h1]
  have H:=(D.tr t).mono q.le
  rw [D.tmps t,DB]at H
  ·exact H
  ·exact fun z I _=>h2 z.s (D.sub z I)
theorem GZ.change {x:Item} {r:List Item} {id:Nat} {f:Fr} {hs:List Ak} {U:Array Bool} (D:GZ P Γ ρ call pl nt ops (waits before) all res μ0 h0 w0 (x::r) id f hs U μ tm h a w)
  (hc:BC P ρ call) (hv:IG ops before=true) (hx:x.e=none) (hm:BN x.s.op=true) (hr:x.i∈Region.ready .any ops U) {K:Act->World->Prop} {Q:Exit->Act->World->Prop} (L:Dr ρ nt μ0 h0 w0 Q (FH res))
  (hK:∀f' N aL h' a' w',GZ P Γ ρ call pl nt ops (waits before) all res μ0 h0 w0 r (id+1) f' (f.h::hs) (U.setIfInBounds x.i true) N aL h' a' w'->K a' w'):wpOp P ops Q x.i K a w:=by
 have hO:=EW (x:=x.pair) (r:=r.map Item.pair) D.ok
 obtain ⟨o,ho,R⟩:=D.src x (by simp)
 have aK:=D.lt (x:=x) (by simp)
 have aQ:=HP hr
 have A:=D.run
 simp only [List.map_cons,Gz]at A
 obtain ⟨_,A⟩:=Ap A
 obtain ⟨xr,H,A⟩:=Ac A
 have aD:=H
 rw [OI hm]at H
 rw [hm]at A
 have Z:∀t∈x.s.names,tm.get t=f.tm.get t:=fun t hn=>by
  rw [D.tmps t]
  simp only [Gv,hx]
  refine DB fun z j aG al=>?_
  have M:=(hO.apart z.pair (List.mem_map_of_mem j)).writes t al hn
  have h2:=D.clo.1 hx z j aG
  simp only [Item.pair]at M
  rw [M]at h2
  cases h2
 have au:De tm x.s.guard=De f.tm x.s.guard:=by
  unfold De
  cases hg:x.s.guard with
  |none=>rfl
  |some g=>
   dsimp only
   rw [Z g.1 (by simp [Step.names,hg])]
 have Hf:AJ ρ μ f.h w:=D.F4.rel.drop _ D.next.symm D.fx.symm D.part
 have aN:=D.high
 simp only [lC]at aN
 have aE:∀(Y:Act) (u:Value),(Y.put x.s.dst u).defers=Y.defers:=fun Y u=>by cases x.s.dst<;>rfl
 have fin:∀(v:Aa) (u:Value) (N:Aq) (M:Ak) (w':World) (af:List (FuncId×List Aa)) (Y:Act),xr=.go ⟨DM f.tm x.s.dst v,M,af⟩->Y.tmps=a.tmps->C6 ρ N af Y.defers->Au ρ μ f.h w N M w'->Ah ρ N v u->K (Y.put x.s.dst u) w':=fun v u N M w' af Y V ha aM g ab=>by
  subst V
  have A:Lu Γ call all (r.map (·.s)) (id+1) ⟨DM f.tm x.s.dst v,M,af⟩ (f.h::hs)=some res:=A
  have ap:∀k z,r[k]?=some z->∀J B,z.e=some (J,some B)->h.get (id+1+k)=some B:=fun k z j J B X=>by
   rw [D.mem]
   have:=RD (r:=x::r) (id:=id) (g:=f.h.get) (k:=k+1) (by simpa using j) X
   rw [show id+1+k=id+(k+1)from by omega];exact this
  have ad:∀k,k<r.length->f.h.get (id+1+k)=none:=fun k hk=>by
   have:=D.free (k+1) (by simp;omega)
   rw [show id+1+k=id+(k+1)from by omega];exact this
  have an:∀k z,r[k]?=some z->(∀J B,z.e≠some (J,some B))->μ (id+1+k)=none:=fun k z j X=>by
   have:=D.unb (k+1) z (by simpa using j) X
   rw [show id+1+k=id+(k+1)from by omega];exact this
  have ao:Au ρ μ h w N (O7 r (id+1) M) w':=by
   refine Au.under D.F4.rel D.next.symm D.part g Iy LR D.fx.symm fun b B hb=>?_
   rw [NN]at hb
   rcases Jc hb with hb|⟨k,z,J,j,X,rfl⟩
   ·exact .inl hb
   ·exact .inr ⟨ap k z j J B X,ad k (List.getElem?_eq_some_iff.1 j).1⟩
  have aJ:AW ρ N tm Y:=fun t=>by rw [ha];exact (D.tr t).mono g.le
  refine hK _ N (DM tm x.s.dst v) (O7 r (id+1) M) _ _ ⟨hO.rest,fun z j=>D.src z (by simp [j]),fun z j=>D.sub z (by simp [j]),D.clo.2,fun z j=>D.flo z (by simp [j]),A,?_,fun t=>?_,aJ.put (fun t e=>?_) ab,by rw [Act.Mo,ha];exact D.size,fun b=>NN,Iy,D.F4.trans ao,?_,?_,fun k hk=>?_,fun k z j X=>?_,by rw [aE];exact aM,by simp [D.lsize],fun i hi=>?_,N4 D.closed aQ,(K7 D.lin).2,LR⟩
  ·rcases D.fut.2 with ⟨g',hg',hf⟩|hf
   ·rw [aD]at hg'
    simp only [oI,Cc.go.injEq]at hg'
    subst hg'
    exact hf
   ·exact Ir hf
  ·rw [DL,D.tmps t]
   simp only [Gv,hx]
   by_cases hd:x.s.dst=some t
   ·rw [if_pos hd,DB,DL,if_pos hd]
    intro z j _ al
    exact (hO.apart z.pair (List.mem_map_of_mem j)).dst t hd al
   ·rw [if_neg hd]
    exact Ef (by rw [DL,if_neg hd])
  ·rw [R.dst]at e
   rw [ha]
   exact Nat.lt_of_lt_of_le (R.small t e) D.size
  ·have:=D.low;omega
  ·show id+1+r.length<=M.next
   have:=g.next;omega
  ·show M.get (id+1+k)=none
   cases hb:M.get (id+1+k)with
   |none=>rfl
   |some B=>
    exfalso
    obtain ⟨s,δ,ay,_⟩:=g.rel.blk _ _ hb
    have aC:=g.old (id+1+k) (by omega)
    have O:=ay
    rw [aC]at O
    have j:r[k]?=some r[k]:=List.getElem?_eq_getElem hk
    have ah:¬∀J B,(r[k]).e≠some (J,some B):=fun aa=>by
     rw [an k _ j aa]at O
     cases O
    have ah:∃J B',(r[k]).e=some (J,some B'):=Classical.byContradiction fun aa=>ah fun J B' e=>aa ⟨J,B',e⟩
    obtain ⟨J,B',X⟩:=ah
    have hh:=ap k _ j J B' X
    have aa:¬AN μ f.h s:=fun ⟨c,C,δ',hc',hmc⟩=>by
     have:=D.F4.rel.inj _ _ _ _ _ _ _ (D.part c C hc') hh hmc O
     subst this
     rw [ad k hk]at hc'
     cases hc'
    exact (g.kept s (D.F4.rel.lt hh O) aa).2 ⟨_,B,δ,hb,ay⟩
  ·rw [g.old _ (by have:=(List.getElem?_eq_some_iff.1 j).1;omega)]
   exact an k z j X
  ·by_cases e:x.i=i
   ·subst e
    rw [IB (by rw [D.lsize];exact aK)]
    constructor
    ·intro e2;cases e2
    ·rintro ⟨z,j,I,_⟩
     exact absurd I.symm (hO.apart z.pair (List.mem_map_of_mem j)).ne
   ·rw [getD_set_ne true e,D.lst i hi]
    constructor
    ·rintro ⟨z,j,I,e2⟩
     simp only [List.mem_cons]at j
     rcases j with rfl|j
     ·exact absurd I e
     ·exact ⟨z,j,I,e2⟩
    ·rintro ⟨z,j,I,e2⟩
     exact ⟨z,by simp [j],I,e2⟩
 refine Kk ho ?_
 unfold I6 at H
 obtain ⟨b,hb,H⟩:=Ac H
 rw [<-au]at hb
 rw [EE D.tr R.guard (fun d b e=>Nat.lt_of_lt_of_le (R.seen d b e) D.size) hb]
 cases b with
 |false=>
  simp only [cond_false,oI]at H
  simp only [Bool.false_eq_true,if_false]
  rw [<-R.dst]
  exact fin IJ undef μ f.h w f.df a H.symm rfl D.defs (Au.refl Hf) II
 |true=>
  simp only [cond_true]at H
  simp only [if_true]
  have ax:=R.op
  unfold WJ at H
  split at H
  ·rename_i q I;rw [I]at hm;cases hm
  ·rename_i q I;rw [I]at hm;cases hm
  ·rename_i q I;rw [I]at hm;cases hm
  ·rename_i q I
   rw [I]at ax
   obtain ⟨aY,ae,H⟩:=Ac H
   obtain ⟨out,aA,V⟩:=ME H
   have aH:DE tm f.tm q.BW:=Fj fun t hn=>Z t (by
    unfold Step.names
    rw [I]
    split
    ·exact List.mem_cons_of_mem _ hn
    ·exact hn)
   rw [<-QS aH]at ae
   refine Td hc Hf (Lh Hf D.tr ax ae) aA ?_
   rw [<-R.dst]
   cases out with
   |val v h'=>exact fun N u w' hg ab=>fin v u N h' w' f.df a V rfl (D.defs.mono hg.le) hg ab
   |panic v h'=>
    intro N u w' hg ab
    have V:xr=.panic v ⟨f.tm,h',f.df⟩:=V
    subst V
    simp only [To]at A
    obtain ⟨_,A⟩:=Ap A
    simp only [oI]at A
    exact Ti D hg A.symm L ab
   |defer g args=>
    intro d hd
    exact fin .any undef μ f.h w ((g,args)::f.df) {a with defers:=d::a.defers} V rfl ⟨d,a.defers,rfl,hd,D.defs⟩ (Au.refl Hf) trivial
def left (q:List Item):Nat:=q.countP fun x=>x.e.isNone
theorem YG (hΓ:Γ.AI ρ) (hc:BC P ρ call) (Z:IG ops before=true) {Q:Exit->Act->World->Prop} (L:Dr ρ nt μ0 h0 w0 Q (FH res)):
  ∀(n:Nat) (q:List Item) {id:Nat} {f:Fr} {hs:List Ak} {v:Array Bool} {μ:Aq} {tm:Tr Aa} {h:Ak} {a:Act} {w:World},left q=n->
   GZ P Γ ρ call pl nt ops (waits before) all res μ0 h0 w0 q id f hs v μ tm h a w->wpAny P .any ops Q n v a w:=by
 intro n
 induction n with
 |zero=>
  intro q
  induction q with
  |nil=>
   intro id f hs v μ tm h a w _ D
   have I:some (Cc.go f)=some res:=D.run
   simp only [oI]at I
   refine ⟨?_,?_⟩
   ·apply List.eq_nil_iff_forall_not_mem.2
    intro j H
    obtain ⟨N,o,Y,_⟩:=mem_ready.1 H
    obtain ⟨x,A,_⟩:=(D.lst j (Array.getElem?_eq_some_iff.1 Y).1).1 N
    cases A
   ·have hg:=D.F4.trans (Au.sub D.F4.rel D.next.symm D.fx.symm D.part)
    rw [<-I]at L
    refine L μ a w .normal ⟨fun t=>?_,D.size,hg.rel,D.defs⟩ hg rfl
    have:=D.tr t
    rw [D.tmps t]at this
    exact this
  |cons x r ih=>
   intro id f hs v μ tm h a w hl D
   cases A:x.e with
   |none=>simp [left,A]at hl
   |some u=>
    obtain ⟨f',_,C⟩:=D.skip A
    exact ih (by simpa [left,A]using hl) C
 |succ n ihn=>
  intro q
  induction q with
  |nil=>intro id f hs v μ tm h a w hl _;simp [left]at hl
  |cons x r ih=>
   intro id f hs v μ tm h a w hl D
   cases A:x.e with
   |some u=>
    obtain ⟨f',_,C⟩:=D.skip A
    exact ih (by simpa [left,A]using hl) C
   |none=>
    have aa:=D.lt (x:=x) (by simp)
    obtain ⟨o,Y,_⟩:=D.src x (by simp)
    have V:=K7 (i:=x.i) (r:=r.map (·.i)) D.lin
    have R:x.i∈Region.ready .any ops v:=by
     refine M0 Y ((D.lst x.i aa).2 ⟨x,by simp,rfl,A⟩) fun e he=>?_
     obtain ⟨N,M⟩:=V.1 e he
     cases hle:v.getD e true with
     |false=>
      exfalso
      obtain ⟨z,O,e1,_⟩:=(D.lst e (by omega)).1 hle
      simp only [List.mem_cons]at O
      rcases O with rfl|O
      ·omega
      ·exact M (e1▸List.mem_map_of_mem O)
     |true=>
      have:e<v.size:=by rw [D.lsize];omega
      simp [this]at hle⊢
      exact hle
    refine ⟨fun X=>?_,fun j H=>?_⟩
    ·rw [X]at R;cases R
    ·obtain ⟨N,oj,U,_⟩:=mem_ready.1 H
     obtain ⟨y,B,rfl,J⟩:=(D.lst j (Array.getElem?_eq_some_iff.1 U).1).1 N
     cases hm:BN y.s.op with
     |false=>
      obtain ⟨pre,post,hq⟩:=List.append_of_mem B
      rw [hq]at D hl
      refine D.Aez hΓ Z J hm H fun u μ' ac h' a' w' C=>ihn _ ?_ C
      simp only [left,List.countP_append,List.countP_cons,J,Option.isNone_none,if_true]at hl⊢
      simp only [Option.isNone_some,Bool.false_eq_true,if_false]
      omega
     |true=>
      have ad:y=x:=by
       simp only [List.mem_cons]at B
       rcases B with B|B
       ·exact B
       ·exfalso
        have M:=((EW (x:=x.pair) (r:=r.map Item.pair) D.ok).apart y.pair (List.mem_map_of_mem B)).chg hm
        have h3:=D.apart Z (x:=x) (by simp) A (Array.getElem?_eq_some_iff.1 U).1 (HP H)
        simp only [Item.pair]at M
        rw [M]at h3
        cases h3
      subst ad
      refine D.change hc Z J hm H L fun f' μ' ac h' a' w' C=>ihn _ ?_ C
      simpa [left,A]using hl
theorem WI:∀l:List Step,BT l=l.length
 |[]=>rfl
 |_::r=>by show BT r+1=_;rw [WI r];rfl
theorem TK:∀{l:List Item},(∀x∈l,x.e=none)->Clo W l
 |[],_=>trivial
 |x::r,h=>⟨fun _ z j q=>absurd (h z (by simp [j])) q,TK fun z j=>h z (by simp [j])⟩
theorem Pu:∀{l:List Item} {id:Nat} {g:Nat->Option Block} {b:Nat},(∀x∈l,x.e=none)->E2 l id g b=g b
 |[],_,_,_,_=>rfl
 |x::r,id,g,b,h=>by
  simp only [E2,h x (by simp)]
  exact Pu fun z j=>h z (by simp [j])
theorem VC (hΓ:Γ.AI ρ) (hc:BC P ρ call) (ab:P.follows .mixedOrders=true) {H:List Step} (v:Ny P pl nt ops=some H) {f:Fr} {r:Cc} (hr:Lu Γ call H H f.h.next (Hy (BT H) f) []=some r)
  (F:CM ρ μ nt f a w) {Q:Exit->Act->World->Prop} (L:Dr ρ nt μ f.h w Q (FH r)) {an:Nat}:(Code.region an ops true).wp P Q a w:=by
 unfold Ny at v
 simp only at v
 split at v
 ·cases v
 ·rename_i O _
  split at v
  ·rename_i I N
   split at v
   ·rename_i M
    simp only [oI]at v
    subst v
    generalize hord:QT (Region.before ops) ops.size ((List.range ops.size).filter fun i=>(O[i]?.map BN).getD false) []=order at N M
    generalize hbk:(fun i=>AcW (Region.before ops) ((List.range ops.size).filter fun i=>(O[i]?.map BN).getD false) order i)=bk at N
    have ai:=Dm N
    unfold AcJ at M
    simp only [aT]at M
    obtain ⟨⟨J,aa⟩,aj,aC,ac,ag,af⟩:=M
    have J:=An.1 J
    have aa:=An.1 aa
    refine wp_region_any ab ?_
    have hq:∀(l:List Nat) (m:List Step),l.length=m.length->((l.zip m).map fun x=>(⟨x.1,x.2,none⟩:Item)).map Item.pair=l.zip m/\((l.zip m).map fun x=>(⟨x.1,x.2,none⟩:Item)).map (·.s)=m/\((l.zip m).map fun x=>(⟨x.1,x.2,none⟩:Item)).map (·.i)=l:=fun l m h=>by
     refine ⟨?_,?_,?_⟩
     ·rw [List.map_map];exact List.map_id'' (fun _=>rfl) _
     ·rw [List.map_map];exact List.map_snd_zip (by omega)
     ·rw [List.map_map];exact List.map_fst_zip (by omega)
    obtain ⟨q1,q2,V⟩:=hq order I J
    generalize hqq:((order.zip I).map fun x=>(⟨x.1,x.2,none⟩:Item))=q at q1 q2 V
    have A:∀x∈q,x.e=none:=fun x C=>by
     rw [<-hqq]at C
     obtain ⟨z,_,rfl⟩:=List.mem_map.1 C
     rfl
    have U:q.length=ops.size:=by
     have:=cL V
     rw [List.length_map]at this
     omega
    have Z:left q=ops.size:=by
     rw [<-U]
     unfold left
     rw [List.countP_eq_length]
     intro x C
     rw [A x C];rfl
    have X:∀i d,(Array.replicate ops.size false).getD i d=true->d=true/\ops.size<=i:=fun i d h=>by
     rcases Nat.lt_or_ge i ops.size with h'|h'
     ·simp [h']at h
     ·simp [Array.getElem?_eq_none,h']at h
      exact ⟨h,h'⟩
    refine YG (all:=I) (pl:=pl) hΓ hc ag (L.grow (Au.drew F.heap)) ops.size q (id:=f.h.next) (f:=Hy (BT I) f) (hs:=[]) (μ:=μ) (tm:=f.tm) (h:=(Hy (BT I) f).h) Z ?_
    have ah:(Hy (BT I) f).h.next=f.h.next+I.length:=by
     show f.h.next+BT I=_
     rw [WI]
    refine ⟨by rw [q1];exact af,fun x C=>?_,fun x C=>?_,TK A,fun x C Y=>absurd (A x C) Y,by rw [q2];exact hr,Ir A,fun t=>(DB fun z hz Y=>absurd (A z hz) Y).symm,F.tmps,F.size,fun b=>(Pu A).symm,rfl,Au.reserve F.heap.drew _,Nat.le_refl _,?_,fun k R=>?_,fun k x R Y=>?_,F.defs,by simp,fun i hi=>?_,fun j hj=>?_,by rw [V];exact ac,rfl⟩
    ·have ao:x.pair∈order.zip I:=by rw [<-q1];exact List.mem_map_of_mem C
     obtain ⟨k,R⟩:=List.mem_iff_getElem?.1 ao
     rw [List.getElem?_zip_eq_some]at R
     obtain ⟨k1,k2⟩:=R
     have k3:(I.map some)[k]?=some (some x.s):=by rw [List.getElem?_map,k2];rfl
     rw [<-ai,List.getElem?_map,k1]at k3
     simp only [Option.map_some,oI]at k3
     obtain ⟨o,ho,k4⟩:=Option.bind_eq_some_iff.1 k3
     exact ⟨o,ho,Ft k4⟩
    ·rw [<-q2];exact List.mem_map_of_mem C
    ·rw [ah];omega
    ·show f.h.get _=none
     cases hb:f.h.get (f.h.next+k)with
     |none=>rfl
     |some B=>
      have:=F.heap.Fy hb
      omega
    ·exact F.heap.fresh _ (Nat.le_add_right _ _)
    ·constructor
     ·intro _
      have h1:=List.all_eq_true.1 aj i (List.mem_range.2 hi)
      have h2:=any_beq.1 h1
      rw [<-V]at h2
      obtain ⟨x,C,e⟩:=List.mem_map.1 h2
      exact ⟨x,C,e,A x C⟩
     ·intro _
      simp [hi]
    ·exact absurd (X j false hj).1 (by simp)
   ·cases v
  ·cases v
end
end
section
theorem Tr.Acg {α:Type} (g:α->α) (v:Option α) (l r:Tr α):Tr.map g (Tr.node v l r)=.node (v.map g) (Tr.map g l) (Tr.map g r):=rfl
theorem Tr.Acf {α:Type} (g:α->α) (n:Nat) (v:Option α) (t:Tr α):Tr.map g (Tr.over n v t)=.over n (v.map g) (Tr.map g t):=rfl
theorem Tr.get_map {α:Type} (g:α->α):∀(t:Tr α) (n:Nat),(Tr.map g t).get n=(t.get n).map g
 |.nil,n=>rfl
 |.node v l r,n=>by
  rw [Tr.Acg,Tr.DP,Tr.DP,Tr.get_map g l,Tr.get_map g r]
  cases Nat.beq n 0 with
  |true=>rfl
  |false=>cases Nat.beq (n%2) 1<;>rfl
 |.over m v t,n=>by
  rw [Tr.Acf,Tr.EZ,Tr.EZ,Tr.get_map g t]
  cases Nat.beq n m<;>rfl
section
variable {ρ:Env} {μ:Aq} {w:World} {h:Ak} {b off len es j:Nat}
theorem Xf {r δ m:Nat} {c:Array Value} {e:TypeId} (F:Frz ρ μ b off len es j r δ m c e):∀{l:List Aa} {us:List Value},A9 ρ μ l us->A9 ρ μ (LB b off len es j l) us
 |[],us,h=>h
 |v::l,us,h=>by
  rw [Is]
  simp only [A9]at h⊢
  obtain ⟨u,rest,rfl,q,x⟩:=h
  exact ⟨u,rest,rfl,(HD F q).1,Xf F x⟩
theorem Ac5 {r δ m:Nat} {c:Array Value} {e:TypeId} (F:Frz ρ μ b off len es j r δ m c e) {v:Aa} {u:Value} (q:Ah ρ μ v u):Ah ρ μ (Aii b off len es j v) u:=by
 unfold Aii
 split
 ·obtain ⟨x,e,z⟩:=q.agg
  subst e
  simp only [Ah]
  exact ⟨x,rfl,R6 F z⟩
 ·obtain ⟨x,e,z⟩:=q.tuple
  subst e
  simp only [Ah]
  exact ⟨x,rfl,Xf F z⟩
 ·exact (HD F q).1
theorem Ac4 {r δ m:Nat} {c:Array Value} {e:TypeId} (F:Frz ρ μ b off len es j r δ m c e) {B:Block} {o:Option Obj} {x:Nat×Nat} (hB:C7 ρ μ B o x):C7 ρ μ (Al1 b off len es j B) o x:=by
 cases B with
 |cells vs=>
  obtain ⟨d,t,A,I,hc⟩:=hB
  refine ⟨d,t,A,I,fun i a ha=>?_⟩
  rw [MY]at ha
  obtain ⟨L,q,rfl⟩:=mS ha
  obtain ⟨v,M,C,H⟩:=hc i L q
  obtain ⟨z,J⟩:=HD F H
  exact ⟨v,M,by rw [J];exact C,z⟩
 |typed t vs=>
  obtain ⟨d,A,⟨N,hs⟩,I,hc⟩:=hB
  have hl:(LB b off len es j vs).length=vs.length:=by
   have:∀l:List Aa,(LB b off len es j l).length=l.length:=fun l=>by
    induction l with
    |nil=>rfl
    |cons v l ih=>rw [Is];simp [ih]
   exact this vs
  refine ⟨d,A,⟨N,by rw [hl];exact hs⟩,I,fun i a ha=>?_⟩
  rw [MY]at ha
  obtain ⟨L,q,rfl⟩:=mS ha
  obtain ⟨v,M,C,H⟩:=hc i L q
  obtain ⟨z,J⟩:=HD F H
  exact ⟨v,M,by rw [J];exact C,z⟩
 |map es clock=>exact hB
 |bytes n e=>exact hB
 |sbytes n e=>exact hB
 |list i es=>exact hB
 |smap i=>exact hB
theorem Ac3 {i:Nat} {t:ST} {r m:Nat} {c:Array Value} {e:TypeId} (hs:μ b=some (r,0,m)) (I:μ.AX r=some (.cells c e (0,0))) (B:BI μ.AX es c 0 (ρ.lst i)) (C:t.den ρ=((ρ.lst i).length:Int)) {v:Aa} {u:Value} (q:Ah ρ μ v u):Ah ρ μ (R3 b i es t v) u/\(R3 b i es t v).single=v.single:=by
 unfold R3
 split
 ·rename_i H z n
  cases hc:Nat.beq b H&&(Nat.beq es z&&n.eq t)with
  |false=>exact ⟨q,rfl⟩
  |true=>
   rw [aT,aT,An,An]at hc
   obtain ⟨rfl,rfl,j⟩:=hc
   have j:=ST.Ba j
   subst j
   obtain ⟨L,N,k,x,A,M,O,P⟩:=q.vec
   rw [hs]at x
   simp only [oI,Prod.mk.injEq,true_and]at x
   obtain ⟨rfl,rfl⟩:=x
   have J:(ρ.lst i).length=k:=by omega
   refine ⟨?_,rfl⟩
   simp only [cond_true,Ah,GU]
   exact ⟨⟨BO m,by omega,.inr ⟨r,0,c,e,by rw [J];exact A,⟨_,I⟩,B⟩⟩,C,fun e=>by cases e⟩
 ·exact ⟨q,rfl⟩
theorem Gt (b i es:Nat) (t:ST) (v:Aa) (r:List Aa):HC b i es t (v::r)=R3 b i es t v::HC b i es t r:=rfl
theorem KK {i:Nat} {t:ST}:∀{l:List Aa} {k:Nat},(HC b i es t l)[k]?=(l[k]?).map (R3 b i es t)
 |[],k=>by show ([]:List Aa)[k]?=_;simp
 |v::r,k=>by
  rw [Gt]
  cases k with
  |zero=>simp
  |succ k=>simpa using KK (l:=r) (k:=k)
theorem Tw {nt:Nat} {f:Fr} {a:Act} (F:CM ρ μ nt f a w) {B0:Block} {r:Nat} {X:Nat×Nat} (hb:f.h.get b=some B0) (hm:μ b=some (r,X)) (Q:Aa->Aa) (J:Block->Block)
  (hA:∀v u,Ah ρ (μ.Ei r w.heap[r]?) v u->Ah ρ (μ.Ei r w.heap[r]?) (Q v) u) (hB:∀B o x,C7 ρ (μ.Ei r w.heap[r]?) B o x->C7 ρ (μ.Ei r w.heap[r]?) (J B) o x):
  ∃μ',CM ρ μ' nt ⟨Tr.map Q f.tm,⟨Tr.map J (Tr.set f.h.DG b none),f.h.next,f.h.fx⟩,f.df⟩ a w/\Au ρ μ f.h w μ' ⟨Tr.map J (Tr.set f.h.DG b none),f.h.next,f.h.fx⟩ w:=by
 have H:=F.heap
 have O:AN μ f.h r:=⟨b,_,X,hb,hm⟩
 have V:∀x,μ.AX r=some x->w.heap[r]?=some x:=fun x R=>absurd O (H.AQ.AX r x R).2
 have L:μ.le (μ.Ei r w.heap[r]?):=Aq.JG V
 have C:∀d B,(⟨Tr.map J (Tr.set f.h.DG b none),f.h.next,f.h.fx⟩:Ak).get d=some B->∃A,f.h.get d=some A/\B=J A/\d≠b:=fun d B hd=>by
  have hd:(Tr.map J (Tr.set f.h.DG b none)).get d=some B:=hd
  rw [Tr.get_map,Tr.Bf]at hd
  obtain ⟨A,I,N⟩:=mS hd
  by_cases e:d=b
  ·rw [if_pos e]at I;cases I
  ·rw [if_neg e]at I;exact ⟨A,I,N.symm,e⟩
 have z:∀s,AN (μ.Ei r w.heap[r]?) ⟨Tr.map J (Tr.set f.h.DG b none),f.h.next,f.h.fx⟩ s->AN μ f.h s/\s≠r:=fun s ⟨d,B,x,I,N⟩=>by
  obtain ⟨A,M,k2,Z⟩:=C d B I
  exact ⟨⟨d,A,x,M,N⟩,fun e=>Z (H.inj _ _ _ _ _ _ _ M hb N (e▸hm))⟩
 have hH:AJ ρ (μ.Ei r w.heap[r]?) ⟨Tr.map J (Tr.set f.h.DG b none),f.h.next,f.h.fx⟩ w:=by
  refine ⟨fun d hd=>H.fresh d hd,fun d B hd=>?_,fun d d' B A s x x' I N m1 m2=>?_,⟨fun g o j=>?_,fun g o j=>?_,H.AQ.facts⟩⟩
  ·obtain ⟨A,M,rfl,Z⟩:=C d B hd
   obtain ⟨s,x,e1,e2⟩:=H.blk d A M
   exact ⟨s,x,e1,hB _ _ _ (e2.mono L)⟩
  ·obtain ⟨B1,M,_,_⟩:=C _ _ I
   obtain ⟨B2,k2,_,_⟩:=C _ _ N
   exact H.inj _ _ _ _ _ _ _ M k2 m1 m2
  ·obtain ⟨P,U⟩:=H.AQ.AQ g o j
   exact ⟨P,fun e=>U (z g e).1⟩
  ·have j:(if g=r then w.heap[r]? else μ.AX g)=some o:=j
   by_cases e:g=r
   ·subst e
    rw [if_pos rfl]at j
    exact ⟨j,fun q=>(z _ q).2 rfl⟩
   ·rw [if_neg e]at j
    obtain ⟨P,U⟩:=H.AQ.AX g o j
    exact ⟨P,fun q=>U (z g q).1⟩
 refine ⟨μ.Ei r w.heap[r]?,⟨fun t=>?_,F.size,hH,F.defs.mono L⟩,⟨L,hH,Nat.le_refl _,fun s _ hs=>⟨rfl,fun q=>hs (z s q).1⟩,rfl,rfl,Nat.le_refl _,fun _ _=>rfl,fun g o j=>?_,rfl⟩⟩
 ·show Ah _ _ (Eu ((Tr.map Q f.tm).get t)) _
  rw [Tr.get_map]
  have Y:=(F.tmps t).mono L
  cases R:f.tm.get t with
  |none=>trivial
  |some v=>
   rw [R]at Y
   exact hA _ _ Y
 ·have j:(if g=r then w.heap[r]? else μ.AX g)=some o:=j
  by_cases e:g=r
  ·subst e;exact .inr (.inl O)
  ·rw [if_neg e]at j;exact .inl j
theorem R4 {Γ:Ao} (hΓ:Γ.AI ρ) {nt:Nat} {f:Fr} {a:Act} (F:CM ρ μ nt f a w) (z:Nat×Nat×Nat×Nat×Nat):∃R,CM ρ R nt (R5 Γ z f) a w/\Au ρ μ f.h w R (R5 Γ z f).h w:=by
 have same:∃R,CM ρ R nt f a w/\Au ρ μ f.h w R f.h w:=⟨μ,F,Au.refl F.heap⟩
 have H:=F.heap
 unfold R5
 split
 case h_3=>exact same
 ·rename_i vs hb
  cases hk:Pp Γ z.2.1 z.2.2.1 z.2.2.2.1 z.2.2.2.2 vs with
  |false=>exact same
  |true=>
  simp only [cond_true]
  obtain ⟨b,off,len,es,j⟩:=z
  simp only at hb hk⊢
  obtain ⟨cs,ad,ac,ae,hd⟩:=MX hΓ hk
  obtain ⟨r,⟨δ,m⟩,q,c,t,J,ak,hc⟩:=H.blk b _ hb
  have I:AN μ f.h r:=⟨b,_,(δ,m),hb,q⟩
  have N:∀x,μ.AX r=some x->w.heap[r]?=some x:=fun x L=>absurd I (H.AQ.AX r x L).2
  have X:μ.le (μ.Ei r w.heap[r]?):=Aq.JG N
  have af:AO μ.AX c (δ+off) (ρ.lst j).flatten:=Nw hc ad hd
  have Z:Frz ρ (μ.Ei r w.heap[r]?) b off len es j r δ m c t:=by
   refine ⟨q,ac,?_,?_⟩
   ·show (if r=r then w.heap[r]? else μ.AX r)=_
    rw [if_pos rfl];exact J
   ·exact BI.mono X.AX (Bz.2 ⟨ae,af⟩)
  exact Tw F hb q _ _ (fun v u M=>Ac5 Z M) (fun B o x hB=>Ac4 Z hB)
 ·rename_i i es hb
  cases hk:Nat.beq i z.2.2.2.2 with
  |false=>exact same
  |true=>
  simp only [cond_true]
  split
  case h_2=>exact same
  rename_i t ht
  obtain ⟨r,⟨δ,m⟩,q,c,e,J,Y,O,A,C,h4,h5⟩:=H.blk z.1 _ hb
  subst Y
  have I:AN μ f.h r:=⟨z.1,_,(0,m),hb,q⟩
  have N:∀x,μ.AX r=some x->w.heap[r]?=some x:=fun x L=>absurd I (H.AQ.AX r x L).2
  have X:μ.le (μ.Ei r w.heap[r]?):=Aq.JG N
  have hi:(μ.Ei r w.heap[r]?).AX r=some (.cells c e (0,0)):=by
   show (if r=r then w.heap[r]? else μ.AX r)=_
   rw [if_pos rfl];exact J
  have ht:t.den ρ=((ρ.lst i).length:Int):=hΓ.Bs _ (C1 ht)
  have M:∀{v:Aa} {u:Value},Ah ρ (μ.Ei r w.heap[r]?) v u->Ah ρ (μ.Ei r w.heap[r]?) (R3 z.1 i es t v) u/\(R3 z.1 i es t v).single=v.single:=fun {v u} h=>Ac3 (μ:=μ.Ei r w.heap[r]?) (m:=m) q hi (BI.mono X.AX h5) ht h
  have ag:∀{l:List Aa} {us:List Value},Av ρ (μ.Ei r w.heap[r]?) l us->Av ρ (μ.Ei r w.heap[r]?) (HC z.1 i es t l) us:=by
   intro l
   induction l with
   |nil=>intro us h;exact h
   |cons v l ih=>
    intro us h
    rw [Gt]
    simp only [Av]at h⊢
    obtain ⟨u,rest,rfl,⟨O,A⟩,C⟩:=h
    obtain ⟨P,V⟩:=M A
    exact ⟨u,rest,rfl,⟨by rw [V];exact O,P⟩,ih C⟩
  have ah:∀{l:List Aa} {us:List Value},A9 ρ (μ.Ei r w.heap[r]?) l us->A9 ρ (μ.Ei r w.heap[r]?) (HC z.1 i es t l) us:=by
   intro l
   induction l with
   |nil=>intro us h;exact h
   |cons v l ih=>
    intro us h
    rw [Gt]
    simp only [A9]at h⊢
    obtain ⟨u,rest,rfl,A,C⟩:=h
    exact ⟨u,rest,rfl,(M A).1,ih C⟩
  refine Tw F hb q _ _ (fun v u U=>?_) (fun B o x hB=>?_)
  ·unfold AeZ
   split
   ·obtain ⟨x,e,L⟩:=U.agg
    subst e
    simp only [Ah]
    exact ⟨x,rfl,ag L⟩
   ·obtain ⟨x,e,L⟩:=U.tuple
    subst e
    simp only [Ah]
    exact ⟨x,rfl,ah L⟩
   ·exact (M U).1
  ·cases B with
   |cells vs=>
    obtain ⟨d,t',J,q,hc⟩:=hB
    refine ⟨d,t',J,q,fun k a ha=>?_⟩
    rw [KK]at ha
    obtain ⟨a',Q,rfl⟩:=mS ha
    obtain ⟨v,O,A,C⟩:=hc k a' Q
    obtain ⟨P,V⟩:=M C
    exact ⟨v,O,by rw [V];exact A,P⟩
   |typed t' vs=>
    obtain ⟨d,J,⟨Y,hs⟩,q,hc⟩:=hB
    have hl:(HC z.1 i es t vs).length=vs.length:=by
     have:∀l:List Aa,(HC z.1 i es t l).length=l.length:=fun l=>by
      induction l with
      |nil=>rfl
      |cons v l ih=>rw [Gt];simp [ih]
     exact this vs
    refine ⟨d,J,⟨Y,by rw [hl];exact hs⟩,q,fun k a ha=>?_⟩
    rw [KK]at ha
    obtain ⟨a',Q,rfl⟩:=mS ha
    obtain ⟨v,O,A,C⟩:=hc k a' Q
    obtain ⟨P,V⟩:=M C
    exact ⟨v,O,by rw [V];exact A,P⟩
   |map es clock=>exact hB
   |bytes n e=>exact hB
   |sbytes n e=>exact hB
   |list i es=>exact hB
   |smap i=>exact hB
theorem JQ {Γ:Ao} (hΓ:Γ.AI ρ) {nt:Nat} {a:Act}:∀(l:List (Nat×Nat×Nat×Nat×Nat)) {μ:Aq} {f:Fr},CM ρ μ nt f a w->∃j,CM ρ j nt (Vz Γ l f) a w/\Au ρ μ f.h w j (Vz Γ l f).h w
 |[],μ,f,F=>⟨μ,F,Au.refl F.heap⟩
 |z::l,μ,f,F=>by
  obtain ⟨A,q,g1⟩:=R4 hΓ F z
  obtain ⟨v,x,g2⟩:=JQ hΓ l q
  exact ⟨v,x,g1.trans g2⟩
theorem QE {Γ:Ao} (hΓ:Γ.AI ρ) {nt:Nat} {h:Ak} {Q:Exit->Act->World->Prop} {r:Bc×Fr} (L:Dr ρ nt μ h w Q (QF Γ r)):Dr ρ nt μ h w Q r:=by
 unfold QF at L
 split at L
 ·rename_i z l x B
  intro C v w' e F g j
  obtain ⟨A,q,g2⟩:=JQ hΓ (z::l) F
  rw [x]at j
  exact L A v w' e q (g.trans g2) j
 ·exact L
end
end
section
def empty (d:Nat) (fx:Ao:={}):Ak:=⟨Tr.full Block d,0,fx⟩
theorem Iu (d:Nat) (fx:Ao) (b:Nat):(empty d fx).get b=none:=Tr.JL d b
theorem Nt {ρ:Env} {T:Nat->Option Obj} (d:Nat) {fx:Ao} (w:World) (q:∀g o,ρ.AQ g=some o->w.heap[g]?=some o) (j:∀g o,T g=some o->w.heap[g]?=some o) (hf:fx.AI ρ):AJ ρ ⟨fun _=>none,T⟩ (empty d fx) w where
 AQ:=⟨fun g o h=>⟨q g o h,by rintro ⟨_,_,_,_,e⟩;cases e⟩,fun g o h=>⟨j g o h,by rintro ⟨_,_,_,_,e⟩;cases e⟩,hf⟩
 fresh:=fun _ _=>rfl
 blk:=fun b B hb=>by rw [Iu]at hb;cases hb
 inj:=fun b _ B _ _ _ _ hb=>by rw [Iu]at hb;cases hb
theorem YF {ρ:Env} (d:Nat) (w:World) (j:∀g o,ρ.AQ g=some o->w.heap[g]?=some o):AJ ρ Aq.none (empty d) w:=
 Nt d w j (fun _ _ h=>by cases h) (Ao.AI.none ρ)
theorem Aei {σ:List Nat} {i b:Nat} (h:Cb σ i=some b):i<σ.length:=by
 rw [Fw]at h
 exact (List.getElem?_eq_some_iff.1 h).1
theorem Tf {n:Nat}:∀{l:List Nat},Ace n l=true↔n∈l
 |[]=>by
  constructor
  ·intro h;cases h
  ·intro h;cases h
 |m::r=>by
  have e:Ace n (m::r)=(Nat.beq m n||Ace n r):=rfl
  rw [e,Bool.or_eq_true,An,Tf,List.mem_cons]
  constructor
  ·rintro (h|h)
   ·exact .inl h.symm
   ·exact .inr h
  ·rintro (h|h)
   ·exact .inl h.symm
   ·exact .inr h
theorem EX:∀{l:List Nat},IV l=true->l.Nodup
 |[],_=>List.nodup_nil
 |n::r,h=>by
  have e:IV (n::r)=(!(Ace n r)&&IV r):=rfl
  rw [e,aT]at h
  refine List.nodup_cons.2 ⟨fun j=>?_,EX h.2⟩
  rw [Tf.2 j]at h
  cases h.1
theorem EO:∀l:List Block,GG l=l.length
 |[]=>rfl
 |_::r=>by show GG r+1=_;rw [EO r];rfl
theorem Gn:∀l:List (Option Block),Ta l=l.length
 |[]=>rfl
 |_::r=>by show Ta r+1=_;rw [Gn r];rfl
theorem Tc {σ:List Nat} (A:σ.Nodup) {i j b:Nat} (v:Cb σ i=some b) (q:Cb σ j=some b):i=j:=by
 rw [Fw]at v q
 obtain ⟨C,x⟩:=List.getElem?_eq_some_iff.1 v
 obtain ⟨B,z⟩:=List.getElem?_eq_some_iff.1 q
 exact (List.getElem_inj A).1 (x.trans z.symm)
theorem FV:∀(l:List (Option Block)) (k n i:Nat),(Ll l k n)[i]?=if k+i<l.length then some (n+i)else none
 |[],k,n,i=>by rw [if_neg (by simp)];show ([]:List Nat)[i]?=none;simp
 |_::r,0,n,i=>by
  show (n::Ll r 0 (n+1))[i]?=_
  cases i with
  |zero=>simp
  |succ i=>
   rw [List.getElem?_cons_succ,FV r 0 (n+1) i]
   simp only [lC,Nat.zero_add,Nat.add_lt_add_iff_right]
   rw [show n+1+i=n+(i+1) by omega]
 |_::r,k+1,n,i=>by
  show (Ll r k n)[i]?=_
  rw [FV r k n i,lC]
  by_cases hc:k+i<r.length
  ·rw [if_pos hc,if_pos (by omega)]
  ·rw [if_neg hc,if_neg (by omega)]
theorem BY:∀(l:List Block) (h:Ak),(AY l h).next=h.next+l.length/\(AY l h).fx=h.fx/\
  ∀b,(AY l h).get b=if h.next<=b/\b<h.next+l.length then l[b-h.next]? else h.get b
 |[],h=>⟨rfl,rfl,fun b=>by rw [if_neg (by simp only [lN];omega)];rfl⟩
 |B::r,h=>by
  have e:AY (B::r) h=AY r (h.add B):=rfl
  obtain ⟨j,hf,q⟩:=BY r (h.add B)
  rw [e]
  refine ⟨by rw [j,Ak.JC,lC];omega,hf,fun b=>?_⟩
  rw [q b,Ak.JC,lC,Ak.JM]
  by_cases hb:b=h.next
  ·subst hb
   rw [if_neg (by omega),if_pos rfl,if_pos (by omega)]
   simp
  ·by_cases hc:h.next+1<=b/\b<h.next+1+r.length
   ·rw [if_pos hc,if_pos (by omega)]
    have:b-h.next=(b-(h.next+1))+1:=by omega
    rw [this,List.getElem?_cons_succ]
   ·rw [if_neg hc,if_neg hb,if_neg (by omega)]
theorem C5:∀(l:List (Option Block)) (h:Ak),(Cv l h).next=h.next+l.length/\(Cv l h).fx=h.fx/\
  ∀b,(Cv l h).get b=if h.next<=b/\b<h.next+l.length then (l[b-h.next]?).join else h.get b
 |[],h=>⟨rfl,rfl,fun b=>by rw [if_neg (by simp only [lN];omega)];rfl⟩
 |B::r,h=>by
  have e:Cv (B::r) h=Cv r ⟨Tr.set h.DG h.next B,h.next+1,h.fx⟩:=rfl
  obtain ⟨j,hf,v⟩:=C5 r ⟨Tr.set h.DG h.next B,h.next+1,h.fx⟩
  rw [e]
  refine ⟨by rw [j,lC];show h.next+1+_=_;omega,hf,fun b=>?_⟩
  have q:(⟨Tr.set h.DG h.next B,h.next+1,h.fx⟩:Ak).get b=if b=h.next then B else h.get b:=Tr.Bf _ _ _ _
  rw [v b,lC,q]
  show (if h.next+1<=b/\b<h.next+1+r.length then (r[b-(h.next+1)]?).join else _)=_
  by_cases hb:b=h.next
  ·subst hb
   rw [if_neg (by omega),if_pos rfl,if_pos (by omega)]
   simp
  ·by_cases hc:h.next+1<=b/\b<h.next+1+r.length
   ·rw [if_pos hc,if_pos (by omega)]
    have:b-h.next=(b-(h.next+1))+1:=by omega
    rw [this,List.getElem?_cons_succ]
   ·rw [if_neg hc,if_neg hb,if_neg (by omega)]
theorem Ct {d:Nat} {fx:Ao} {l:List Block} {b:Nat}:(AY l (empty d fx)).get b=l[b]?:=by
 obtain ⟨_,_,h⟩:=BY l (empty d fx)
 rw [h b]
 have e:(empty d fx).next=0:=rfl
 rw [e]
 by_cases hb:b<l.length
 ·rw [if_pos (by omega)];rfl
 ·rw [if_neg (by omega),Iu,List.getElem?_eq_none (by omega)]
theorem Dt {d:Nat} {fx:Ao} {l:List (Option Block)} {b:Nat}:(Cv l (empty d fx)).get b=(l[b]?).join:=by
 obtain ⟨_,_,h⟩:=C5 l (empty d fx)
 rw [h b]
 have e:(empty d fx).next=0:=rfl
 rw [e]
 by_cases hb:b<l.length
 ·rw [if_pos (by omega)];rfl
 ·rw [if_neg (by omega),Iu,List.getElem?_eq_none (by omega)];rfl
theorem BU {d:Nat} {fx:Ao} {l:List Block}:(AY l (empty d fx)).next=l.length:=by
 have h:=(BY l (empty d fx)).1
 rw [h];show 0+_=_;omega
theorem D8 {d:Nat} {fx:Ao} {l:List (Option Block)}:(Cv l (empty d fx)).next=l.length:=by
 have h:=(C5 l (empty d fx)).1
 rw [h];show 0+_=_;omega
section
variable {ρ:Env} {μ μ':Aq} {σ:List Nat}
structure Ren (μ' μ:Aq) (σ:List Nat):Prop where
 spot:∀i b,Cb σ i=some b->μ' i=μ b
 AX:μ'.AX=μ.AX
theorem SM (R:Ren μ' μ σ) {p a:Aa} (h:Ab1 σ p=some a) {u:Value}:(Ah ρ μ a u↔Ah ρ μ' p u)/\a.single=p.single:=by
 have q:=R.spot
 cases p<;>simp only [Ab1,oI,reduceCtorEq]at h
 case ptr b o=>
  obtain ⟨c,hc,e⟩:=Ac h
  simp only [oI]at e
  subst e
  simp only [Ah,q _ _ hc,Aa.single,and_self]
 case slice b o l c=>
  obtain ⟨c,hc,e⟩:=Ac h
  simp only [oI]at e
  subst e
  simp only [Ah,q _ _ hc,Aa.single,and_self]
 case gslice b o l es=>
  obtain ⟨c,hc,e⟩:=Ac h
  simp only [oI]at e
  subst e
  simp only [Ah,q _ _ hc,Aa.single,and_self]
 case map b=>
  obtain ⟨c,hc,e⟩:=Ac h
  simp only [oI]at e
  subst e
  simp only [Ah,q _ _ hc,Aa.single,and_self]
 case vec b es n=>
  obtain ⟨c,hc,e⟩:=Ac h
  simp only [oI]at e
  subst e
  simp only [Ah,q _ _ hc,Aa.single,and_self]
 case vptr b es j o=>
  obtain ⟨c,hc,e⟩:=Ac h
  simp only [oI]at e
  subst e
  simp only [Ah,q _ _ hc,Aa.single,and_self]
 case gbytes b=>
  obtain ⟨c,hc,e⟩:=Ac h
  simp only [oI]at e
  subst e
  simp only [Ah,q _ _ hc,Aa.single,and_self]
 all_goals
  subst h
  simp only [Ah,R.AX,Aa.single,and_self]
theorem Ku (R:Ren μ' μ σ):∀{l r:List Aa} {us:List Value},WM σ l=some r->(A9 ρ μ r us↔A9 ρ μ' l us)
 |[],r,us,h=>by
  have h:some []=some r:=h
  simp only [oI]at h
  subst h
  simp only [A9]
 |v::l,r,us,h=>by
  have h:(AD (Ab1 σ v) fun u=>AD (WM σ l) fun us=>some (u::us))=some r:=h
  obtain ⟨u,q,h⟩:=Ac h
  obtain ⟨x,j,h⟩:=Ac h
  simp only [oI]at h
  subst h
  simp only [A9,(SM R q).1,Ku R j]
theorem CX (R:Ren μ' μ σ) {p a:Aa} (h:J7 σ p=some a) {u:Value}:(Ah ρ μ a u↔Ah ρ μ' p u)/\a.single=p.single:=by
 unfold J7 at h
 split at h
 ·obtain ⟨x,q,h⟩:=Ac h
  obtain ⟨y,j,h⟩:=Ac h
  simp only [oI]at h
  subst h
  simp only [Ah,Ku R q,Ku R j,Aa.single,and_self]
 ·exact SM R h
theorem Yz {a:Aa} {u:Value} (h:Ah ρ μ a u):Ah ρ μ (loose a) u/\(loose a).single=a.single:=by
 cases a<;>simp only [loose,and_true]<;>try exact h
 case lst f i es n=>
  obtain ⟨j,q,_⟩:=h.lst
  exact ⟨by simp only [Ah];exact ⟨j,q,fun e=>by cases e⟩,rfl⟩
theorem Eg {Γ:Ao} (hΓ:Γ.AI ρ) (R:Ren μ' μ σ) {p a:Aa} (h:HM Γ σ p a=true) {u:Value} (B:Ah ρ μ a u):Ah ρ μ' p u/\p.single=a.single:=by
 unfold HM at h
 split at h
 ·rename_i v A
  rw [Bool.or_eq_true,Bool.or_eq_true]at h
  rcases h with (h|h) |h
  ·have h:=Aa.Dk h
   subst h
   obtain ⟨q,x⟩:=CX (ρ:=ρ) R A (u:=u)
   exact ⟨q.1 B,x.symm⟩
  ·have h:=Aa.Dk h
   subst h
   obtain ⟨q,x⟩:=CX (ρ:=ρ) R A (u:=u)
   obtain ⟨J,L⟩:=Yz B
   exact ⟨q.1 J,by rw [<-x,L]⟩
  ·split at h
   ·rename_i j M n
    rw [aT,aT]at h
    obtain ⟨C,z,H⟩:=h
    have ha:a=.nilSlice:=by
     unfold Acw at C
     split at C
     ·rfl
     ·cases C
    subst ha
    have hl:(ρ.lst j).length=0:=by
     unfold AcI at z
     split at z
     ·rename_i e
      have:=hΓ.Bs _ (C1 e)
      have this:(0:Int)=((ρ.lst j).length:Int):=this
      omega
     ·cases z
    have I:ρ.lst j=[]:=List.eq_nil_of_length_eq_zero hl
    have e:u=.slice none 0 0:=by simpa only [Ah]using B
    obtain ⟨q,x⟩:=CX (ρ:=ρ) R A (u:=u)
    refine ⟨q.1 ?_,by rw [<-x];rfl⟩
    rw [ST.Ba H]
    simp only [Ah,GU]
    exact ⟨⟨0,by rw [hl];exact Nat.le_refl _,.inl ⟨I,none,e⟩⟩,by rw [hl];rfl,fun e=>by cases e⟩
   ·cases h
 ·cases h
theorem HL {Γ:Ao} (p a:Aa) (ps as:List Aa):Gx Γ σ (p::ps) (a::as)=(HM Γ σ p a&&Gx Γ σ ps as):=rfl
theorem FI {Γ:Ao}:∀{ps as:List Aa},Gx Γ σ ps as=true->ps.length=as.length
 |[],[],_=>rfl
 |[],_::_,h=>by cases h
 |_::_,[],h=>by cases h
 |p::ps,a::as,h=>by
  rw [HL,aT]at h
  simp [FI h.2]
theorem Jf {Γ:Ao}:∀{ps as:List Aa},Gx Γ σ ps as=true->∀(i:Nat) (p a:Aa),ps[i]?=some p->as[i]?=some a->HM Γ σ p a=true
 |[],[],_,i,p,a,h,_=>by simp at h
 |[],_::_,h,_,_,_,_,_=>by cases h
 |_::_,[],h,_,_,_,_,_=>by cases h
 |p::ps,a::as,h,i,q,b,h1,h2=>by
  rw [HL,aT]at h
  cases i with
  |zero=>
   simp only [List.getElem?_cons_zero,oI]at h1 h2
   subst h1 h2
   exact h.1
  |succ i=>exact Jf h.2 i q b (by simpa using h1) (by simpa using h2)
theorem KM {Γ:Ao} (hΓ:Γ.AI ρ) (R:Ren μ' μ σ):∀{ps as:List Aa} {us:List Value},Gx Γ σ ps as=true->Av ρ μ as us->Av ρ μ' ps us
 |[],[],us,_,h=>by simp only [Av]at h⊢;exact h
 |[],_::_,_,h,_=>by cases h
 |_::_,[],_,h,_=>by cases h
 |p::ps,a::as,us,h,hr=>by
  rw [HL,aT]at h
  simp only [Av]at hr⊢
  obtain ⟨u,rest,e,⟨x,v⟩,z⟩:=hr
  obtain ⟨j,q⟩:=Eg hΓ R h.1 v
  exact ⟨u,rest,e,⟨by rw [q];exact x,j⟩,KM hΓ R h.2 z⟩
theorem KR {Γ:Ao} (hΓ:Γ.AI ρ) (R:Ren μ' μ σ) {p a:Aa} (h:Ns Γ σ p a=true) {u:Value} (j:Ah ρ μ a u):Ah ρ μ' p u:=by
 unfold Ns at h
 split at h
 ·obtain ⟨x,e,q⟩:=j.agg
  subst e
  simp only [Ah]
  exact ⟨x,rfl,KM hΓ R h q⟩
 ·exact (Eg hΓ R h j).1
theorem Gy {Γ:Ao} (hΓ:Γ.AI ρ) (R:Ren μ' μ σ):∀{ps as:List Aa} {us:List Value},KQ Γ σ ps as=true->A9 ρ μ as us->A9 ρ μ' ps us
 |[],[],us,_,h=>by simp only [A9]at h⊢;exact h
 |[],_::_,_,h,_=>by cases h
 |_::_,[],_,h,_=>by cases h
 |p::ps,a::as,us,h,hr=>by
  have e:KQ Γ σ (p::ps) (a::as)=(Ns Γ σ p a&&KQ Γ σ ps as):=rfl
  rw [e,aT]at h
  simp only [A9]at hr⊢
  obtain ⟨u,rest,e,q,j⟩:=hr
  exact ⟨u,rest,e,KR hΓ R h.1 q,Gy hΓ R h.2 j⟩
theorem MI {i:Nat} {v:List (Aa×List Aa)}:∀{l:List (Nat×List (Aa×List Aa))},Va i l=some v->(i,v)∈l
 |[],h=>by cases h
 |e::r,h=>by
  have h:(bif Nat.beq e.1 i then some e.2 else Va i r)=some v:=h
  cases c:Nat.beq e.1 i with
  |true=>
   rw [c]at h
   simp only [cond_true,oI]at h
   rw [<-h,<-Nat.eq_of_beq_eq_true c]
   exact List.mem_cons_self
  |false=>rw [c]at h;exact List.mem_cons_of_mem _ (MI h)
theorem T9:∀{z:List Entry} {l:List (Aa×List Aa)} {ms:List MapEntry} {d:List (List Nat×List PV)},Ain z l=true->Adq ρ l d->BP ρ μ z ms->Jn μ.AX d ms
 |[],[],ms,d,_,hd,h=>by
  have hd:d=[]:=hd
  subst hd
  exact h
 |[],_::_,_,_,h,_,_=>by cases h
 |_::_,[],_,_,h,_,_=>by cases h
 |e::z,x::l,ms,d,h,hd,hr=>by
  have h:(e.key.eq x.1&&((match e.val with|.agg cs=>RT cs&&Aa.Px (CL cs) x.2|_=>false)&&Ain z l))=true:=h
  rw [aT,aT]at h
  obtain ⟨N,j,J⟩:=h
  obtain ⟨s,ps,rest,rfl,C,d2,I⟩:=hd
  obtain ⟨m,q,rfl,⟨_,m1,m2,_⟩,m4⟩:=hr
  rw [<-Aa.Dk N]at C
  obtain ⟨b,H,L⟩:=BJ C m1
  split at j
  ·rename_i cs B
   rw [aT]at j
   rw [B]at m2
   obtain ⟨a,O,ha⟩:=m2.agg
   have A:a.size=ps.length:=by
    have P:=ha.length
    have R:=d2.length
    have Q:(CL cs).length=x.2.length:=by rw [Aa.Db j.2]
    rw [FG]at Q
    simp at P
    omega
   refine ⟨m,q,rfl,⟨b,H,L⟩,⟨a,O,A,?_⟩,T9 J I m4⟩
   exact Av.freeze (by rw [Aa.Db j.2];exact d2) ha fun i v M=>by simpa using M
  ·cases j
theorem M5 {i j:Nat}:∀{l:List (Nat×List AK)},(∀x∈l,Bx ρ x.2 (ρ.lst x.1))->Ab8 i j l=true->∃n,ρ.lst i=(ρ.lst j).take n
 |[],_,h=>by cases h
 |x::r,hl,h=>by
  have h:((Nat.beq x.1 i&&(match x.2 with|[.take k _]=>Nat.beq k j|_=>false)) ||Ab8 i j r)=true:=h
  rw [Bool.or_eq_true]at h
  rcases h with h|h
  ·rw [aT,An]at h
   obtain ⟨I,q⟩:=h
   have hd:=hl x List.mem_cons_self
   split at q
   ·rename_i k t e
    have q:=An.1 q
    rw [e,I,q]at hd
    obtain ⟨A,B,z,⟨_,_,C⟩,v⟩:=hd
    have v:B=[]:=v
    subst v
    rw [List.append_nil]at z
    exact ⟨_,z.trans C⟩
   ·cases q
  ·exact M5 (fun y H=>hl y (List.mem_cons_of_mem _ H)) h
theorem Lt {Γ:Ao} (hΓ:Γ.AI ρ) (R:Ren μ' μ σ):∀{ps as:List Entry} {ms:List MapEntry},RG Γ σ ps as=true->BP ρ μ as ms->BP ρ μ' ps ms
 |[],[],ms,_,h=>h
 |[],_::_,ms,h,_=>by cases h
 |_::_,[],ms,h,_=>by cases h
 |p::ps,a::as,ms,h,he=>by
  have h:(HM Γ σ p.key a.key&&(HM Γ σ p.val a.val&&(Nat.beq p.born a.born&&RG Γ σ ps as)))=true:=h
  rw [aT,aT,aT,An]at h
  obtain ⟨m,rest,rfl,⟨j,q,v,A⟩,x⟩:=he
  obtain ⟨z,B⟩:=Eg hΓ R h.1 q
  exact ⟨m,rest,rfl,⟨by rw [B];exact j,z,(Eg hΓ R h.2.1 v).1,by rw [A,h.2.2.1]⟩,Lt hΓ R h.2.2.2 x⟩
theorem Py {Γ:Ao} (hΓ:Γ.AI ρ) (R:Ren μ' μ σ) {B A:Block} (h:Nr Γ σ B A=true) {o:Option Obj} {δ:Nat×Nat} (q:C7 ρ μ A o δ):C7 ρ μ' B o δ:=by
 unfold Nr at h
 split at h
 ·rename_i ps as
  obtain ⟨c,e,z,X,hc⟩:=q
  have hl:=FI h
  refine ⟨c,e,z,X,fun i p L=>?_⟩
  have hi:=(List.getElem?_eq_some_iff.1 L).1
  obtain ⟨a,ha⟩:∃a,as[i]?=some a:=⟨_,List.getElem?_eq_getElem (by omega)⟩
  obtain ⟨v,x,C,U⟩:=hc i a ha
  obtain ⟨O,Y⟩:=Eg hΓ R (Jf h i p a L ha) U
  exact ⟨v,x,by rw [Y];exact C,O⟩
 ·rename_i e ps e' as
  rw [aT,An]at h
  obtain ⟨rfl,h⟩:=h
  obtain ⟨c,z,⟨h0,hs⟩,X,hc⟩:=q
  have hl:=FI h
  refine ⟨c,z,⟨h0,by rw [hl];exact hs⟩,X,fun i p L=>?_⟩
  have hi:=(List.getElem?_eq_some_iff.1 L).1
  obtain ⟨a,ha⟩:∃a,as[i]?=some a:=⟨_,List.getElem?_eq_getElem (by omega)⟩
  obtain ⟨v,x,C,U⟩:=hc i a ha
  obtain ⟨O,Y⟩:=Eg hΓ R (Jf h i p a L ha) U
  exact ⟨v,x,by rw [Y];exact C,O⟩
 ·rename_i i es j ah
  rw [aT,Bool.or_eq_true,An,An]at h
  obtain ⟨h,rfl⟩:=h
  obtain ⟨c,e,I,H,Q,P,V,N,M⟩:=q
  rcases h with rfl|h
  ·exact ⟨c,e,I,H,Q,P,V,N,by rw [R.AX];exact M⟩
  ·obtain ⟨n,hn⟩:=M5 hΓ.defs h
   refine ⟨c,e,I,H,?_,P,V,N,?_⟩
   ·rw [hn,lT'];omega
   ·rw [R.AX,hn]
    rw [Bz]at M⊢
    refine ⟨fun ps ac=>M.1 ps (List.mem_of_mem_take ac),?_⟩
    have:=M.2
    rw [<-List.take_append_drop n (ρ.lst j),List.flatten_append,AO.append_iff]at this
    exact this.1
 ·have h:=An.1 h
  subst h
  obtain ⟨J,ms,c,I,H⟩:=q
  exact ⟨J,ms,c,I,by rw [R.AX];exact H⟩
 ·rename_i ps c as d
  rw [aT,An]at h
  obtain ⟨rfl,h⟩:=h
  obtain ⟨J,ms,z,Z⟩:=q
  exact ⟨J,ms,z,Lt hΓ R h Z⟩
 ·rename_i i es aa
  obtain ⟨l,hl,C⟩:=Ac (Fz.1 h)
  simp only [oI]at C
  obtain ⟨J,ms,z,Z⟩:=q
  exact ⟨J,ms,aa,z,by rw [R.AX];exact T9 C (hΓ.CA _ (MI hl)) Z⟩
 ·rw [aT,An]at h
  obtain ⟨x,rfl⟩:=h
  rw [ST.Ba x]
  exact q
 ·rename_i t e n e'
  rw [aT,An]at h
  obtain ⟨x,rfl⟩:=h
  rw [ST.Ba x]
  obtain ⟨c,I,H,Q,P,V,N⟩:=q
  refine ⟨c,I,H,Q,?_,?_,N⟩
  ·show (BG _:Int)<=Int.ofNat n
   simp only [Int.ofNat_eq_natCast];omega
  ·show Int.ofNat n<=1048576
   simp only [Int.ofNat_eq_natCast];omega
 ·rw [aT,An,An]at h
  obtain ⟨rfl,rfl⟩:=h
  exact q
 ·cases h
theorem Nq {Γ:Ao} {h:Ak}:∀{l:List Block} {k:Nat},YE Γ h σ l k=true->∀i B,l[i]?=some B->∃b A,Cb σ (k+i)=some b/\h.get b=some A/\Nr Γ σ B A=true
 |[],_,_,i,vs,hv=>by simp at hv
 |W::r,k,hb,i,B,hv=>by
  have e:YE Γ h σ (W::r) k=(eqB Γ h σ k W&&YE Γ h σ r (k+1)):=rfl
  rw [e,aT]at hb
  cases i with
  |zero=>
   simp only [List.getElem?_cons_zero,oI]at hv
   subst hv
   have j:=hb.1
   unfold eqB at j
   split at j
   ·rename_i b q
    split at j
    ·rename_i A x
     exact ⟨b,A,q,x,j⟩
    ·cases j
   ·cases j
  |succ i=>
   obtain ⟨b,A,j,v,z⟩:=Nq hb.2 i B (by simpa using hv)
   exact ⟨b,A,by rw [<-j];congr 1;omega,v,z⟩
theorem Kt:∀{l r:List Aa},Mz σ l=some r->l.length=r.length/\∀(i:Nat) (a:Aa),r[i]?=some a->∃p,l[i]?=some p/\J7 σ p=some a
 |[],r,h=>by
  have h:some []=some r:=h
  simp only [oI]at h
  subst h
  exact ⟨rfl,fun i a ha=>by simp at ha⟩
 |v::l,r,h=>by
  have h:(AD (J7 σ v) fun u=>AD (Mz σ l) fun us=>some (u::us))=some r:=h
  obtain ⟨u,z,h⟩:=Ac h
  obtain ⟨us,j,h⟩:=Ac h
  simp only [oI]at h
  subst h
  obtain ⟨q,x⟩:=Kt j
  refine ⟨by simp [q],fun i a ha=>?_⟩
  cases i with
  |zero=>
   simp only [List.getElem?_cons_zero,oI]at ha
   subst ha
   exact ⟨v,rfl,z⟩
  |succ i=>simpa using x i a (by simpa using ha)
theorem QJ (R:Ren μ' μ σ):∀{l r:List Aa} {us:List Value},Mz σ l=some r->Av ρ μ' l us->Av ρ μ r us
 |[],r,us,h,hr=>by
  have h:some []=some r:=h
  simp only [oI]at h
  subst h
  exact hr
 |v::l,r,us,h,hr=>by
  have h:(AD (J7 σ v) fun u=>AD (Mz σ l) fun us=>some (u::us))=some r:=h
  obtain ⟨u,C,h⟩:=Ac h
  obtain ⟨I,j,h⟩:=Ac h
  simp only [oI]at h
  subst h
  simp only [Av]at hr⊢
  obtain ⟨x,rest,rfl,⟨B,A⟩,H⟩:=hr
  obtain ⟨q,z⟩:=CX (ρ:=ρ) R C (u:=x)
  exact ⟨x,rest,rfl,⟨by rw [z];exact B,q.2 A⟩,QJ R j H⟩
theorem WL (R:Ren μ' μ σ):∀{l r:List Aa} {us:List Value},Mz σ l=some r->A9 ρ μ' l us->A9 ρ μ r us
 |[],r,us,h,hr=>by
  have h:some []=some r:=h
  simp only [oI]at h
  subst h
  exact hr
 |v::l,r,us,h,hr=>by
  have h:(AD (J7 σ v) fun u=>AD (Mz σ l) fun us=>some (u::us))=some r:=h
  obtain ⟨u,A,h⟩:=Ac h
  obtain ⟨C,j,h⟩:=Ac h
  simp only [oI]at h
  subst h
  simp only [A9]at hr⊢
  obtain ⟨x,rest,rfl,z,B⟩:=hr
  obtain ⟨q,H⟩:=CX (ρ:=ρ) R A (u:=x)
  exact ⟨x,rest,rfl,q.2 z,WL R j B⟩
theorem Abx (R:Ren μ' μ σ) {p a:Aa} (h:AdU σ p=some a) {u:Value} (j:Ah ρ μ' p u):Ah ρ μ a u:=by
 unfold AdU at h
 split at h
 ·obtain ⟨cs,q,e⟩:=Ac h
  simp only [oI]at e
  subst e
  obtain ⟨x,rfl,v⟩:=j.agg
  simp only [Ah]
  exact ⟨x,rfl,QJ R q v⟩
 ·exact (CX R h).1.2 j
theorem SL (R:Ren μ' μ σ):∀{l r:List Aa} {us:List Value},Aby σ l=some r->A9 ρ μ' l us->A9 ρ μ r us
 |[],r,us,h,hr=>by
  have h:some []=some r:=h
  simp only [oI]at h
  subst h
  exact hr
 |v::l,r,us,h,hr=>by
  have h:(AD (AdU σ v) fun u=>AD (Aby σ l) fun us=>some (u::us))=some r:=h
  obtain ⟨a,ha,A⟩:=Ac h
  obtain ⟨as,q,j⟩:=Ac A
  simp only [oI]at j
  subst j
  simp only [A9]at hr⊢
  obtain ⟨u,rest,rfl,x,z⟩:=hr
  exact ⟨u,rest,rfl,Abx R ha x,SL R q z⟩
theorem SN (R:Ren μ' μ σ) {p a:Aa} (h:UJ σ p=some a) {u:Value} (q:Ah ρ μ' p u):Ah ρ μ a u:=by
 unfold UJ at h
 split at h
 ·obtain ⟨cs,j,e⟩:=Ac h
  simp only [oI]at e
  subst e
  obtain ⟨x,rfl,v⟩:=q.agg
  simp only [Ah]
  exact ⟨x,rfl,QJ R j v⟩
 ·obtain ⟨cs,j,e⟩:=Ac h
  simp only [oI]at e
  subst e
  obtain ⟨x,rfl,v⟩:=q.tuple
  simp only [Ah]
  exact ⟨x,rfl,SL R j v⟩
 ·exact (CX R h).1.2 q
theorem OQ (R:Ren μ' μ σ):∀{l r:List Entry} {ms:List MapEntry},Abz σ l=some r->BP ρ μ' l ms->BP ρ μ r ms
 |[],r,ms,h,he=>by
  have h:some []=some r:=h
  simp only [oI]at h
  subst h
  exact he
 |e::l,r,ms,h,he=>by
  have h:(AD (J7 σ e.key) fun k=>AD (J7 σ e.val) fun v=>AD (Abz σ l) fun j=>some (⟨k,v,e.born⟩::j))=some r:=h
  obtain ⟨k,A,h⟩:=Ac h
  obtain ⟨v,H,h⟩:=Ac h
  obtain ⟨j,q,h⟩:=Ac h
  simp only [oI]at h
  subst h
  obtain ⟨m,rest,rfl,⟨x,B,C,J⟩,z⟩:=he
  obtain ⟨I,L⟩:=CX (ρ:=ρ) R A (u:=m.key)
  exact ⟨m,rest,rfl,⟨by rw [L];exact x,I.2 B,(CX R H).1.2 C,J⟩,OQ R q z⟩
theorem Ab2 (R:Ren μ' μ σ) {B C:Block} (h:XM σ B=some C) {o:Option Obj} {δ:Nat×Nat} (hB:C7 ρ μ' B o δ):C7 ρ μ C o δ:=by
 unfold XM at h
 split at h
 ·rename_i vs
  obtain ⟨us,j,e⟩:=Ac h
  simp only [oI]at e
  subst e
  obtain ⟨U,O⟩:=Kt j
  obtain ⟨c,e,q,N,hc⟩:=hB
  refine ⟨c,e,q,N,fun i a ha=>?_⟩
  obtain ⟨p,I,J⟩:=O i a ha
  obtain ⟨v,A,x,L⟩:=hc i p I
  obtain ⟨z,Q⟩:=CX (ρ:=ρ) R J (u:=v)
  exact ⟨v,A,by rw [Q];exact x,z.2 L⟩
 ·rename_i t vs
  obtain ⟨us,j,e⟩:=Ac h
  simp only [oI]at e
  subst e
  obtain ⟨U,O⟩:=Kt j
  obtain ⟨c,q,⟨Y,hs⟩,N,hc⟩:=hB
  refine ⟨c,q,⟨Y,by rw [<-U];exact hs⟩,N,fun i a ha=>?_⟩
  obtain ⟨p,I,J⟩:=O i a ha
  obtain ⟨v,A,x,L⟩:=hc i p I
  obtain ⟨z,Q⟩:=CX (ρ:=ρ) R J (u:=v)
  exact ⟨v,A,by rw [Q];exact x,z.2 L⟩
 ·simp only [oI]at h
  subst h
  obtain ⟨c,e,P,M,Z,X,x5,x6,x7⟩:=hB
  exact ⟨c,e,P,M,Z,X,x5,x6,by rw [<-R.AX];exact x7⟩
 ·simp only [oI]at h
  subst h
  obtain ⟨H,ms,c,P,M⟩:=hB
  exact ⟨H,ms,c,P,by rw [<-R.AX];exact M⟩
 ·simp only [oI]at h
  subst h
  exact hB
 ·simp only [oI]at h
  subst h
  exact hB
 ·obtain ⟨es,V,e⟩:=Ac h
  simp only [oI]at e
  subst e
  obtain ⟨H,ms,q,he⟩:=hB
  exact ⟨H,ms,q,OQ R V he⟩
theorem UL (B:Option Block) (r:List (Option Block)) (i:Nat) (h:Ak):OR σ (B::r) i h=AD (AdX σ i B h) fun j=>OR σ r (i+1) j:=rfl
theorem XP {i:Nat} {B:Option Block} {h q:Ak} (j:AdX σ i B h=some q):q.next=h.next/\q.fx=h.fx/\∃b,Cb σ i=some b/\∃C,(match B with|some B=>∃D,XM σ B=some D/\C=some D|none=>C=none)/\∀d,q.get d=if d=b then C else h.get d:=by
 unfold AdX at j
 obtain ⟨b,hb,j⟩:=Ac j
 cases B with
 |none=>
  simp only [oI]at j
  subst j
  exact ⟨rfl,rfl,b,hb,none,rfl,fun d=>Ak.Bf _ _ _ _⟩
 |some B=>
  obtain ⟨D,v,j⟩:=Ac j
  simp only [oI]at j
  subst j
  exact ⟨rfl,rfl,b,hb,some D,⟨D,v,rfl⟩,fun d=>Ak.Bf _ _ _ _⟩
theorem M3 (M:σ.Nodup):∀{l:List (Option Block)} {i:Nat} {h q:Ak},OR σ l i h=some q->q.next=h.next/\q.fx=h.fx/\(∀b,(∀j,j<l.length->Cb σ (i+j)≠some b)->q.get b=h.get b)/\
  ∀j B,l[j]?=some B->∃b,Cb σ (i+j)=some b/\(match B with|some B=>∃D,XM σ B=some D/\q.get b=some D|none=>q.get b=none)
 |[],i,h,q,v=>by
  have v:some h=some q:=v
  simp only [oI]at v
  subst v
  exact ⟨rfl,rfl,fun _ _=>rfl,fun j B hB=>by simp at hB⟩
 |B::r,i,h,q,v=>by
  rw [UL]at v
  obtain ⟨U,J,N⟩:=Ac v
  obtain ⟨n1,P,b,hb,C,L,g1⟩:=XP J
  obtain ⟨n2,O,g2,g3⟩:=M3 M N
  refine ⟨n2.trans n1,O.trans P,fun d hd=>?_,fun j D A=>?_⟩
  ·have I:∀j,j<r.length->Cb σ (i+1+j)≠some d:=fun j Q=>by
    rw [show i+1+j=i+(j+1) by omega];exact hd (j+1) (by simp;omega)
   have R:d≠b:=fun e=>by
    subst e;exact hd 0 (by simp) (by simpa using hb)
   rw [g2 d I,g1 d,if_neg R]
  ·cases j with
   |zero=>
    simp only [List.getElem?_cons_zero,oI]at A
    subst A
    have x:q.get b=C:=by
     have I:∀j,j<r.length->Cb σ (i+1+j)≠some b:=fun j Q e=>by
      have:=Tc M hb e
      omega
     rw [g2 b I,g1 b,if_pos rfl]
    refine ⟨b,by simpa using hb,?_⟩
    cases B with
    |none=>exact x.trans L
    |some B=>obtain ⟨D,z,H⟩:=L;exact ⟨D,z,x.trans H⟩
   |succ j=>
    obtain ⟨d,z,H⟩:=g3 j D (by simpa using A)
    exact ⟨d,by rw [<-z];congr 1;omega,H⟩
end
noncomputable def FC (μ:Aq) (σ:List Nat):Aq:=⟨fun i=>(Cb σ i).bind μ.spot,μ.AX⟩
structure Fits (Γ:Ao) (h:Ak) (σ:List Nat) (pre:List Block) (n:Nat):Prop where
 len:σ.length=pre.length
 ple:pre.length<=n
 nodup:σ.Nodup
 bs:YE Γ h σ pre 0=true
section
variable {ρ:Env} {μ:Aq} {Γ:Ao} {h:Ak} {w:World} {σ:List Nat} {pre:List Block} {post:List (Option Block)}
theorem Fits.lt (F:Fits Γ h σ pre post.length) (H:AJ ρ μ h w):∀i b,Cb σ i=some b->i<pre.length/\b<h.next:=fun i b e=>by
 have q:=Aei e
 rw [F.len]at q
 obtain ⟨x,A,j,v,_⟩:=Nq F.bs i _ (List.getElem?_eq_getElem q)
 rw [Nat.zero_add,e]at j
 simp only [oI]at j
 subst j
 exact ⟨q,H.Fy v⟩
theorem Fits.ren:Ren (FC μ σ) μ σ:=⟨fun i b e=>by show (Cb σ i).bind μ.spot=_;rw [e];rfl,rfl⟩
theorem Fits.get (F:Fits Γ h σ pre post.length):∀b B,(AY pre (empty 0)).get b=some B->∃c A,pre[b]?=some B/\Cb σ b=some c/\h.get c=some A/\Nr Γ σ B A=true:=fun b B e=>by
 rw [Ct]at e
 obtain ⟨c,A,j,q,v⟩:=Nq F.bs b B e
 rw [Nat.zero_add]at j
 exact ⟨c,A,e,j,q,v⟩
theorem Fits.own (F:Fits Γ h σ pre post.length):∀r,AN (FC μ σ) (AY pre (empty 0)) r->∃i b B δ,Cb σ i=some b/\h.get b=some B/\μ b=some (r,δ):=fun r ⟨b,B,δ,hb,hm⟩=>by
 obtain ⟨c,A,_,j,q,_⟩:=F.get b B hb
 rw [Fits.ren.spot b c j]at hm
 exact ⟨b,c,A,δ,j,q,hm⟩
theorem Fits.before (hΓ:Γ.AI ρ) (F:Fits Γ h σ pre post.length) (H:AJ ρ μ h w):AJ ρ (FC μ σ) (AY pre (empty 0)) w:=by
 have x:∀r,AN (FC μ σ) (AY pre (empty 0)) r->AN μ h r:=fun r q=>by
  obtain ⟨i,b,B,δ,_,j,v⟩:=F.own r q
  exact ⟨b,B,δ,j,v⟩
 refine ⟨fun b hb=>?_,fun b B hb=>?_,fun b L B N r δ R hb M z C=>?_,⟨fun g o e=>⟨(H.AQ.AQ g o e).1,fun q=>(H.AQ.AQ g o e).2 (x g q)⟩,fun g o e=>⟨(H.AQ.AX g o e).1,fun q=>(H.AQ.AX g o e).2 (x g q)⟩,?_⟩⟩
 ·rw [BU]at hb
  show (Cb σ b).bind μ.spot=none
  cases e:Cb σ b with
  |none=>rfl
  |some c=>have:=(F.lt H b c e).1;omega
 ·obtain ⟨c,A,_,j,v,P⟩:=F.get b B hb
  obtain ⟨r,δ,z,Q⟩:=H.blk c A v
  exact ⟨r,δ,by rw [Fits.ren.spot b c j];exact z,Py hΓ Fits.ren P Q⟩
 ·obtain ⟨c,A,_,j,v,_⟩:=F.get b B hb
  obtain ⟨O,U,_,I,J,_⟩:=F.get L N M
  rw [Fits.ren.spot b c j]at z
  rw [Fits.ren.spot L O I]at C
  have:=H.inj _ _ _ _ _ _ _ v J z C
  subst this
  exact Tc F.nodup j I
 ·rw [(BY pre (empty 0)).2.1]
  exact Ao.AI.none ρ
theorem Fits.after (F:Fits Γ h σ pre post.length) (H:AJ ρ μ h w) {h1:Ak} (ap:OR (σ++Ll post pre.length h.next) post 0 ⟨h.DG,h.next+(post.length-pre.length),h.fx⟩=some h1) {μ':Aq} {w':World} (M:Au ρ (FC μ σ) (AY pre (empty 0)) w μ' (Cv post (empty 0)) w'):
  ∃I,Au ρ μ h w I h1 w'/\Ren μ' I (σ++Ll post pre.length h.next):=by
 have av:=F.len
 have aE:=F.ple
 have aB:=F.nodup
 have U:=F.lt H
 have own:=F.own (μ:=μ)
 have ao:∀r,AN (FC μ σ) (AY pre (empty 0)) r->AN μ h r:=fun r ho=>by
  obtain ⟨i,b,B,δ,_,x,v⟩:=own r ho
  exact ⟨b,B,δ,x,v⟩
 generalize hσ':σ++Ll post pre.length h.next=σ' at ap⊢
 have hσ'get:∀i b,Cb σ' i=some b↔(i<pre.length/\Cb σ i=some b)∨(pre.length<=i/\i<post.length/\b=h.next+(i-pre.length)):=fun i b=>by
  rw [<-hσ',Fw,Fw]
  by_cases N:i<pre.length
  ·rw [List.getElem?_append_left (by omega)]
   constructor
   ·intro e;exact .inl ⟨N,e⟩
   ·rintro (⟨_,e⟩|⟨e,_⟩)
    ·exact e
    ·omega
  ·rw [List.getElem?_append_right (by omega),FV,av]
   constructor
   ·intro e
    split at e
    ·simp only [oI]at e
     exact .inr ⟨by omega,by omega,e.symm⟩
    ·cases e
   ·rintro (⟨e,_⟩|⟨P,Y,e3⟩)
    ·omega
    ·rw [if_pos (by omega),e3]
 have ax:σ'.Nodup:=by
  rw [<-hσ',List.nodup_append]
  refine ⟨aB,?_,fun a ha b hb e=>?_⟩
  ·rw [List.nodup_iff_pairwise_ne,List.pairwise_iff_getElem]
   intro i j N hj aH e
   have P:=List.getElem?_eq_getElem N
   have Y:=List.getElem?_eq_getElem hj
   rw [FV]at P Y
   split at P<;>split at Y<;>simp at P Y
   omega
  ·subst e
   obtain ⟨i,N⟩:=List.mem_iff_getElem?.1 ha
   obtain ⟨j,hj⟩:=List.mem_iff_getElem?.1 hb
   rw [FV]at hj
   split at hj
   ·simp only [oI]at hj
    have:=(U i a (by rw [Fw];exact N)).2
    omega
   ·cases hj
 obtain ⟨n1,f1,g1,g2⟩:=M3 ax ap
 have n1:h1.next=h.next+(post.length-pre.length):=n1
 let I:Aq:=⟨fun b=>if h.next<=b/\b<h.next+(post.length-pre.length)then μ' (pre.length+(b-h.next))else μ b,μ'.AX⟩
 have z:∀b,b<h.next->I b=μ b:=fun b hb=>by
  show (if _ then _ else _)=_
  rw [if_neg (by omega)]
 have Z:Ren μ' I σ':=⟨fun i b e=>by
  rcases (hσ'get i b).1 e with ⟨N,e⟩|⟨hi1,hi2,rfl⟩
  ·rw [z b (U i b e).2,M.old i (by rw [BU];exact N)]
   exact Fits.ren.spot i b e
  ·show _=(if _ then _ else _)
   rw [if_pos (by omega)]
   congr 1;omega,rfl⟩
 have au:μ.le I:=⟨fun b y e=>by
  have hb:b<h.next:=by
   rcases Nat.lt_or_ge b h.next with hb|hb
   ·exact hb
   ·rw [H.fresh b hb]at e;cases e
  rw [z b hb];exact e,fun k o e=>M.le.AX k o e⟩
 have ae:∀b B,h1.get b=some B->(∃i O,Cb σ' i=some b/\(Cv post (empty 0)).get i=some O/\XM σ' O=some B)∨((∀i,Cb σ i≠some b)/\h.get b=some B):=fun b B hb=>by
  by_cases hex:∃i,Cb σ' i=some b
  ·obtain ⟨i,N⟩:=hex
   left
   have aq:i<post.length:=by
    rcases (hσ'get i b).1 N with ⟨q,_⟩|⟨_,q,_⟩
    ·omega
    ·exact q
   obtain ⟨b',x,v⟩:=g2 i _ (List.getElem?_eq_getElem aq)
   rw [Nat.zero_add,N]at x
   simp only [oI]at x
   subst x
   cases X:post[i]with
   |none=>rw [X]at v;simp only at v;rw [hb]at v;cases v
   |some O=>
    rw [X]at v
    obtain ⟨D,J,k4⟩:=v
    rw [hb]at k4
    simp only [oI]at k4
    subst k4
    refine ⟨i,O,N,?_,J⟩
    rw [Dt,List.getElem?_eq_getElem aq,X];rfl
  ·right
   have R:∀i,Cb σ' i≠some b:=fun i e=>hex ⟨i,e⟩
   refine ⟨fun i e=>R i ((hσ'get i b).2 (.inl ⟨(U i b e).1,e⟩)),?_⟩
   have:=g1 b fun j _=>by rw [Nat.zero_add];exact R j
   rw [this]at hb
   exact hb
 have af:∀r,AN μ' (Cv post (empty 0)) r->∀b B δ,(∀i,Cb σ i≠some b)->h.get b=some B->μ b=some (r,δ)->False:=fun r ho b B δ R hb A=>by
  have az:=H.lt hb A
  refine (M.kept r az fun X=>?_).2 ho
  obtain ⟨i,c,C,δ',x,v,J⟩:=own r X
  have:=H.inj _ _ _ _ _ _ _ hb v A J
  subst this
  exact R i x
 have al:∀r,AN I h1 r->AN μ' (Cv post (empty 0)) r∨∃b B δ,(∀i,Cb σ i≠some b)/\h.get b=some B/\μ b=some (r,δ):=fun r ⟨b,B,δ,hb,A⟩=>by
  rcases ae b B hb with ⟨i,O,x,v,J⟩|⟨x,v⟩
  ·left
   rw [<-Z.spot i b x]at A
   exact ⟨i,O,δ,v,A⟩
  ·right
   rw [z b (H.Fy v)]at A
   exact ⟨b,B,δ,x,v,A⟩
 have ad:∀r,r<w.heap.size->¬AN μ h r->w'.heap[r]?=w.heap[r]?/\¬AN I h1 r:=fun r hr ho=>by
  obtain ⟨Q,V⟩:=M.kept r hr fun X=>ho (ao r X)
  refine ⟨Q,fun hq=>?_⟩
  rcases al r hq with hq|⟨b,B,δ,_,v,J⟩
  ·exact V hq
  ·exact ho ⟨b,B,δ,v,J⟩
 have ak:∀k o,μ'.AX k=some o->μ.AX k=some o∨AN (FC μ σ) (AY pre (empty 0)) k∨w.heap.size<=k:=M.icy
 have H1:AJ ρ I h1 w':=by
  refine ⟨fun b hb=>?_,fun b B hb=>?_,fun b b' B B' r δ δ' hb aC A L=>?_,⟨fun k o hk=>?_,fun k o hk=>?_,?_⟩⟩
  ·rw [n1]at hb
   show (if _ then _ else _)=none
   rw [if_neg (by omega)]
   exact H.fresh b (by omega)
  ·rcases ae b B hb with ⟨i,O,x,v,J⟩|⟨x,v⟩
   ·obtain ⟨r,δ,P,Y⟩:=M.rel.blk i O v
    exact ⟨r,δ,by rw [<-Z.spot i b x];exact P,Ab2 Z J Y⟩
   ·obtain ⟨r,δ,P,Y⟩:=H.blk b B v
    refine ⟨r,δ,by rw [z b (H.Fy v)];exact P,?_⟩
    have R:¬AN (FC μ σ) (AY pre (empty 0)) r:=fun X=>by
     obtain ⟨i,c,C,δ',Q,V,q3⟩:=own r X
     have:=H.inj _ _ _ _ _ _ _ v V P q3
     subst this
     exact x i Q
    rw [(M.kept r (H.lt v P) R).1]
    exact Y.mono au
  ·rcases ae b B hb with ⟨i,O,x,v,J⟩|⟨x,v⟩<;>rcases ae b' B' aC with ⟨i',Bp',k1',k2',k3'⟩|⟨k1',k2'⟩
   ·rw [<-Z.spot i b x]at A
    rw [<-Z.spot i' b' k1']at L
    have:=M.rel.inj _ _ _ _ _ _ _ v k2' A L
    subst this
    rw [x]at k1'
    simpa using k1'
   ·rw [<-Z.spot i b x]at A
    rw [z b' (H.Fy k2')]at L
    exact (af r ⟨i,O,δ,v,A⟩ b' B' δ' k1' k2' L).elim
   ·rw [<-Z.spot i' b' k1']at L
    rw [z b (H.Fy v)]at A
    exact (af r ⟨i',Bp',δ',k2',L⟩ b B δ x v A).elim
   ·rw [z b (H.Fy v)]at A
    rw [z b' (H.Fy k2')]at L
    exact H.inj _ _ _ _ _ _ _ v k2' A L
  ·obtain ⟨Q,V⟩:=H.AQ.AQ k o hk
   obtain ⟨q3,q4⟩:=ad k (Array.getElem?_eq_some_iff.1 Q).1 V
   exact ⟨q3.trans Q,q4⟩
  ·obtain ⟨Q,V⟩:=M.rel.AQ.AX k o hk
   refine ⟨Q,fun hq=>?_⟩
   rcases al k hq with hq|⟨b,B,δ,x,v,J⟩
   ·exact V hq
   ·rcases ak k o hk with i1|i1|i1
    ·exact (H.AQ.AX k o i1).2 ⟨b,B,δ,v,J⟩
    ·obtain ⟨i,c,C,δ',Q,V,q3⟩:=own k i1
     have:=H.inj _ _ _ _ _ _ _ v V J q3
     subst this
     exact x i Q
    ·have:=H.lt v J;omega
  ·rw [f1];exact H.AQ.facts
 refine ⟨I,⟨au,H1,M.size,ad,M.os,M.output,by rw [n1];omega,z,fun k o hk=>?_,f1⟩,Z⟩
 ·rcases ak k o hk with i1|i1|i1
  ·exact .inl i1
  ·exact .inr (.inl (ao k i1))
  ·exact .inr (.inr i1)
end
end
section
section
variable {P:Program} {Γ:Ao} {ρ:Env} {pl:List Cq} {nt:Nat} {call:Co} {fuel:Nat}
theorem RE (d:Bool) (l:List Step) (k:Nat) (f:Fr):F6 Γ call fuel (.region d l) k f=QK Γ call d l f:=rfl
theorem YC (a b:IC) (k:Nat) (f:Fr):F6 Γ call fuel (.seq a b) k f=AD (F6 Γ call fuel a k f) fun r=>andThen r fun j=>F6 Γ call fuel b k j:=rfl
theorem Nj (c:Cu) (a b:IC) (k:Nat) (f:Fr):F6 Γ call fuel (.cond c a b) k f=AcN (ev f.tm c) (F6 Γ call fuel a k f) (F6 Γ call fuel b k f):=rfl
theorem T4 (id:Nat) (b:IC) (k:Nat) (f:Fr):F6 Γ call fuel (.block id b) k f=AD (F6 Γ call fuel b id f) fun r=>some (Gs id r):=rfl
theorem V7 (b:IC) (k:Nat) (f:Fr):F6 Γ call fuel (.loop b) k f=iter (fun f=>IA Γ k f Γ.loops) (fun f=>F6 Γ call fuel b k f) fuel f:=rfl
def Dh:Nat->Code->List (Nat×Code)
 |k,.seq a b=>Dh k a++Dh k b
 |k,.cond _ a b=>Dh k a++Dh k b
 |_,.block id b=>Dh id b
 |k,.loop b=>(k,b)::Dh k b
 |_,_=>[]
def B7.Pv (k:B7):Exit:=bif k.out then .ret else .exit k.id
theorem B7.Ac9 (k:B7) {ρ:Env} {μ:Aq}:Ad1 ρ μ k.Nh k.Pv:=by
 unfold B7.Nh B7.Pv
 cases k.out<;>exact rfl
theorem B7.Aet {k:B7} {ρ:Env} {μ:Aq} {e:Exit} (h:Ad1 ρ μ k.Nh e):e=k.Pv:=by
 unfold B7.Nh at h
 unfold B7.Pv
 cases hk:k.out<;>rw [hk]at h<;>exact h
def DU (P:Program) (ρ:Env) (nt:Nat) (x:Code) (k:B7):Prop:=
 ∃n,∀μ a w (Q:Exit->Act->World->Prop),CM ρ μ nt ⟨O9 k.X9 .nil,AY k.pre (empty 0),k.df⟩ a w->
  (∀q j w',CM ρ q nt ⟨O9 k.NY .nil,Cv k.post (empty 0),k.df⟩ j w'->Au ρ μ (AY k.pre (empty 0)) w q (Cv k.post (empty 0)) w'->Q k.Pv j w')->Code.rounds P x Q n a w
def Dz (P:Program) (ρ:Env) (nt:Nat) (l:List B7) (cur:Nat) (c:Code):Prop:=∀y∈Dh cur c,∀k∈l,k.id=y.1->DU P ρ nt y.2 k
theorem Dz.none {P:Program} {ρ:Env} {nt cur:Nat} {c:Code}:Dz P ρ nt [] cur c:=fun _ _ k j=>by cases j
theorem PR:∀(l:List (Nat×Aa)) (t:Tr Aa) (n:Nat) (v:Aa),(O9 l t).get n=some v->(n,v)∈l∨t.get n=some v
 |[],t,n,v,e=>.inr e
 |x::l,t,n,v,e=>by
  have e:(O9 l (t.set x.1 (some x.2))).get n=some v:=e
  rcases PR l _ n v e with k|k
  ·exact .inl (List.mem_cons_of_mem _ k)
  ·rw [Tr.Bf]at k
   split at k
   ·rename_i hb
    simp only [oI]at k
    subst k
    rw [hb]
    exact .inl (List.mem_cons_self)
   ·exact .inr k
theorem KL {σ:List Nat} {t:Tr Aa}:∀{l:List (Nat×Aa)},Xi Γ σ t l=true->∀i v,(i,v)∈l->Ns Γ σ v (Eu (t.get i))=true
 |[],_,b,B,hm=>by simp at hm
 |x::l,hf,b,B,hm=>by
  have hf:(Ns Γ σ x.2 (Eu (t.get x.1))&&Xi Γ σ t l)=true:=hf
  rw [aT]at hf
  rcases List.mem_cons.1 hm with e|hm
  ·subst e
   exact hf.1
  ·exact KL hf.2 b B hm
theorem My {σ:List Nat}:∀{l:List (Nat×Aa)} {t t' u:Tr Aa},UI σ l t=some t'->(∀n v,t.get n=some v->∃p,u.get n=some p/\UJ σ p=some v)->∀n v,t'.get n=some v->∃p,(O9 l u).get n=some p/\UJ σ p=some v
 |[],t,t',u,h,ht,n,v,e=>by
  have h:some t=some t':=h
  simp only [oI]at h
  subst h
  exact ht n v e
 |x::l,t,t',u,h,ht,n,v,e=>by
  have h:(AD (UJ σ x.2) fun v=>UI σ l (Tr.set t x.1 (some v)))=some t':=h
  obtain ⟨y,A,h⟩:=Ac h
  refine My (u:=u.set x.1 (some x.2)) h (fun m z j=>?_) n v e
  rw [Tr.Bf]at j
  by_cases hm:m=x.1
  ·rw [if_pos hm]at j
   simp only [oI]at j
   subst j
   exact ⟨x.2,by rw [Tr.Bf,if_pos hm],A⟩
  ·rw [if_neg hm]at j
   obtain ⟨p,q,B⟩:=ht m z j
   exact ⟨p,by rw [Tr.Bf,if_neg hm];exact q,B⟩
theorem TA {μ j:Aq} {σ:List Nat} (hΓ:Γ.AI ρ) (R:Ren j μ σ) {p q:List (FuncId×List Aa)} (h:Aeu Γ σ p q=true) {ds:List Deferred} (hd:C6 ρ μ q ds):C6 ρ j p ds:=by
 unfold Aeu at h
 split at h
 ·exact hd
 ·rw [aT]at h
  obtain ⟨c,rest,v,⟨cap,A,x⟩,z⟩:=hd
  exact ⟨c,rest,v,⟨cap,by rw [A,An.1 h.1],Gy hΓ R h.2 x⟩,z⟩
 ·cases h
theorem XL {μ j:Aq} {σ:List Nat} (R:Ren j μ σ) {p q:List (FuncId×List Aa)} (h:Ab0 σ p=some q) {ds:List Deferred} (hd:C6 ρ j p ds):C6 ρ μ q ds:=by
 unfold Ab0 at h
 split at h
 ·simp only [oI]at h
  subst h
  exact hd
 ·obtain ⟨l,hl,h⟩:=Ac h
  simp only [oI]at h
  subst h
  obtain ⟨c,rest,v,⟨cap,A,x⟩,z⟩:=hd
  exact ⟨c,rest,v,⟨cap,A,WL R hl x⟩,z⟩
 ·cases h
theorem Oi {x:Code} {k:B7} (O:DU P ρ nt x k) {f:Fr} {r:Bc×Fr} (j:LM Γ k f=some r) (hΓ:Γ.AI ρ):
  ∃n,∀{μ:Aq} {a:Act} {w:World} {Q:Exit->Act->World->Prop},CM ρ μ nt f a w->Dr ρ nt μ f.h w Q r->Code.rounds P x Q n a w:=by
 obtain ⟨n,O⟩:=O
 refine ⟨n,fun {μ a w Q} F L=>?_⟩
 unfold LM at j
 obtain ⟨A,j⟩:=Ap j
 generalize So f.h k.pre 0 (Zg k.df f.df (Uc f.tm k.X9 []))=σ at A j
 unfold Afb at A
 rw [aT,aT,aT,aT,aT]at A
 obtain ⟨X,z,B,Z,U,V⟩:=A
 have z:=An.1 z
 rw [Dg,EO]at z
 have B:=AP.1 B
 rw [EO,Gn]at B
 unfold AcY at j
 obtain ⟨h1,C,j⟩:=Ac j
 obtain ⟨tm,N,j⟩:=Ac j
 obtain ⟨df,M,j⟩:=Ac j
 simp only [oI]at j
 subst j
 rw [EO]at C N M
 rw [Gn]at C
 have H:=F.heap
 have FF:Fits Γ f.h σ k.pre k.post.length:=⟨z,B,EX Z,V⟩
 refine O (FC μ σ) a w Q ⟨fun t=>?_,F.size,Fits.before hΓ FF H,TA hΓ Fits.ren X F.defs⟩ fun μ' a' w' R g'=>?_
 ·show Ah ρ (FC μ σ) (Eu ((O9 k.X9 .nil).get t)) _
  cases hg:(O9 k.X9 .nil).get t with
  |none=>trivial
  |some v=>
   rcases PR _ _ _ _ hg with q|q
   ·exact KR hΓ Fits.ren (KL U t v q) (F.tmps t)
   ·cases q
 ·obtain ⟨I,J,Y⟩:=FF.after H C g'
  refine L I a' w' k.Pv ⟨fun t=>?_,R.size,J.rel,?_⟩ J k.Ac9
  ·show Ah ρ I (Eu (tm.get t)) _
   cases hg:tm.get t with
   |none=>trivial
   |some v=>
    obtain ⟨p,k1,k2⟩:=My (u:=.nil) N (fun n v e=>by cases e) t v hg
    have:=R.tmps t
    rw [k1]at this
    exact SN Y k2 this
  ·exact XL Y M R.defs
theorem Ln {x:Code} {cur:Nat} {f:Fr} {r:Bc×Fr} (hΓ:Γ.AI ρ):∀{l:List B7},(∀k∈l,k.id=cur->DU P ρ nt x k)->IA Γ cur f l=some r->
  ∃n,∀{μ:Aq} {a:Act} {w:World} {Q:Exit->Act->World->Prop},CM ρ μ nt f a w->Dr ρ nt μ f.h w Q r->Code.rounds P x Q n a w
 |[],_,h=>by cases h
 |k::l,hl,h=>by
  have h:(bif Nat.beq k.id cur then (match LM Γ k f with|some x=>some x|none=>IA Γ cur f l)else IA Γ cur f l)=some r:=h
  have rest:IA Γ cur f l=some r->∃n,∀{μ:Aq} {a:Act} {w:World} {Q:Exit->Act->World->Prop},CM ρ μ nt f a w->Dr ρ nt μ f.h w Q r->Code.rounds P x Q n a w:=Ln hΓ fun y j=>hl y (List.mem_cons_of_mem _ j)
  rw [AH]at h
  split at h
  ·rename_i e
   split at h
   ·rename_i y j
    simp only [oI]at h
    subst h
    exact Oi (hl k List.mem_cons_self e) j hΓ
   ·exact rest h
  ·exact rest h
theorem IZ {μ:Aq} {h:Ak} {w:World} {H r:Bc×Fr} {k:Fr->Option (Bc×Fr)} (j:andThen H k=some r) {K:Act->World->Prop} {Q:Exit->Act->World->Prop} (L:Dr ρ nt μ h w Q r)
  (I:∀z,H=(.normal,z)->k z=some r->∀B A w',CM ρ B nt z A w'->Au ρ μ h w B z.h w'->K A w'):Dr ρ nt μ h w (Exit.then K Q) H:=by
 intro B A w' e F g q
 obtain ⟨x,z⟩:=H
 cases x with
 |normal=>
  have q:e=.normal:=q
  subst q
  exact I z rfl j B A w' F g
 |exit i=>
  have j:some (Bc.exit i,z)=some r:=j
  simp only [oI]at j
  subst j
  have C:=L B A w' e F g q
  have q:e=.exit i:=q
  subst q
  exact C
 |ret=>
  have j:some (Bc.ret,z)=some r:=j
  simp only [oI]at j
  subst j
  have C:=L B A w' e F g q
  have q:e=.ret:=q
  subst q
  exact C
 |panic v=>
  have j:some (Bc.panic v,z)=some r:=j
  simp only [oI]at j
  subst j
  have C:=L B A w' e F g q
  obtain ⟨u,rfl,_⟩:=q
  exact C
theorem Tj {μ:Aq} {h:Ak} {w:World} {id:Nat} {r:Bc×Fr} {Q:Exit->Act->World->Prop} (L:Dr ρ nt μ h w Q (Gs id r)):Dr ρ nt μ h w (Exit.inBlock id Q) r:=by
 intro A q w' e F g j
 obtain ⟨x,B⟩:=r
 cases x with
 |normal=>
  have z:=L A q w' e F g j
  have j:e=.normal:=j
  subst j
  exact z
 |ret=>
  have z:=L A q w' e F g j
  have j:e=.ret:=j
  subst j
  exact z
 |panic v=>
  have z:=L A q w' e F g j
  obtain ⟨u,rfl,_⟩:=j
  exact z
 |exit i=>
  have j:e=.exit i:=j
  subst j
  unfold Gs at L
  simp only at L
  show if i=id then Q .normal q w' else Q (.exit i) q w'
  rw [AH]at L
  by_cases hi:i=id
  ·rw [if_pos hi]at L
   rw [if_pos hi]
   exact L A q w' .normal F g rfl
  ·rw [if_neg hi]at L
   rw [if_neg hi]
   exact L A q w' (.exit i) F g rfl
theorem EV {x:Code} {cur:Nat} {body:Fr->Option (Bc×Fr)} (hΓ:Γ.AI ρ) (z:∀k∈Γ.loops,k.id=cur->DU P ρ nt x k)
  (hb:∀{μ:Aq} {f:Fr} {a:Act} {w:World} {r:Bc×Fr} {Q:Exit->Act->World->Prop},body f=some r->CM ρ μ nt f a w->Dr ρ nt μ f.h w Q r->x.wp P Q a w):
  ∀(n:Nat) {f:Fr} {r:Bc×Fr},iter (fun f=>IA Γ cur f Γ.loops) body n f=some r->∃m,∀{μ:Aq} {a:Act} {w:World} {Q:Exit->Act->World->Prop},CM ρ μ nt f a w->Dr ρ nt μ f.h w Q r->Code.rounds P x Q m a w
 |0,f,r,j=>by cases j
 |n+1,f,r,j=>by
  have j:(match IA Γ cur f Γ.loops with
   |some r=>some r
   |none=>AD (body f) fun r=>andThen r fun v=>iter (fun f=>IA Γ cur f Γ.loops) body n v)=some r:=j
  split at j
  ·rename_i y H
   simp only [oI]at j
   subst j
   exact Ln hΓ z H
  ·obtain ⟨A,q,j⟩:=Ac j
   obtain ⟨J,M⟩:=A
   cases J with
   |normal=>
    obtain ⟨m,I⟩:=EV hΓ z hb n j
    refine ⟨m+1,fun {μ a w Q} F L=>?_⟩
    rw [rounds_succ]
    refine hb q F (IZ j L fun v e B O N w' C g=>?_)
    simp only [Prod.mk.injEq,true_and]at e
    subst e
    exact I C (L.grow g)
   |_=>
    refine ⟨1,fun {μ a w Q} F L=>?_⟩
    rw [rounds_succ]
    exact hb q F (IZ j L fun v e B=>by simp at e)
theorem HK (hΓ:Γ.AI ρ) (hc:BC P ρ call) (R:P.follows .mixedOrders=true):∀(c:Code) {cur:Nat} (_:Dz P ρ nt Γ.loops cur c) {B:IC} {μ:Aq} {f:Fr} {a:Act} {w:World} {r:Bc×Fr} {Q:Exit->Act->World->Prop},
  AV P pl nt c=some B->F6 Γ call fuel B cur f=some r->CM ρ μ nt f a w->Dr ρ nt μ f.h w Q r->c.wp P Q a w:=by
 intro c
 induction c with
 |skip=>
  intro cur A B μ f a w r Q q v F L
  simp only [AV,oI]at q
  subst q
  have v:some (Bc.normal,f)=some r:=v
  simp only [oI]at v
  subst v
  exact wp_skip (L μ a w .normal F (Au.refl F.heap) rfl)
 |exit id=>
  intro cur A B μ f a w r Q q v F L
  simp only [AV,oI]at q
  subst q
  have v:some (Bc.exit id,f)=some r:=v
  simp only [oI]at v
  subst v
  exact wp_exit (L μ a w (.exit id) F (Au.refl F.heap) rfl)
 |ret=>
  intro cur A B μ f a w r Q q v F L
  simp only [AV,oI]at q
  subst q
  have v:some (Bc.ret,f)=some r:=v
  simp only [oI]at v
  subst v
  exact wp_ret (L μ a w .ret F (Au.refl F.heap) rfl)
 |region id ops draw=>
  intro cur A B μ f a w r Q q v F L
  simp only [AV]at q
  obtain ⟨N,hs,e⟩:=mS q
  subst e
  rw [RE]at v
  unfold QK at v
  obtain ⟨x,O,e⟩:=Ac v
  simp only [oI]at e
  subst e
  clear v
  have L:=QE hΓ L
  cases draw with
  |true=>
   simp only [GA,if_true]at hs
   exact VC hΓ hc R hs O F L
  |false=>
   simp only [GA,Bool.false_eq_true,if_false]at hs
   refine wp_region ?_
   rw [List.range_eq_range',<-Array.length_toList]
   exact OL hΓ hc ops.toList N 0 (fun j=>by simp) hs O F L
 |seq x y ihx ihy=>
  intro cur A B μ f a w r Q q v F L
  simp only [AV]at q
  split at q
  ·rename_i X i2 H U
   simp only [oI]at q
   subst q
   rw [YC]at v
   obtain ⟨r1,C,v⟩:=Ac v
   have J:Dz P ρ nt Γ.loops cur x:=fun y I=>A y (List.mem_append_left _ I)
   have Z:Dz P ρ nt Γ.loops cur y:=fun z hz=>A z (List.mem_append_right _ hz)
   exact wp_seq (ihx J H C F (IZ v L fun f' _ V μ' a' w' F' g=>ihy Z U V F' (L.grow g)))
  ·cases q
 |cond c x y ihx ihy=>
  intro cur A B μ f a w r Q q v F L
  simp only [AV]at q
  split at q
  ·rename_i X i2 H U
   simp only [oI]at q
   subst q
   rw [Nj]at v
   have M:=As F.tmps c
   unfold AcN at v
   split at v
   ·rename_i b e1
    rw [e1]at M
    have M:=Ah.bool M
    simp only [SB.den]at M
    refine wp_cond M ?_
    cases b with
    |true=>exact ihx (fun y I=>A y (List.mem_append_left _ I)) H v F L
    |false=>exact ihy (fun y I=>A y (List.mem_append_right _ I)) U v F L
   ·cases v
  ·cases q
 |block id x ih=>
  intro cur A B μ f a w r Q q v F L
  simp only [AV]at q
  obtain ⟨X,H,e⟩:=mS q
  subst e
  rw [T4]at v
  obtain ⟨r1,C,v⟩:=Ac v
  simp only [oI]at v
  subst v
  exact wp_block (ih A H C F (Tj L))
 |loop x ih=>
  intro cur A B μ f a w r Q q v F L
  simp only [AV]at q
  obtain ⟨X,H,e⟩:=mS q
  subst e
  rw [V7]at v
  have J:Dz P ρ nt Γ.loops cur x:=fun y I=>A y (List.mem_cons_of_mem _ I)
  have Y:∀k∈Γ.loops,k.id=cur->DU P ρ nt x k:=fun k V e=>A (cur,x) List.mem_cons_self k V e
  obtain ⟨m,key⟩:=EV hΓ Y (fun C F L=>ih J H C F L) fuel v
  exact wp_loop_rounds m (key F L)
 |refuse why=>
  intro cur A B μ f a w r Q q v F L
  simp only [AV,oI]at q
  subst q
  rw [Nj]at v
  cases v
 |_=>
  intro cur A B μ f a w r Q q
  simp [AV]at q
theorem Ni (hΓ:Γ.AI ρ) (z:Γ.loops=[]) (hc:BC P ρ call) (j:P.follows .mixedOrders=true) (c:Code) {q:IC} {μ:Aq} {f:Fr} {a:Act} {w:World} {r:Bc×Fr} {Q:Exit->Act->World->Prop} (x:AV P pl nt c=some q) (v:exec Γ call fuel q f=some r) (F:CM ρ μ nt f a w) (L:Dr ρ nt μ f.h w Q r):c.wp P Q a w:=
 HK hΓ hc j c (cur:=0) (by rw [z];exact Dz.none) x v F L
end
end
section
section
variable {P:Program} {Γ:Ao} {ρ:Env} {μ:Aq} {tm:Tr Aa} {a:Act} {w:World} {h:Ak} {pl:List Cq} {call:Co} {fuel:Nat}
theorem NL:∀(l:List Aa) (i:Nat) (t:Tr Aa) (n:Nat),(NM l i t).get n=if i<=n/\n<i+l.length then l[n-i]? else t.get n
 |[],i,t,n=>by
  show t.get n=_
  rw [if_neg (by simp)]
 |v::r,i,t,n=>by
  have e:NM (v::r) i t=NM r (i+1) (t.set i (some v)):=rfl
  rw [e,NL r,Tr.Bf]
  simp only [lC]
  by_cases h1:i+1<=n/\n<i+1+r.length
  ·rw [if_pos h1,if_pos (by omega)]
   rw [show n-i=(n-(i+1))+1 from by omega,List.getElem?_cons_succ]
  ·rw [if_neg h1]
   by_cases h2:n=i
   ·subst h2
    rw [if_pos rfl,if_pos (by omega)]
    simp
   ·rw [if_neg h2,if_neg (by omega)]
theorem AcX {F:E4} {args:List Aa} {j:Array Value} (x:A9 ρ μ args j.toList) (k:Nat):AW ρ μ (Hr F args h).tm {tmps:=j++Array.replicate k undef,defers:=[]}:=by
 intro t
 show Ah ρ μ (Eu ((NM args 0 (Tr.full Aa F.depth)).get t)) _
 rw [NL]
 split
 ·rename_i A
  rw [Nat.sub_zero,List.getElem?_eq_getElem (by omega)]
  obtain ⟨v,q,z⟩:=x.get (List.getElem?_eq_getElem (show t<args.length from by omega))
  have hs:t<j.size:=by
   have:=(List.getElem?_eq_some_iff.1 q).1
   simpa using this
  have:(j++Array.replicate k undef).getD t undef=v:=by
   rw [Array.getD_eq_getD_getElem?,Array.getElem?_append_left hs]
   rw [Array.getElem?_toList]at q
   rw [q];rfl
  simp only [this]
  exact z
 ·rw [Tr.JL]
  trivial
theorem XK (x:Sg) (r:List Sg):Abv tm h (x::r)=AD (QI tm h x) fun v=>AD (Abv tm h r) fun vs=>some (v::vs):=rfl
def J3 (tmps:Array Value):ResultVar->Sem Value
 |.tmp t=>pure (tmps.getD t undef)
 |.cell a t=>do loadVar t (<-asAddr (tmps.getD a undef))
theorem QH (H:AJ ρ μ h w) (L:AW ρ μ tm a) {x:ResultVar} {i:Sg} (hc:G0 P x=some i) {v:Aa} (q:QI tm h i=some v):∃u,(J3 a.tmps x).run P w=.ok u w/\Ah ρ μ v u:=by
 cases x with
 |tmp t=>
  simp only [G0,oI]at hc
  subst hc
  simp only [QI,oI]at q
  subst q
  exact ⟨_,rfl,L t⟩
 |cell b t=>
  obtain ⟨n,M,e⟩:=mS hc
  subst e
  have q:MK h.fx h n (Eu (tm.get b))=some v:=q
  obtain ⟨u,B,J⟩:=MJ H.AQ.facts H M (L b) q
  have A:=L b
  unfold MK at q
  split at q
  ·rename_i O N j I C
   rw [C]at A
   obtain ⟨r,m,_,z,_⟩:=A.vptr
   refine ⟨u,?_,J⟩
   rw [z]at B
   show (do loadVar t (<-asAddr (a.tmps.getD b undef)):Sem Value).run P w=_
   rw [z]
   exact B
  ·rename_i c j I C
   rw [C]at A
   obtain ⟨r,δ,_,_,_,z,_⟩:=A.lptr
   refine ⟨u,?_,J⟩
   rw [z]at B
   show (do loadVar t (<-asAddr (a.tmps.getD b undef)):Sem Value).run P w=_
   rw [z]
   exact B
  ·rename_i c I C
   rw [C]at A
   obtain ⟨r,δ,m,_,z⟩:=A.ptr
   refine ⟨u,?_,J⟩
   rw [z]at B
   show (do loadVar t (<-asAddr (a.tmps.getD b undef)):Sem Value).run P w=_
   rw [z]
   exact B
  ·cases q
theorem Mx (H:AJ ρ μ h w) (C:AW ρ μ tm a):∀{l:List ResultVar} {is:List Sg} {vs:List Aa},B6 (l.map (G0 P))=some is->Abv tm h is=some vs->∃us:List Value,(l.mapM (J3 a.tmps)).run P w=.ok us w/\A9 ρ μ vs us
 |[],is,vs,hc,j=>by
  simp only [List.map_nil,B6,oI]at hc
  subst hc
  have j:some []=some vs:=j
  simp only [oI]at j
  subst j
  exact ⟨[],by simp,by simp only [A9]⟩
 |x::l,is,vs,hc,j=>by
  have q:=Dm hc
  cases is with
  |nil=>simp at q
  |cons i is=>
   simp only [List.map_cons,List.cons.injEq]at q
   obtain ⟨N,z⟩:=q
   have I:B6 (l.map (G0 P))=some is:=by
    rw [z]
    clear z hc j
    induction is with
    |nil=>rfl
    |cons x r ih=>simp only [List.map_cons,B6,ih,Option.map_some]
   rw [XK]at j
   obtain ⟨v,A,j⟩:=Ac j
   obtain ⟨Q,B,j⟩:=Ac j
   simp only [oI]at j
   subst j
   obtain ⟨u,L,O⟩:=QH H C N A
   obtain ⟨us,J,M⟩:=Mx H C I B
   refine ⟨u::us,?_,?_⟩
   ·rw [List.mapM_cons]
    simp [L,J]
   ·simp only [A9]
    exact ⟨_,_,rfl,O,M⟩
theorem FE (H:AJ ρ μ h w) (A:AW ρ μ tm a) {fn:Func} {is:List Sg} (hc:B6 (fn.results.toList.map (G0 P))=some is) {vs:List Aa} (z:Abv tm h is=some vs):∃u,(results fn a.tmps).run P w=.ok u w/\Ah ρ μ (oneOf vs) u:=by
 obtain ⟨us,B,j⟩:=Mx H A hc z
 have x:(fn.results.mapM (J3 a.tmps)).run P w=.ok us.toArray w:=by
  rw [Array.mapM_eq_mapM_toList]
  simp [B]
 have e:results fn a.tmps=(do
   let vs<-fn.results.mapM (J3 a.tmps)
   pure (if h:vs.size=1 then vs[0]else .tuple vs)):=by
  unfold results
  congr 2
 rw [e]
 refine ⟨(if h:us.toArray.size=1 then us.toArray[0]else .tuple us.toArray),by simp only [Sem.run_bind,x,Result.andThen_ok,Sem.run_pure],?_⟩
 cases vs with
 |nil=>
  simp only [A9]at j
  subst j
  simp only [oneOf,Ah]
  exact ⟨#[],by simp,by simp only [A9]⟩
 |cons v vs=>
  cases vs with
  |nil=>
   simp only [A9]at j
   obtain ⟨u,_,rfl,C,rfl⟩:=j
   simpa [oneOf]using C
  |cons v' vs=>
   have q:=j
   simp only [A9]at q
   obtain ⟨u,_,rfl,_,I,r,rfl,_⟩:=q
   simp only [oneOf,Ah]
   exact ⟨(u::I::r).toArray,by simp,j⟩
end
end
section
section
variable {P:Program} {Γ:Ao} {ρ:Env} {μ:Aq} {tm:Tr Aa} {a:Act} {w:World} {h:Ak} {pl:List Cq} {call:Co} {dcall:Sh} {fuel:Nat}
def Fl (ρ:Env) (μ:Aq):CE->FrameMode->Prop
 |.returning,u=>u=.returning
 |.panicking v,u=>∃x,u=.panicking (Io x)/\Ah ρ μ v x
theorem Fl.mono {q:Aq} (hl:μ.le q) {m:CE} {u:FrameMode} (j:Fl ρ μ m u):Fl ρ q m u:=by
 cases m with
 |returning=>exact j
 |panicking v=>obtain ⟨x,e,z⟩:=j;exact ⟨x,e,z.mono hl⟩
theorem Fl.settle {m:CE} {u:FrameMode} (j:Fl ρ μ m u):settle u=u:=by
 cases m with
 |returning=>have j:u=.returning:=j;subst j;rfl
 |panicking v=>obtain ⟨x,rfl,q⟩:=j;rfl
theorem Fl.AhT {m:CE} {u:FrameMode} (j:Fl ρ μ m u):u≠.run:=by
 cases m with
 |returning=>have j:u=.returning:=j;subst j;simp
 |panicking v=>obtain ⟨x,rfl,q⟩:=j;simp
def Zc (ρ:Env) (μ:Aq) (h:Ak) (w:World) (x:CE) (q:Ak) (e:Ending) (z:FrameMode) (w':World):Prop:=
 ∃j,Au ρ μ h w j q w'/\Fl ρ j x (Go.settle z)/\∃v,e=.returned v
def Wa (P:Program) (ρ:Env) (dcall:Sh):Prop:=
 ∀g args m h v q,dcall g args m h=some (v,q)->Kg P g/\∀μ w (j:Array Value) u,AJ ρ μ h w->A9 ρ μ args j.toList->Fl ρ μ m u->CallsD P g j u w (Zc ρ μ h w v q)
theorem Th (d:FuncId×List Aa) (ds:List (FuncId×List Aa)) (m:CE) (h:Ak):Rg dcall (d::ds) m h=AD (dcall d.1 d.2 m h) fun r=>Rg dcall ds r.1 r.2:=rfl
theorem Lp (hd:Wa P ρ dcall) {fn:Func} {tmps:Array Value} {R:Ending->World->Prop}:∀(ds:List (FuncId×List Aa)) {cs:List Deferred} {μ:Aq} {m:CE} {u:FrameMode} {h:Ak} {w:World} {r:CE×Ak},
  Rg dcall ds m h=some r->C6 ρ μ ds cs->AJ ρ μ h w->Fl ρ μ m u->(∀B w' A,Au ρ μ h w B r.2 w'->Fl ρ B r.1 A->Leaves P fn tmps R [] A w')->Leaves P fn tmps R cs u w
 |[],cs,μ,m,u,h,w,r,j,q,H,hm,hR=>by
  have j:some (m,h)=some r:=j
  simp only [oI]at j
  subst j
  have q:cs=[]:=q
  subst q
  exact hR μ w u (Au.refl H) hm
 |d::ds,cs,μ,m,u,h,w,r,j,q,H,hm,hR=>by
  rw [Th]at j
  obtain ⟨⟨m1,X⟩,Q,j⟩:=Ac j
  obtain ⟨c,rest,rfl,⟨cap,J,O⟩,x⟩:=q
  obtain ⟨hf,z⟩:=hd _ _ _ _ _ _ Q
  refine ⟨hm.AhT,.func d.1,cap,d.1,c.args++cap,J,?_,?_⟩
  ·rw [J]
   simp only [invoke]
   exact GO hf _
  ·refine CallsD.mono (z μ w (c.args++cap) u H O hm) fun e A w' V=>?_
   obtain ⟨B,g,I,v,rfl⟩:=V
   exact Lp hd ds j (x.mono g.le) g.rel I fun L N M U C=>hR L N M (g.trans U) C
theorem DR {fn:Func} {F:E4} (hc:EJ P pl fn=some F):∃c,fn.body=some c/\AV P pl fn.ntmps c=some F.body/\B6 (fn.results.toList.map (G0 P))=some F.results:=by
 unfold EJ at hc
 split at hc
 ·cases hc
 ·rename_i c hb
  split at hc
  ·rename_i body results q j
   simp only [oI]at hc
   subst hc
   exact ⟨c,hb,q,j⟩
  ·cases hc
theorem Kp {F:E4} {args:List Aa} {j:Array Value} (H:AJ ρ μ h w) (q:A9 ρ μ args j.toList) (n:Nat):CM ρ μ n (Hr F args h) {tmps:=j++Array.replicate (n-j.size) undef,defers:=[]} w:=
 ⟨AcX q _,by simp;omega,H,rfl⟩
theorem ND (hΓ:Γ.AI ρ) (hc:BC P ρ call) (hd:Wa P ρ dcall) (N:P.follows .mixedOrders=true) {g:FuncId} {fn:Func} (hf:P.funcs[g]?=some fn) {F:E4} (L:EJ P pl fn=some F) (hL:∀c,fn.body=some c->Dz P ρ fn.ntmps Γ.loops 0 c) {args:List Aa} {r:NT} {O:Ak}
  (j:PE Γ call dcall fuel F args h=some (r,O)) {I:Array Value} (H:AJ ρ μ h w) (hv:A9 ρ μ args I.toList):Calls P g I w fun e w'=>∃B,Au ρ μ h w B O w'/\KY ρ B r e:=by
 obtain ⟨c,hb,X,ab⟩:=DR L
 unfold PE at j
 obtain ⟨x,Z,j⟩:=Ac j
 obtain ⟨m,q,j⟩:=Ac j
 obtain ⟨y,V,j⟩:=Ac j
 refine calls_of_wp_defers hf hb (HK hΓ hc N c (hL c hb) X Z (Kp H hv fn.ntmps) ?_)
 intro B Y w' e Q J C
 have J:Au ρ μ h w B x.2.h w':=J
 have fin:∀u,Fl ρ B m u->Leaves P fn Y.tmps (fun e w'=>∃B,Au ρ μ h w B O w'/\KY ρ B r e) Y.defers u w':=fun u hm=>by
  refine Lp hd x.2.df V Q.defs Q.heap hm fun M aj aa g2 A=>?_
  unfold AeU at j
  split at j
  ·rename_i U
   obtain ⟨vs,ac,j⟩:=Ac j
   simp only [oI,Prod.mk.injEq]at j
   obtain ⟨rfl,rfl⟩:=j
   rw [U]at A
   have A:aa=.returning:=A
   subst A
   obtain ⟨v,h1,h2⟩:=FE g2.rel (Q.tmps.mono g2.le) ab ac
   exact ⟨v,h1,M,J.trans g2,h2⟩
  ·rename_i v U
   simp only [oI,Prod.mk.injEq]at j
   obtain ⟨rfl,rfl⟩:=j
   rw [U]at A
   obtain ⟨z,rfl,R⟩:=A
   exact ⟨M,J.trans g2,z,rfl,R⟩
 obtain ⟨x1,x2⟩:=x
 cases x1 with
 |normal=>
  have C:e=.normal:=C
  subst C
  simp only [Ra,oI]at q
  subst q
  exact fin .returning rfl
 |ret=>
  have C:e=.ret:=C
  subst C
  simp only [Ra,oI]at q
  subst q
  exact fin .returning rfl
 |exit i=>cases q
 |panic v=>
  obtain ⟨z,rfl,R⟩:=C
  simp only [Ra,oI]at q
  subst q
  exact fin _ ⟨z,rfl,R⟩
theorem P7 {m z:CE} {r:Bc×Fr} {x:Ak} (j:FZ m r=some (z,x)):z=m/\x=r.2.h/\r.2.df=[]/\(r.1=.normal∨r.1=.ret):=by
 unfold FZ at j
 split at j
 ·rename_i q v
  simp only [oI,Prod.mk.injEq]at j
  exact ⟨j.1.symm,j.2.symm,v,.inl q⟩
 ·rename_i q v
  simp only [oI,Prod.mk.injEq]at j
  exact ⟨j.1.symm,j.2.symm,v,.inr q⟩
 ·cases j
theorem TG (hΓ:Γ.AI ρ) (h0:Γ.loops=[]) (hc:BC P ρ call) (L:P.follows .mixedOrders=true) {g:FuncId} {fn:Func} (hf:P.funcs[g]?=some fn) {F:E4} (I:EJ P pl fn=some F) (O:F.results=[]) {args:List Aa} {m Z:CE} {X:Ak} {x:Bc×Fr}
  (Y:exec Γ call fuel F.body (Hr F args h)=some x) (hx:FZ m x=some (Z,X)) {A:Array Value} {u:FrameMode} (H:AJ ρ μ h w) (hv:A9 ρ μ args A.toList) (hm:Fl ρ μ m u):CallsD P g A u w (Zc ρ μ h w Z X):=by
 obtain ⟨c,hb,U,J⟩:=DR I
 obtain ⟨rfl,rfl,Q,B⟩:=P7 hx
 refine CallsD.mono (callsD_of_wp (R:=fun e w'=>∃q,Au ρ μ h w q x.2.h w'/\∃v,e=.returned v) hf hb (Ni hΓ h0 hc L c U Y (Kp H hv fn.ntmps) ?_)) fun e u' w' j=>?_
 ·intro q N w' e M C j
  have C:Au ρ μ h w q x.2.h w':=C
  have z:=M.defs
  rw [Q]at z
  have z:N.defers=[]:=z
  rw [O]at J
  obtain ⟨v,h1,_⟩:=FE (vs:=[]) M.heap M.tmps J rfl
  have fin:N.defers=[]/\∃v,(results fn N.tmps).run P w'=.ok v w'/\∃q,Au ρ μ h w q x.2.h w'/\∃v',Ending.returned v=.returned v':=⟨z,v,h1,q,C,v,rfl⟩
  rcases B with B|B<;>rw [B]at j
  ·have j:e=.normal:=j
   subst j
   exact fin
  ·have j:e=.ret:=j
   subst j
   exact fin
 ·obtain ⟨rfl,q,C,V⟩:=j
  exact ⟨q,C,by rw [hm.settle];exact hm.mono C.le,V⟩
theorem SO {o:Oper} (hc:Ds P pl o=some (.m .recover)):(execOp a.eval o).run P w=.ok .recover w:=by
 cases hop:o.op<;>simp only [Ds,hop,reduceCtorEq,oI]at hc
 case call c=>
  unfold Ff at hc
  split at hc
  ·split at hc
   ·split at hc
    ·simp at hc
    ·split at hc
     ·split at hc<;>simp at hc
     ·split at hc
      ·split at hc<;>simp at hc
      ·cases hc
   ·cases hc
  ·simp at hc
  ·cases hc
  ·rename_i b hb
   split at hc
   ·split at hc<;>simp at hc
   ·exfalso
    unfold EK at hc
    split at hc<;>first|cases hc|skip
    all_goals (split at hc<;>first|(cases hc;done) |(split at hc<;>simp at hc))
   ·exfalso
    split at hc<;>first|(cases hc;done) |(obtain ⟨_,_,e⟩:=mS hc;cases e)
   ·simp at hc
   ·simp at hc
   ·rename_i q
    have v:c.args=#[]:=by rw [<-Array.toList_inj];simpa using q
    simp [execOp,hop,resolve,hb,v,invoke,builtin]
   ·simp at hc
   ·exfalso
    split at hc
    ·split at hc<;>simp at hc
    ·cases hc
   ·cases hc
 case convert s d x=>
  rcases CH hc with ⟨k0,k,hs,hd,e⟩|⟨hs,hd,e⟩|⟨t,n,hs,hd,hn,e⟩|⟨u,n,hs,hd,hn,e⟩|⟨el,hs,he,hd,e⟩<;>cases e
 case typeAssert x xt t ok=>
  obtain ⟨d,i,z,C,hd,A,H,e⟩:=Ci hc
  cases e
 case defer c=>
  obtain ⟨j,args,B⟩:=c
  cases j<;>simp at hc
 case makeFunc fn x c=>cases fn<;>simp at hc
 case binOp op t x y yt=>obtain ⟨_,_,e⟩:=mS hc;cases e
 case slice t x lo A mx=>
  exfalso
  split at hc
  ·simp at hc
  ·obtain ⟨_,_,e⟩:=mS hc;cases e
  ·split at hc
   ·obtain ⟨_,_,e⟩:=mS hc;cases e
   ·cases hc
  ·cases hc
 case build t parts=>
  exfalso
  split at hc
  ·split at hc
   ·obtain ⟨_,_,e⟩:=mS hc;cases e
   ·cases hc
  ·obtain ⟨_,_,hc⟩:=Option.bind_eq_some_iff.1 hc
   obtain ⟨_,_,e⟩:=mS hc;cases e
  ·cases hc
 case fieldAddr t x f=>
  exfalso
  split at hc
  ·obtain ⟨_,_,hc⟩:=Option.bind_eq_some_iff.1 hc
   split at hc<;>simp at hc
  ·cases hc
 case field t x f=>
  exfalso
  split at hc
  ·obtain ⟨_,_,hc⟩:=Option.bind_eq_some_iff.1 hc
   obtain ⟨_,_,e⟩:=mS hc;cases e
  ·cases hc
 all_goals
  exfalso
  first
   |(cases hc;done)
   |(split at hc<;>first|(cases hc;done) |(simp at hc;done) |(obtain ⟨_,_,e⟩:=mS hc;cases e;done) |(split at hc<;>first|(cases hc;done) |(simp at hc;done) |(obtain ⟨_,_,e⟩:=mS hc;cases e;done) |(split at hc<;>first|(cases hc;done) |(simp at hc;done) |(obtain ⟨_,_,e⟩:=mS hc;cases e;done))))
   |(obtain ⟨_,_,e⟩:=mS hc;cases e;done)
theorem Mr (hΓ:Γ.AI ρ) (hc:BC P ρ call) {nt:Nat} {B:Array Oper} {cs:List Frame} {Q:Exit->Act->List Frame->World->Prop}:∀(l:List Oper) (q:List Step) (k:Nat) {μ:Aq} {a:Act} {w:World} {f:Fr} {r:Cc},(∀j,l[j]?=B[k+j]?)->B6 (l.map fun o=>stepOf P pl nt B o 0)=some q->
  UD Γ call q f=some r->CM ρ μ nt f a w->Dr ρ nt μ f.h w (fun e C w'=>Q e C cs w') (FH r)->wpOpsS P B Q (List.range' k l.length) a cs w
 |[],q,k,μ,a,w,f,r,hl,hs,A,F,L=>by
  simp only [List.map_nil,B6,oI]at hs
  subst hs
  have A:some (Cc.go f)=some r:=A
  simp only [oI]at A
  subst A
  exact L μ a w .normal F (Au.refl F.heap) rfl
 |o::l,q,k,μ,a,w,f,r,hl,hs,A,F,L=>by
  have H:=Dm hs
  cases q with
  |nil=>simp at H
  |cons s q=>
   simp only [List.map_cons,List.cons.injEq]at H
   obtain ⟨X,N⟩:=H
   have V:B6 (l.map fun o=>stepOf P pl nt B o 0)=some q:=by
    rw [N]
    clear N A hs
    induction q with
    |nil=>rfl
    |cons x r ih=>simp only [List.map_cons,B6,ih,Option.map_some]
   rw [OM]at A
   obtain ⟨x,Z,A⟩:=Ac A
   have Y:B[k]?=some o:=by simpa using (hl 0).symm
   have U:∀j,l[j]?=B[k+1+j]?:=fun j=>by simpa [Nat.add_assoc,Nat.add_comm 1 j]using hl (j+1)
   rw [lC,List.range'_succ]
   have O:VZ ρ nt μ f.h a w (fun C w'=>wpOpsS P B Q (List.range' (k+1) l.length) C cs w') (fun e C w'=>Q e C cs w') x:=by
    cases x with
    |go f'=>exact fun R C w' I g=>Mr hΓ hc l q (k+1) U V A I (L.grow g)
    |panic v f'=>
     simp only [goes,oI]at A
     subst A
     exact fun R u w' I g hv=>L R a w' _ I g ⟨u,rfl,hv⟩
   have z:=OH hΓ hc F (Ft X) Z O
   unfold wpOpsS
   rw [Y]
   simp only
   split
   ·rename_i J
    rw [if_pos J]at z
    unfold Oper.wp at z
    split
    ·rename_i w' M
     rw [M]at z
     exact z.elim
    ·exact z
   ·rename_i J
    rw [if_neg J]at z
    exact z
theorem QL {m:CE} {c₀:Frame} {cs:List Frame} (j:Fl ρ μ m c₀.mode):
  ∃v q,(match recoverD (c₀::cs)with|some (v,cs')=>(v,cs') |none=>(.nilIface,c₀::cs))=(v,{c₀ with mode:=q}::cs)/\settle q=.returning/\Ah ρ μ (recovered m) v:=by
 cases m with
 |returning=>
  have j:c₀.mode=.returning:=j
  refine ⟨.nilIface,c₀.mode,?_,by rw [j];rfl,by simp only [recovered,Ah]⟩
  have e:recoverD (c₀::cs)=none:=by simp [recoverD,j]
  rw [e]
 |panicking v=>
  obtain ⟨x,A,z⟩:=j
  refine ⟨x,.panicking [{v:=x,recovered:=true}],?_,rfl,z⟩
  simp [recoverD,A,Io]
theorem O2 (hΓ:Γ.AI ρ) (h0:Γ.loops=[]) (hc:BC P ρ call) (ac:P.follows .mixedOrders=true) {g:FuncId} {fn:Func} (hf:P.funcs[g]?=some fn) {F:E4} (Z:EJ P pl fn=some F) (ae:F.results=[]) {dst:Option Nat} {bk:Nat} {A:List Step} {rest:IC}
  (Q:F.body=.seq (.region false (⟨dst,none,.m .recover,bk⟩::A)) rest) {args:List Aa} {m m':CE} {h':Ak} {r:Cc} {x:Bc×Fr}
  (hr:UD Γ call A ⟨DM (Hr F args h).tm dst (recovered m),h,[]⟩=some r) (I:(andThen (FH r) fun f=>exec Γ call fuel rest f)=some x) (hx:FZ .returning x=some (m',h')) {z:Array Value} {u:FrameMode} (H:AJ ρ μ h w) (hv:A9 ρ μ args z.toList) (hm:Fl ρ μ m u):
  CallsD P g z u w (Zc ρ μ h w m' h'):=by
 obtain ⟨c,hb,q,ab⟩:=DR Z
 obtain ⟨rfl,rfl,ao,C⟩:=P7 hx
 rw [Q]at q
 cases c<;>simp only [AV,reduceCtorEq,oI]at q
 case region=>obtain ⟨_,_,e⟩:=mS q;cases e
 case cond=>split at q<;>simp at q
 case block=>obtain ⟨_,_,e⟩:=mS q;cases e
 case loop=>obtain ⟨_,_,e⟩:=mS q;cases e
 case seq c1 c2=>
  split at q
  case h_2=>cases q
  rename_i i1 i2 L h2
  simp only [oI,IC.seq.injEq]at q
  obtain ⟨rfl,rfl⟩:=q
  cases c1<;>simp only [AV,reduceCtorEq,oI]at L
  case seq=>split at L<;>simp at L
  case cond=>split at L<;>simp at L
  case block=>obtain ⟨_,_,e⟩:=mS L;cases e
  case loop=>obtain ⟨_,_,e⟩:=mS L;cases e
  case region id ops draw=>
   obtain ⟨st,U,e⟩:=mS L
   simp only [IC.region.injEq]at e
   obtain ⟨rfl,rfl⟩:=e
   simp only [GA,Bool.false_eq_true,if_false]at U
   have J:=Dm U
   generalize hol:ops.toList=ol at U J
   cases ol with
   |nil=>simp at J
   |cons o l=>
    simp only [List.map_cons,List.cons.injEq]at J
    obtain ⟨k1,k2⟩:=J
    have al:B6 (l.map fun o=>stepOf P pl fn.ntmps ops o 0)=some A:=by
     rw [k2]
     clear k2 hr U Q L
     induction A with
     |nil=>rfl
     |cons x r ih=>simp only [List.map_cons,B6,ih,Option.map_some]
    have M:=Ft k1
    have R:∀j:Nat,(o::l)[j]?=ops[j]?:=fun j=>by rw [<-hol,Array.getElem?_toList]
    have ho:ops[0]?=some o:=by simpa using (R 0).symm
    have aj:ops.size=l.length+1:=by
     have:=cL hol
     simpa using this
    refine callsD_of_wpS hf hb fun c₀ cs hu=>wpS_seq (wpS_region ?_)
    rw [List.range_eq_range',aj,List.range'_succ]
    have F0:=Kp (F:=F) H hv fn.ntmps
    unfold wpOpsS
    rw [ho]
    simp only
    rw [EE F0.tmps M.guard (fun d b e=>Nat.lt_of_lt_of_le (M.seen d b e) F0.size) (b:=true) rfl]
    simp only [if_true]
    rw [SO M.op]
    simp only
    obtain ⟨v,u',B,ah,ap⟩:=QL (c₀:=c₀) (cs:=cs) (m:=m) (ρ:=ρ) (μ:=μ) (by rw [hu];exact hm)
    have F1:CM ρ μ fn.ntmps ⟨DM (Hr F args h).tm dst (recovered m),h,[]⟩ (Act.put {tmps:=z++Array.replicate (fn.ntmps-z.size) undef,defers:=[]} o.dst v) w:=by
     have:=F0.put (d:=o.dst) μ.le_refl F0.heap M.small ap
     rw [<-M.dst]at this⊢
     exact this
    have V:wpOpsS P ops (Exit.thenS (c2.wpS P (bodyPostS P fn c₀ cs (Zc ρ μ h w .returning x.2.h))) (bodyPostS P fn c₀ cs (Zc ρ μ h w .returning x.2.h))) (List.range' 1 l.length)
      (Act.put {tmps:=z++Array.replicate (fn.ntmps-z.size) undef,defers:=[]} o.dst v) ({c₀ with mode:=u'}::cs) w:=by
     refine Mr hΓ hc l A 1 (fun j=>by have:=R (j+1);simpa [Nat.add_comm 1 j]using this) al hr F1 ?_
     intro μ1 a1 w1 e1 F2 g1 X
     have g1:Au ρ μ h w μ1 (FH r).2.h w1:=g1
     cases r with
     |panic v f'=>
      exfalso
      have I:some (Bc.panic v,f')=some x:=I
      simp only [oI]at I
      subst I
      rcases C with C|C<;>cases C
     |go f'=>
     have X:e1=.normal:=X
     subst X
     have I:exec Γ call fuel i2 f'=some x:=I
     refine wpS_of_wp (Ni hΓ h0 hc ac c2 h2 I F2 ?_)
     intro μ' Y w' e F' g' N
     have g':Au ρ μ h w μ' x.2.h w':=g1.trans g'
     have O:=F'.defs
     rw [ao]at O
     have O:Y.defers=[]:=O
     rw [ae]at ab
     obtain ⟨vr,r1,_⟩:=FE (vs:=[]) F'.heap F'.tmps ab rfl
     have fin:Y.defers=[]/\∃u2,({c₀ with mode:=u'}::cs:List Frame)={c₀ with mode:=u2}::cs/\∃v,(results fn Y.tmps).run P w'=.ok v w'/\Zc ρ μ h w .returning x.2.h (.returned v) u2 w':=
      ⟨O,u',rfl,vr,r1,μ',g',by rw [ah];rfl,vr,rfl⟩
     rcases C with C|C<;>rw [C]at N
     ·have N:e=.normal:=N
      subst N
      exact fin
     ·have N:e=.ret:=N
      subst N
      exact fin
    cases hrd:recoverD (c₀::cs)with
    |none=>
     rw [hrd]at B
     simp only [Prod.mk.injEq]at B
     obtain ⟨rfl,av⟩:=B
     simp only
     rw [av]
     exact V
    |some p=>
     obtain ⟨pv,aN⟩:=p
     rw [hrd]at B
     simp only [Prod.mk.injEq]at B
     obtain ⟨rfl,rfl⟩:=B
     exact V
def PI (P:Program) (pl:List Cq) (DG:FuncId->Option E4):Prop:=
 ∀g F,DG g=some F->∃fn,P.funcs[g]?=some fn/\EJ P pl fn=some F/\(fn.name== "runtime.NumGoroutine")=false
theorem Kg.QX {g:FuncId} {fn:Func} {F:E4} (hf:P.funcs[g]?=some fn) (j:EJ P pl fn=some F) (q:(fn.name== "runtime.NumGoroutine")=false):Kg P g:=by
 obtain ⟨c,hb,_⟩:=DR j
 exact ⟨fn,hf,by rw [hb];rfl,q⟩
theorem OK (hΓ:Γ.AI ρ) (J:Γ.loops=[]) (hc:BC P ρ call) (z:P.follows .mixedOrders=true) {DG:FuncId->Option E4} (R:PI P pl DG):Wa P ρ fun f args m h=>AD (DG f) fun F=>KT Γ call fuel F args m h:=by
 intro g args m h Z Y v
 obtain ⟨F,U,v⟩:=Ac v
 obtain ⟨fn,hf,j,X⟩:=R g F U
 refine ⟨Kg.QX hf j X,fun μ w Q u H N M=>?_⟩
 unfold KT at v
 split at v
 ·rename_i dst bk O rest B q
  obtain ⟨r,V,C⟩:=Ac v
  obtain ⟨x,A,L⟩:=Ac C
  exact O2 hΓ J hc z hf j q B V A L H N M
 ·rename_i q _
  obtain ⟨x,A,I⟩:=Ac v
  exact TG hΓ J hc z hf j q A I H N M
 ·cases v
def Cy (P:Program) (ρ:Env) (f:FuncId) (o:Bm):Prop:=
 ∀args h r q,o args h=some (r,q)->Kg P f/\∀μ w (j:Array Value),AJ ρ μ h w->A9 ρ μ args j.toList->
  Calls P f j w fun e w'=>∃v,Au ρ μ h w v q w'/\KY ρ v r e
theorem HU (hΓ:Γ.AI ρ) (I:Γ.loops=[]) (x:P.follows .mixedOrders=true) {DG:FuncId->Option E4} (J:PI P pl DG) {q:FuncId->Option Bm} (B:∀f o,q f=some o->Cy P ρ f o):∀d:Nat,BC P ρ (Ly Γ q DG fuel d)
 |0=>fun g args h r A j=>by cases j
 |d+1=>fun g args h r A j=>by
  have ih:=HU hΓ I x J B d
  have j:QU (q g) args h (fun _=>AD (DG g) fun F=>PE Γ (Ly Γ q DG fuel d) (fun f args m h=>AD (DG f) fun F=>KT Γ (Ly Γ q DG fuel d) fuel F args m h) fuel F args h)=some (r,A):=j
  have C:(AD (DG g) fun F=>PE Γ (Ly Γ q DG fuel d) (fun f args m h=>AD (DG f) fun F=>KT Γ (Ly Γ q DG fuel d) fuel F args m h) fuel F args h)=some (r,A)->Kg P g/\∀μ w (v:Array Value),AJ ρ μ h w->A9 ρ μ args v.toList->
    Calls P g v w fun e w'=>∃M,Au ρ μ h w M A w'/\KY ρ M r e:=fun j=>by
   obtain ⟨F,N,j⟩:=Ac j
   obtain ⟨fn,hf,z,Q⟩:=J g F N
   exact ⟨Kg.QX hf z Q,fun μ w v H R=>ND hΓ ih (OK hΓ I ih x J) x hf z (fun c _=>by rw [I];exact Dz.none) j H R⟩
  unfold QU at j
  split at j
  ·rename_i o O
   split at j
   ·rename_i U L
    simp only [oI]at j
    subst j
    exact B g o O args h r A L
   ·exact C j
  ·exact C j
theorem Ao.AI.bare {Γ:Ao} {ρ:Env} (h:Γ.AI ρ):Γ.bare.AI ρ:=⟨h.DN,h.tests,h.strs,h.EA,h.BT,h.Bs,h.elems,h.defs,h.looks,h.L8,h.CC,h.CA⟩
theorem Ue (hΓ:Γ.AI ρ) (j:P.follows .mixedOrders=true) {DG:FuncId->Option E4} (z:PI P pl DG) {x:FuncId->Option Bm} (A:∀f o,x f=some o->Cy P ρ f o) (d:Nat) {g:FuncId}
  (C:∀fn c,P.funcs[g]?=some fn->fn.body=some c->Dz P ρ fn.ntmps Γ.loops 0 c):Cy P ρ g (Af7 Γ x DG fuel d g):=by
 intro args h r M v
 unfold Af7 at v
 obtain ⟨F,I,v⟩:=Ac v
 obtain ⟨fn,hf,q,J⟩:=z g F I
 have ih:=HU hΓ.bare rfl j z A d (fuel:=fuel)
 exact ⟨Kg.QX hf q J,fun μ w B H L=>ND hΓ ih (OK hΓ.bare rfl ih j z) j hf q (fun c hc=>C fn c hf hc) v H L⟩
end
end
section
open Go.ChangeShapes Go.WideShapes Go.ChangeAt Go.RowKit
def Kept (W w':World):Prop:=W.keptBut w' (fun _=>False)/\(∀b j,b<W.heap.size->w'.frozen? ⟨b,j,none⟩=W.frozen? ⟨b,j,none⟩)/\W.heap.size<=w'.heap.size
theorem Kept.of_same {W w':World} (j:∀r,r<W.heap.size->w'.heap[r]?=W.heap[r]?) (hs:W.heap.size<=w'.heap.size) (v:w'.os=W.os) (q:w'.output=W.output):Kept W w':=by
 refine ⟨⟨v,q,fun i x=>?_⟩,fun b z hb=>?_,hs⟩
 ·rw [j i x]
  cases W.heap[i]? with
  |none=>trivial
  |some o=>cases o<;>simp
 ·unfold World.frozen?
  simp only [j b hb]
theorem Kept.frame {W w':World} (h:Kept W w') (ps:List MemPlace):W.keptBut w' (·∈ps):=World.keptBut_mono (fun _ h=>h.elim) h.1
section
variable {H:Type} {enc:TypeId×Value->H} {P:Program}
theorem QM {f:Func} {s:ChangeSpec} {apart fresh C O:Bool} {W B:World} {args:Array Value} {v:Value} {ds I:List (DataW H)} {before L pv:List MemPlace}
  (Q:DataW.Whole enc P f.params.toList s.vars apart W args.toList ds I before)
  (J:∀(b:Nat) (sp:Nat->Bool) (hd:Bool),DataW.TrodAll enc P B b sp hd f.resultTypes.toList (v.resultList f.resultTypes.size) (s.fn H (ds++I)).results [])
  (x:∀sp:Nat->Bool,(∀p∈before,sp p.block=true)->DataW.TrodAll enc P B 0 sp true f.params.toList args.toList (s.fn H (ds++I)).args L)
  (z:∀sp:Nat->Bool,(∀p∈before,sp p.block=true)->DataW.TrodVars enc P B sp s.vars (s.fn H (ds++I)).vars pv)
  (A:before=L++pv) (V:Kept W B)
  (R:∀(j:Nat) (t:TypeId) (r:Value),f.resultTypes[j]?=some t->(v.resultList f.resultTypes.size)[j]?=some r->Value.okWide P B .any 0 t r):
  s.post enc P f apart fresh C O W args v B:=by
 have M:∀p∈before,(fun b=>decide (b<W.heap.size)) p.block=true:=fun p q=>by simpa using Q.lt p q
 have U:=Q.lt
 refine ⟨ds,I,before,[],L,pv,Q,J _ _ _,x _ M,z _ M,World.keptBut_mono (fun p q=>⟨q,?_⟩) (V.frame before),fun _=>?_⟩
 ·rw [A,List.mem_append]at q
  exact Or.inr q
 ·obtain ⟨_,_,_,_,_,X,Y⟩:=Q
  refine ⟨R,_,_,([]++L)++pv,⟨[]++L,pv,trodAll_append (x _ (fun _ _=>rfl)) (J _ _ _),z _ (fun _ _=>rfl),rfl,?_,?_⟩,?_⟩
  ·intro b N q
   have hb:MemPlace.cell b N∈before:=by rw [A];simpa using q
   rw [V.2.1 b N (U _ hb)]
   exact X b N hb
  ·intro ha
   have:=Y ha
   rw [A]at this
   simpa using this
  ·intro p q _
   rw [A]
   simpa using q
end
theorem Au.idle {ρ:Env} {μ:Aq} {h:Ak} {w w':World} (H:AJ ρ μ h w) (z:∀r,r<w.heap.size->w'.heap[r]?=w.heap[r]?) (hs:w.heap.size<=w'.heap.size) (C:w'.os=w.os) (A:w'.output=w.output):Au ρ μ h w μ h w':=by
 have j:∀r,r<w.heap.size->¬AN μ h r->w'.heap[r]?=w.heap[r]?/\¬AN μ h r:=fun r q v=>⟨z r q,v⟩
 refine ⟨μ.le_refl,⟨H.fresh,fun b B hb=>?_,H.inj,H.Gg j⟩,hs,j,C,A,Nat.le_refl _,fun _ _=>rfl,fun _ _ h=>.inl h,rfl⟩
 obtain ⟨r,δ,x,q⟩:=H.blk b B hb
 exact ⟨r,δ,x,by rw [z r (H.lt hb x)];exact q⟩
theorem OU {f:Nat}:∀{l:List (Nat×Bm)} {o:Bm},SX f l=some o->(f,o)∈l
 |[],o,h=>by cases h
 |x::r,o,h=>by
  have h:(bif Nat.beq x.1 f then some x.2 else SX f r)=some o:=h
  rw [AH]at h
  by_cases e:x.1=f
  ·rw [if_pos e]at h
   simp only [oI]at h
   rw [<-e,<-h]
   exact List.mem_cons_self
  ·rw [if_neg e]at h
   exact List.mem_cons_of_mem _ (OU h)
theorem PM (k:IntKind) (n:Int) (h:k.min<=n/\n<=k.max):k.wrap n=n:=by
 obtain ⟨j,q⟩:=h
 unfold IntKind.wrap
 unfold IntKind.min at j
 unfold IntKind.max at q
 cases k<;>simp [IntKind.signed,IntKind.bits]at j q⊢<;>(try split)<;>omega
theorem Sp {k:IntKind} {n:Int} (h:(Lit.int k n).wf=true):k.min<=n/\n<=k.max:=by
 simpa [Lit.wf]using h
theorem Bn {α:Type} {p:α->Prop} {x:α} {l:List α} (h:p x) (q:∀y∈l,p y):∀y∈x::l,p y:=fun y j=>by
 rcases List.mem_cons.1 j with rfl|j
 ·exact h
 ·exact q y j
end
section
def Holds (P:Program) (ρ:Env) (g:FuncId) (x:BR):Prop:=
 Kg P g/\∀μ w (j:Array Value),AJ ρ μ (AY x.pre (empty 0)) w->A9 ρ μ x.args j.toList->
  Calls P g j w fun e w'=>∃q,Au ρ μ (AY x.pre (empty 0)) w q (Cv x.post (empty 0)) w'/\KY ρ q (.ret x.res) e
theorem RM {P:Program} {ρ:Env} {g:FuncId} {x:BR} (R:Holds P ρ g x):Cy P ρ g (RN x):=by
 intro args h r h' B
 unfold RN at B
 generalize So h x.pre 0 (Wf x.args args [])=σ at B
 simp only at B
 obtain ⟨z,L⟩:=Ap B
 clear B
 unfold Afa at z
 rw [aT,aT,aT,aT]at z
 obtain ⟨j,q,X,J,N⟩:=z
 have j:=An.1 j
 rw [Dg,EO]at j
 have q:=AP.1 q
 rw [EO,Gn]at q
 have F:Fits h.fx h σ x.pre x.post.length:=⟨j,q,EX X,N⟩
 unfold AcZ at L
 obtain ⟨h1,A,Y⟩:=Ac L
 obtain ⟨v,U,M⟩:=Ac Y
 simp only [oI,Prod.mk.injEq]at M
 obtain ⟨rfl,rfl⟩:=M
 rw [EO]at A U
 rw [Gn]at A
 refine ⟨R.1,fun μ w C H O=>?_⟩
 refine (R.2 _ w C (Fits.before H.AQ.facts F H) (Gy H.AQ.facts Fits.ren J O)).mono fun e w' I=>?_
 obtain ⟨μ',Z,I⟩:=I
 obtain ⟨V,Q,R1⟩:=F.after H A Z
 refine ⟨V,Q,?_⟩
 ·cases e
  case returned u=>exact SN R1 U (show Ah ρ μ' x.res u from I)
  all_goals exact I.elim
theorem HO {P:Program} {ρ:Env} {g:FuncId}:∀{l:List BR},(∀x∈l,Holds P ρ g x)->Cy P ρ g (JW l)
 |[],_,args,h,r,h',hr=>by cases hr
 |x::l,hl,args,h,r,h',hr=>by
  have e:JW (x::l) args h=(match RN x args h with|some y=>some y|none=>JW l args h):=rfl
  rw [e]at hr
  split at hr
  ·rename_i y j
   simp only [oI]at hr
   subst hr
   exact RM (hl x List.mem_cons_self) args h r h' j
  ·exact HO (fun y j=>hl y (List.mem_cons_of_mem _ j)) args h r h' hr
end
end Go.AM
