/- Part 3 of the proof of TypesPrefix. -/
import Derived.Test.YtbmofjdmgjpfoaaGreatDoorD2
import Derived.WalkKit
import Derived.ProofKit
import Derived.OpenShut
import Derived.LoopN
import Derived.Defers
import Derived.Recover
import Derived.Laws.Sem
set_option linter.all false
section
namespace Go.AM
def CH (ρ:Env) (μ:Aq):List (FuncId×List Aa)→List Deferred→Prop
 |[],ds=>ds=[]
 |d::r,ds=>∃c rest,ds=c::rest∧KU ρ μ d c∧CH ρ μ r rest
theorem KU.mono {ρ:Env} {μ g:Aq} (h:μ.le g) {d:FuncId×List Aa} {c:Deferred} (hd:KU ρ μ d c):KU ρ g d c:=
 let ⟨cap,h1,h2⟩:=hd
 ⟨cap,h1,h2.mono h⟩
theorem CH.mono {ρ:Env} {μ d:Aq} (h:μ.le d):∀{l:List (FuncId×List Aa)} {ds:List Deferred},CH ρ μ l ds→CH ρ d l ds
 |[],_,e=>e
 |_::_,_,e=>let ⟨c,rest,e1,e2,e3⟩:=e;⟨c,rest,e1,e2.mono h,CH.mono h e3⟩
structure CV (ρ:Env) (μ:Aq) (nt:Nat) (f:Fr) (a:Act) (w:World):Prop where
 tmps:Bf ρ μ f.tm a
 size:nt≤a.tmps.size
 heap:AO ρ μ f.h w
 defs:CH ρ μ f.df a.defers
def KT (ρ:Env) (μ:Aq):NV→Ending→Prop
 |.ret v,.returned u=>Ag ρ μ v u
 |.panic v,.panicked chain=>∃u,chain=[{v:=u,recovered:=false}]∧Ag ρ μ v u
 |_,_=>False
def BM (P:Program) (ρ:Env) (call:C1):Prop:=
 ∀g args h r d,call g args h=some (r,d)→Kg P g∧∀μ w (c:Array Value),AO ρ μ h w→A9 ρ μ args c.toList→
  Calls P g c w fun e w'=>∃j,Aw ρ μ h w j d w'∧KT ρ j r e
section
variable {P:Program} {Γ:Ao} {ρ:Env} {μ:Aq} {tm:Tr Aa} {a:Act} {w:World} {h:Al} {pl:List C3} {nt:Nat} {ops:Array Oper} {call:C1}
theorem IJ:Ag ρ μ IK undef:=by
 simp only [IK,Ag]
 exact ⟨_,rfl,by simp only [A9]⟩
theorem ES (x:Bf ρ μ tm a) {o:Oper} {g:Option (Nat×Bool)} (hg:guardOf ops o.guard=some g) (hs:∀d b,g=some (d,b)→d<a.tmps.size) {b:Bool} (hb:Dk tm g=some b):Region.wanted o (yielded ops a.tmps)=b:=by
 unfold Region.wanted
 cases hog:o.guard with
 |none=>
  rw [hog]at hg
  simp only [guardOf,oI]at hg
  subst hg
  simp only [Dk,oI]at hb
  simp [←hb]
 |some jw=>
  obtain ⟨j,k⟩:=jw
  rw [hog]at hg
  simp only [guardOf]at hg
  split at hg
  ·rename_i d hd
   simp only [oI]at hg
   subst hg
   simp only [Dk]at hb
   have c:=hs d k rfl
   have hv:=x d
   unfold VA at hb
   split at hb
   ·rename_i v q
    simp only [oI]at hb
    subst hb
    rw [q]at hv
    have hv:=Ag.bool hv
    simp only [SB.den]at hv
    rw [Array.getD_eq_getD_getElem?,Array.getElem?_eq_getElem c,Option.getD_some]at hv
    have u:yielded ops a.tmps j=some v:=by
     unfold yielded
     rw [hd]
     simp [c,hv]
    simp only [u]
    cases k<;>cases v<;>rfl
   ·rename_i q
    simp only [oI]at hb
    subst hb
    rw [q]at hv
    have hv:Ag ρ μ (.tuple []) (a.tmps.getD d undef):=hv
    simp only [Ag]at hv
    obtain ⟨us,hv,y⟩:=hv
    rw [Array.getD_eq_getD_getElem?,Array.getElem?_eq_getElem c,Option.getD_some]at hv
    have u:yielded ops a.tmps j=none:=by
     unfold yielded
     rw [hd]
     simp [c,hv]
    simp only [u]
    rfl
   ·cases hb
  ·cases hg
structure NR (P:Program) (pl:List C3) (nt:Nat) (ops:Array Oper) (o:Oper) (s:Step):Prop where
 op:D6 P pl o=some s.op
 guard:guardOf ops o.guard=some s.guard
 dst:s.dst=o.dst
 small:∀d,o.dst=some d→d<nt
 seen:∀d b,s.guard=some (d,b)→d<nt
theorem F5 {o:Oper} {b:Nat} {s:Step} (h:stepOf P pl nt ops o b=some s):NR P pl nt ops o s:=by
 unfold stepOf at h
 split at h
 ·rename_i op g j k
  split at h
  ·rename_i hd
   simp only [oI]at h
   subst h
   rw [aT]at hd
   refine ⟨j,k,rfl,fun d c=>?_,fun d b c=>?_⟩
   ·have:=hd.1
    rw [c]at this
    simp only [Option.all_some]at this
    exact Nat.lt_of_lt_of_le (Nat.lt_succ_self d) (AX.1 this)
   ·have:=hd.2
    simp only at c
    rw [c]at this
    simp only [Option.all_some]at this
    exact Nat.lt_of_lt_of_le (Nat.lt_succ_self d) (AX.1 this)
  ·cases h
 ·cases h
inductive Ad8 where
 |val (v:Aa) (h:Al)
 |panic (v:Aa) (h:Al)
 |defer (g:FuncId) (args:List Aa)
def Sq (call:C1) (h:Al) (r:Hl):Option Ad8:=
 match r with
 |.val v h=>some (.val v h)
 |.call g args=>match call g args h with
  |some (.ret v,h)=>some (.val v h)
  |some (.panic v,h)=>some (.panic v h)
  |none=>none
 |.panic v=>some (.panic v h)
 |.defer g args=>some (.defer g args)
noncomputable def AcS (f:Fr) (d:Option Nat) (o:Ad8):Co:=
 match o with
 |.val v h=>KA f d v h
 |.panic v h=>.panic v ⟨f.tm,h,f.df⟩
 |.defer g args=>.go ⟨DX f.tm d .any,f.h,(g,args)::f.df⟩
theorem MJ {f:Fr} {d:Option Nat} {r:Hl} {x:Co} (hx:Afr call f d r=some x):∃o,Sq call f.h r=some o∧x=AcS f d o:=by
 unfold Afr at hx
 split at hx
 ·simp only [oI]at hx
  exact ⟨_,rfl,hx.symm⟩
 ·rename_i g args
  obtain ⟨r,k,hx⟩:=Ac hx
  simp only [oI]at hx
  subst hx
  obtain ⟨c,j⟩:=r
  cases c with
  |ret v=>exact ⟨.val v j,by simp [Sq,k],rfl⟩
  |panic v=>exact ⟨.panic v j,by simp [Sq,k],rfl⟩
 ·simp only [oI]at hx
  exact ⟨_,rfl,hx.symm⟩
 ·simp only [oI]at hx
  exact ⟨_,rfl,hx.symm⟩
def Il (u:Value):List PanicEntry:=[{v:=u,recovered:=false}]
def Aj8 (ρ:Env) (μ:Aq) (h:Al) (a:Act) (w:World) (d:Option Tmp) (K:Act→World→Prop) (Q:Exit→Act→World→Prop):Ad8→Prop
 |.val v h'=>∀c u w',Aw ρ μ h w c h' w'→Ag ρ c v u→K (a.put d u) w'
 |.panic v h'=>∀c u w',Aw ρ μ h w c h' w'→Ag ρ c v u→Q (.panic (Il u)) a w'
 |.defer g args=>∀x,KU ρ μ (g,args) x→K ({a with defers:=x::a.defers}.put d undef) w
theorem Sy (hc:BM P ρ call) (H:AO ρ μ h w) {o:Oper} {res:Hl} (hd:EJ P ρ μ h a o w res) {out:Ad8} (k:Sq call h res=some out) {K:Act→World→Prop} {Q:Exit→Act→World→Prop}
  (z:Aj8 ρ μ h a w o.dst K Q out):o.wp P a w K Q:=by
 unfold Oper.wp
 cases res with
 |val v N=>
  simp only [Sq,oI]at k
  subst k
  obtain ⟨R,u,w',A,j,O,hg,hv⟩:=hd
  rw [j]
  rcases O with rfl|⟨rfl,rfl⟩
  ·exact z A u w' hg hv
  ·exact z A undef w' hg hv
 |call g args=>
  simp only [Sq]at k
  split at k
  ·rename_i v N q
   simp only [oI]at k
   subst k
   obtain ⟨hf,C⟩:=hc _ _ _ _ _ q
   obtain ⟨x,j,D⟩:=hd hf
   rw [j]
   refine Calls.mono (C μ w x H D) fun e w' J=>?_
   obtain ⟨A,hg,y⟩:=J
   cases e with
   |returned u=>exact z A u w' hg y
   |panicked c=>exact y.elim
   |outgrown=>exact y.elim
  ·rename_i v N q
   simp only [oI]at k
   subst k
   obtain ⟨hf,C⟩:=hc _ _ _ _ _ q
   obtain ⟨x,j,D⟩:=hd hf
   rw [j]
   refine Calls.mono (C μ w x H D) fun e w' J=>?_
   obtain ⟨A,hg,y⟩:=J
   cases e with
   |returned u=>exact y.elim
   |panicked c=>
    obtain ⟨u,rfl,hv⟩:=y
    exact z A u w' hg hv
   |outgrown=>exact y.elim
  ·cases k
 |panic v=>
  simp only [Sq,oI]at k
  subst k
  obtain ⟨u,j,hv⟩:=hd
  rw [j]
  exact z μ u w (Aw.refl H) hv
 |defer g args=>
  simp only [Sq,oI]at k
  subst k
  obtain ⟨d,j,M⟩:=hd
  rw [j]
  exact z d M
def AbD (ρ:Env) (μ:Aq):Bm→Exit→Prop
 |.normal,e=>e=.normal
 |.exit i,e=>e=.exit i
 |.ret,e=>e=.ret
 |.panic v,e=>∃u,e=.panic (Il u)∧Ag ρ μ v u
def Dz (ρ:Env) (nt:Nat) (μ:Aq) (h:Al) (w:World) (Q:Exit→Act→World→Prop) (r:Bm×Fr):Prop:=
 ∀c d w' e,CV ρ c nt r.2 d w'→Aw ρ μ h w c r.2.h w'→AbD ρ c r.1 e→Q e d w'
theorem Dz.grow {d:Aq} {c:Al} {w':World} {Q:Exit→Act→World→Prop} {r:Bm×Fr} (hl:Dz ρ nt μ h w Q r) (g:Aw ρ μ h w d c w'):Dz ρ nt d c w' Q r:=
 fun _ _ _ _ hf hg j=>hl _ _ _ _ hf (g.trans hg) j
theorem Kj {Q:Exit→Act→World→Prop} {i:Nat} {o:Oper} {K:Act→World→Prop} (d:ops[i]?=some o)
  (h:if Region.wanted o (yielded ops a.tmps)then o.wp P a w K Q else K (a.put o.dst undef) w):wpOp P ops Q i K a w:=by
 unfold wpOp
 rw [d]
 simp only
 split
 ·rename_i c
  rw [if_pos c]at h
  exact .inl h
 ·rename_i c
  rw [if_neg c]at h
  exact h
theorem CV.put {c:Aq} {f:Fr} {j:Al} {w':World} (F:CV ρ μ nt f a w) (g:μ.le c) (H:AO ρ c j w') {d:Option Tmp} (hd:∀t,d=some t→t<nt) {v:Aa} {u:Value} (hv:Ag ρ c v u):CV ρ c nt ⟨DX f.tm d v,j,f.df⟩ (a.put d u) w':=
 ⟨(F.tmps.mono g).put (fun t e=>Nat.lt_of_lt_of_le (hd t e) F.size) hv,by rw [Act.Mt];exact F.size,H,by
  have:(a.put d u).defers=a.defers:=by cases d<;>rfl
  rw [this];exact F.defs.mono g⟩
def Vu (ρ:Env) (nt:Nat) (μ:Aq) (h:Al) (a:Act) (w:World) (K:Act→World→Prop) (Q:Exit→Act→World→Prop):Co→Prop
 |.go f'=>∀c d w',CV ρ c nt f' d w'→Aw ρ μ h w c f'.h w'→K d w'
 |.panic v f'=>∀c u w',CV ρ c nt f' a w'→Aw ρ μ h w c f'.h w'→Ag ρ c v u→Q (.panic (Il u)) a w'
theorem OL (J:Γ.AL ρ) (hc:BM P ρ call) {f:Fr} (F:CV ρ μ nt f a w) {o:Oper} {s:Step} (hs:NR P pl nt ops o s) {r:Co} (j:I7 Γ call s f=some r) {K:Act→World→Prop} {Q:Exit→Act→World→Prop}
  (c:Vu ρ nt μ f.h a w K Q r):if Region.wanted o (yielded ops a.tmps)then o.wp P a w K Q else K (a.put o.dst undef) w:=by
 unfold I7 at j
 obtain ⟨b,hb,j⟩:=Ac j
 rw [ES F.tmps hs.guard (fun d b e=>Nat.lt_of_lt_of_le (hs.seen d b e) F.size) hb]
 cases b with
 |false=>
  simp only [cond_false,oI]at j
  subst j
  simp only [Bool.false_eq_true,if_false]
  have c:∀k x w',CV ρ k nt (⟨DX f.tm s.dst IK,f.h,f.df⟩:Fr) x w'→Aw ρ μ f.h w k f.h w'→K x w':=c
  rw [hs.dst]at c
  exact c μ _ w (F.put μ.le_refl F.heap hs.small IJ) (Aw.refl F.heap)
 |true=>
  simp only [cond_true]at j
  simp only [if_true]
  have y:=hs.op
  unfold WE at j
  split at j
  ·rename_i q C
   rw [C]at y
   obtain ⟨v,hv,j⟩:=Ac j
   simp only [oI]at j
   subst j
   obtain ⟨u,z,A⟩:=M9 (w:=w) J F.tmps y hv
   unfold Oper.wp
   rw [z]
   have c:∀k x w',CV ρ k nt (⟨DX f.tm s.dst v,f.h,f.df⟩:Fr) x w'→Aw ρ μ f.h w k f.h w'→K x w':=c
   rw [hs.dst]at c
   exact c μ _ w (F.put μ.le_refl F.heap hs.small A) (Aw.refl F.heap)
  ·rename_i q C
   rw [C]at y
   obtain ⟨v,hv,j⟩:=Ac j
   simp only [oI]at j
   subst j
   obtain ⟨u,z,A⟩:=M7 J F.heap F.tmps y hv
   unfold Oper.wp
   rw [z]
   have c:∀k x w',CV ρ k nt (⟨DX f.tm s.dst v,f.h,f.df⟩:Fr) x w'→Aw ρ μ f.h w k f.h w'→K x w':=c
   rw [hs.dst]at c
   exact c μ _ w (F.put μ.le_refl F.heap hs.small A) (Aw.refl F.heap)
  ·rename_i q C
   rw [C]at y
   obtain ⟨⟨B,v⟩,hv,j⟩:=Ac j
   simp only [oI]at j
   subst j
   obtain ⟨N,u,z,m,hB,A⟩:=OY (w:=w) F.tmps y hv
   have hg:=Aw.add F.heap B N (0,m) hB
   unfold Oper.wp
   rw [z]
   have c:∀k x w',CV ρ k nt (⟨DX f.tm s.dst v,f.h.add B,f.df⟩:Fr) x w'→Aw ρ μ f.h w k (f.h.add B) w'→K x w':=c
   rw [hs.dst]at c
   exact c _ _ _ (F.put hg.le hg.rel hs.small (A _ hg.le (Aq.BQ _ _ _))) hg
  ·rename_i q C
   rw [C]at y
   obtain ⟨res,H,j⟩:=Ac j
   obtain ⟨out,D,rfl⟩:=MJ j
   refine Sy hc F.heap (Li F.heap F.tmps y H) D ?_
   cases out with
   |val v h'=>
    have c:∀k x w',CV ρ k nt (⟨DX f.tm s.dst v,h',f.df⟩:Fr) x w'→Aw ρ μ f.h w k h' w'→K x w':=c
    rw [hs.dst]at c
    exact fun k u w' hg hv=>c k _ w' (F.put hg.le hg.rel hs.small hv) hg
   |panic v h'=>exact fun k u w' hg hv=>c k u w' ⟨F.tmps.mono hg.le,F.size,hg.rel,F.defs.mono hg.le⟩ hg hv
   |defer g args=>
    have c:∀k x w',CV ρ k nt (⟨DX f.tm s.dst .any,f.h,(g,args)::f.df⟩:Fr) x w'→Aw ρ μ f.h w k f.h w'→K x w':=c
    rw [hs.dst]at c
    refine fun d hd=>c μ _ w ?_ (Aw.refl F.heap)
    have M:CV ρ μ nt ⟨f.tm,f.h,(g,args)::f.df⟩ {a with defers:=d::a.defers} w:=⟨F.tmps,F.size,F.heap,d,a.defers,rfl,hd,F.defs⟩
    exact M.put μ.le_refl F.heap hs.small trivial
theorem TC (c:Γ.AL ρ) (hc:BM P ρ call) {f:Fr} (F:CV ρ μ nt f a w) {o:Oper} {s:Step} {i:Nat} (d:ops[i]?=some o) (hs:NR P pl nt ops o s) {r:Co} (j:I7 Γ call s f=some r) {K:Act→World→Prop} {Q:Exit→Act→World→Prop}
  (g:Vu ρ nt μ f.h a w K Q r):wpOp P ops Q i K a w:=
 Kj d (OL c hc F hs j g)
theorem Du {α:Type}:∀{l:List (Option α)} {r:List α},BE l=some r→l=r.map some
 |[],r,h=>by simp only [BE,oI]at h;subst h;rfl
 |some a::l,r,h=>by
  simp only [BE]at h
  obtain ⟨d,c,e⟩:=mS h
  subst e
  simp [Du c]
 |none::l,r,h=>by simp [BE]at h
theorem OQ (s:Step) (r:List Step) (f:Fr):Uc Γ call (s::r) f=AF (I7 Γ call s f) fun x=>goes x fun c=>Uc Γ call r c:=rfl
theorem OP (z:Γ.AL ρ) (hc:BM P ρ call) {Q:Exit→Act→World→Prop}:∀(l:List Oper) (c:List Step) (k:Nat) {μ:Aq} {a:Act} {w:World} {f:Fr} {r:Co},(∀j,l[j]?=ops[k+j]?)→BE (l.map fun o=>stepOf P pl nt ops o 0)=some c→
  Uc Γ call c f=some r→CV ρ μ nt f a w→Dz ρ nt μ f.h w Q (FO r)→wpOps P ops Q (List.range' k l.length) a w
 |[],c,k,μ,a,w,f,r,hl,hs,d,F,L=>by
  simp only [List.map_nil,BE,oI]at hs
  subst hs
  have d:some (Co.go f)=some r:=d
  simp only [oI]at d
  subst d
  exact L μ a w .normal F (Aw.refl F.heap) rfl
 |o::l,c,k,μ,a,w,f,r,hl,hs,d,F,L=>by
  have q:=Du hs
  cases c with
  |nil=>simp at q
  |cons s c=>
   simp only [List.map_cons,List.cons.injEq]at q
   obtain ⟨J,C⟩:=q
   have D:BE (l.map fun o=>stepOf P pl nt ops o 0)=some c:=by
    rw [C]
    clear C d hs
    induction c with
    |nil=>rfl
    |cons x r ih=>simp only [List.map_cons,BE,ih,Option.map_some]
   rw [OQ]at d
   obtain ⟨x,hx,d⟩:=Ac d
   have H:ops[k]?=some o:=by simpa using (hl 0).symm
   rw [lC,List.range'_succ,wpOps_cons]
   refine TC z hc F H (F5 J) hx ?_
   cases x with
   |go f'=>exact fun A M w' y g=>OP z hc l c (k+1) (fun j=>by simpa [Nat.add_assoc,Nat.add_comm 1 j]using hl (j+1)) D d y (L.grow g)
   |panic v f'=>
    simp only [goes,oI]at d
    subst d
    exact fun A u w' y g hv=>L A a w' _ y g ⟨u,rfl,hv⟩
end
end Go.AM
end
section
namespace Go.AM
section
variable {Γ:Ao} {tm tm':Tr Aa} {h h':Al}
def DN (tm tm':Tr Aa) (l:List C7):Prop:=∀x∈l,ev tm x=ev tm' x
theorem Fe:∀{l:List C7},DN tm tm' l→RC tm l=RC tm' l
 |[],_=>rfl
 |x::r,h=>by
  show ev tm x::RC tm r=ev tm' x::RC tm' r
  rw [h x (by simp),Fe fun y c=>h y (by simp [c])]
theorem HN:∀{ps:List (Nat×Nat×C7)} {cs:List Aa},DN tm tm' (ps.map (·.2.2))→HO tm ps cs=HO tm' ps cs
 |[],_,_=>rfl
 |p::r,cs,h=>by
  show (AF (FG cs (ev tm p.2.2) p.1 p.2.1) fun cs=>HO tm r cs)=AF (FG cs (ev tm' p.2.2) p.1 p.2.1) fun cs=>HO tm' r cs
  rw [h p.2.2 (by simp)]
  congr 1
  funext cs
  exact HN fun y c=>h y (by simp only [List.map_cons,List.mem_cons];exact .inr c)
theorem ET {d:Nat} {o:Option C7} (h:DN tm tm' o.toList):Ct tm d o=Ct tm' d o:=by
 cases o with
 |none=>rfl
 |some x=>simp only [Ct];rw [h x (by simp)]
theorem Ul {o:Option C7} (h:DN tm tm' o.toList):AcT tm o=AcT tm' o:=by
 cases o with
 |none=>rfl
 |some x=>simp only [AcT];rw [h x (by simp)]
theorem MG {o:Option C7} (h:DN tm tm' o.toList):LL tm o=LL tm' o:=by
 cases o with
 |none=>rfl
 |some x=>simp only [LL];rw [h x (by simp)]
theorem DN.app {l c:List C7} (h:DN tm tm' (l++c)):DN tm tm' l∧DN tm tm' c:=⟨fun x hx=>h x (by simp [hx]),fun x hx=>h x (by simp [hx])⟩
theorem DN.cons {x:C7} {l:List C7} (h:DN tm tm' (x::l)):ev tm x=ev tm' x∧DN tm tm' l:=⟨h x (by simp),fun x hx=>h x (by simp [hx])⟩
theorem So {o:POp} (h:DN tm tm' o.Cg):IA Γ tm o=IA Γ tm' o:=by
 cases o<;>simp only [POp.Cg]at h<;>simp only [IA]
 case build zero parts=>rw [HN h]
 case func f a c=>rw [Fe h.app.1,Fe h.app.2]
 case big m xs=>rw [Fe h]
 case subs x lo hi=>
  obtain ⟨k,g⟩:=h.cons
  obtain ⟨g,j⟩:=g.app
  rw [k,ET g]
  congr 1
  funext d
  exact ET j
 case reslice n x lo hi mx=>
  obtain ⟨k,g⟩:=h.cons
  obtain ⟨g,j⟩:=g.app
  obtain ⟨j,q⟩:=j.app
  have e:(fun d=>Ct tm d hi)=fun d=>Ct tm' d hi:=funext fun d=>ET j
  rw [k]
  unfold Gb
  rw [ET g,Ul q,e,MG g,MG j]
 case pick c a b=>rw [h.cons.1,h.cons.2.cons.1,h.cons.2.cons.2.cons.1]
 all_goals first
  |(rw [h.cons.1,h.cons.2.cons.1];done)
  |(rw [h.cons.1];done)
theorem F7 {o:NX} (c:DN tm tm' o.Cg):Dx Γ tm h o=Dx Γ tm' h o:=by
 cases o<;>simp only [NX.Cg]at c<;>simp only [Dx]
 case load n x=>rw [c.cons.1]
 case lenM x=>rw [c.cons.1]
 case uptr ok x=>rw [c.cons.1]
 case bstr x=>rw [c.cons.1]
 case lookup kk z ok x k=>rw [c.cons.1,c.cons.2.cons.1]
theorem Ur {id:Nat} {o:AOp} (d:DN tm tm' o.Cg):XU tm id o=XU tm' id o:=by
 cases o<;>simp only [AOp.Cg]at d<;>simp only [XU]
 case box t x=>rw [d.cons.1]
 case bslice len z ps=>rw [HN d]
 case mkSlice z l c=>rw [d.cons.1,d.cons.2.cons.1]
theorem Qy {o:MOp} (c:DN tm tm' o.Cg):Kx tm h o=Kx tm' h o:=by
 cases o<;>simp only [MOp.Cg]at c<;>simp only [Kx]
 case call f args=>rw [c.cons.1,Fe c.cons.2]
 case defer f args=>rw [c.cons.1,Fe c.cons.2]
 case mapUp kk m k v=>rw [c.cons.1,c.cons.2.cons.1,c.cons.2.cons.2.cons.1]
 all_goals first
  |(rw [c.cons.1,c.cons.2.cons.1];done)
  |(rw [c.cons.1];done)
theorem Fv {l:List C7} (h:∀t∈l.flatMap C7.names,tm.get t=tm'.get t):DN tm tm' l:=fun x hx=>by
 cases x with
 |con v=>rfl
 |tmp t=>
  simp only [ev]
  rw [h t (List.mem_flatMap.2 ⟨.tmp t,hx,by simp [C7.names]⟩)]
end
theorem ZP {P:Program} {pl:List C3} {o:Oper} {q:NX} (hc:D6 P pl o=some (.r q)):∀x∈q.Cg,∃y:Operand,x=AJ y:=by
 cases hop:o.op<;>simp only [D6,hop,reduceCtorEq,oI]at hc
 case load t x=>
  obtain ⟨n,j,e⟩:=mS hc
  simp only [DO.r.injEq]at e
  subst e
  intro y g
  simp only [NX.Cg,List.mem_singleton]at g
  exact ⟨_,g⟩
 case lookup t x k ok=>
  split at hc
  ·split at hc
   ·obtain ⟨z,C,e⟩:=mS hc
    simp only [DO.r.injEq]at e
    subst e
    intro y g
    simp only [NX.Cg,List.mem_cons,List.not_mem_nil,or_false]at g
    rcases g with g|g
    ·exact ⟨_,g⟩
    ·exact ⟨_,g⟩
   ·cases hc
  ·cases hc
 case call c=>
  unfold Fq at hc
  split at hc
  ·split at hc
   ·split at hc
    ·simp at hc
    ·split at hc
     ·split at hc<;>simp at hc
     ·split at hc
      ·split at hc<;>simp at hc
      ·cases hc
   ·cases hc
  ·simp at hc
  ·cases hc
  ·rename_i b hb
   split at hc
   ·split at hc
    ·simp at hc
    ·simp at hc
    ·simp at hc
    ·simp only [oI,DO.r.injEq]at hc
     subst hc
     intro y g
     simp only [NX.Cg,List.mem_singleton]at g
     exact ⟨_,g⟩
    ·cases hc
   ·exfalso
    unfold EX at hc
    split at hc<;>first|cases hc|skip
    all_goals (split at hc<;>first|(cases hc;done) |(split at hc<;>simp at hc))
   ·exfalso
    split at hc<;>first|(cases hc;done) |(obtain ⟨_,_,e⟩:=mS hc;cases e)
   ·simp at hc
   ·simp at hc
   ·simp at hc
   ·simp at hc
   ·exfalso
    split at hc
    ·split at hc<;>simp at hc
    ·cases hc
   ·cases hc
 case convert s d x=>
  rcases CT hc with ⟨k0,k,hs,hd,e⟩|⟨hs,hd,e⟩|⟨t,n,hs,hd,j,e⟩|⟨u,n,hs,hd,j,e⟩|⟨el,hs,he,hd,e⟩
  ·cases e
  ·cases e
  all_goals
   simp only [DO.r.injEq]at e
   subst e
   intro y g
   simp only [NX.Cg,List.mem_singleton]at g
   exact ⟨_,g⟩
 case typeAssert x xt t ok=>
  obtain ⟨d,i,z,H,hd,A,C,e⟩:=Cu hc
  cases e
 case defer c=>
  obtain ⟨v,args,D⟩:=c
  cases v<;>simp at hc
 case makeFunc fn x c=>cases fn<;>simp at hc
 case binOp op t x y yt=>obtain ⟨_,_,e⟩:=mS hc;cases e
 case slice t x lo A mx=>
  exfalso
  split at hc
  ·simp at hc
  ·obtain ⟨_,_,e⟩:=mS hc;cases e
  ·split at hc
   ·obtain ⟨_,_,e⟩:=mS hc;cases e
   ·cases hc
  ·cases hc
 case build t parts=>
  exfalso
  split at hc
  ·split at hc
   ·obtain ⟨_,_,e⟩:=mS hc;cases e
   ·cases hc
  ·obtain ⟨_,_,hc⟩:=Option.bind_eq_some_iff.1 hc
   obtain ⟨_,_,e⟩:=mS hc;cases e
  ·cases hc
 case fieldAddr t x f=>
  exfalso
  split at hc
  ·obtain ⟨_,_,hc⟩:=Option.bind_eq_some_iff.1 hc
   split at hc<;>simp at hc
  ·cases hc
 case field t x f=>
  exfalso
  split at hc
  ·obtain ⟨_,_,hc⟩:=Option.bind_eq_some_iff.1 hc
   obtain ⟨_,_,e⟩:=mS hc;cases e
  ·cases hc
 all_goals
  exfalso
  first
   |(cases hc;done)
   |(split at hc<;>first|(cases hc;done) |(simp at hc;done) |(obtain ⟨_,_,e⟩:=mS hc;cases e;done) |(split at hc<;>first|(cases hc;done) |(simp at hc;done) |(obtain ⟨_,_,e⟩:=mS hc;cases e;done) |(split at hc<;>first|(cases hc;done) |(simp at hc;done) |(obtain ⟨_,_,e⟩:=mS hc;cases e;done))))
   |(obtain ⟨_,_,e⟩:=mS hc;cases e;done)
section
variable {P:Program} {ρ:Env} {μ:Aq} {tm:Tr Aa} {a:Act} {h h':Al}
theorem Ui {Γ:Ao} (Z:Bf ρ μ tm a) {o:Oper} {pl:List C3} {q:NX} (hc:D6 P pl o=some (.r q)) (H:∀b B,μ b≠none→h.get b=some B→h'.get b=some B) {v:Aa} (hv:Dx Γ tm h q=some v):Dx Γ tm h' q=some v:=by
 have cells:∀{b:Nat} {vs:List Aa},μ b≠none→cellsOf (h.get b)=some vs→cellsOf (h'.get b)=some vs:=fun {b vs} hb d=>by
  rcases EY d with e|⟨t,e⟩<;>rw [H _ _ hb e]<;>rfl
 have N:∀{b:Nat} {vs:List Entry×Nat},μ b≠none→mapOf (h.get b)=some vs→mapOf (h'.get b)=some vs:=fun {b vs} hb d=>by
  rw [H _ _ hb (DC d)];rfl
 have Q:∀x∈q.Cg,∃u,Ag ρ μ (ev tm x) u:=fun x hx=>by
  obtain ⟨y,rfl⟩:=ZP hc x hx
  exact ⟨_,As Z y⟩
 cases q with
 |load n x=>
  obtain ⟨u,g⟩:=Q x (by simp [NX.Cg])
  simp only [Dx]at hv⊢
  unfold MP at hv⊢
  split at hv
  ·rename_i b R j D C
   rw [C]at g
   obtain ⟨r,m,A,_⟩:=g.vptr
   obtain ⟨vs,d,ab⟩:=Ac hv
   obtain ⟨l,hl,_⟩:=Ac d
   have hb:=H _ _ (by rw [A];simp) (Df hl)
   have X:elemV Γ (h'.get b) R j=elemV Γ (h.get b) R j:=by rw [hb,Df hl]
   simp only [X]
   exact hv
  ·exact hv
  ·rename_i b D C
   rw [C]at g
   obtain ⟨r,δ,m,A,_⟩:=g.ptr
   obtain ⟨vs,d,hv⟩:=Ac hv
   simp only [cells (by rw [A];simp) d]
   exact hv
  ·cases hv
 |lookup kk z ok x k=>
  obtain ⟨u,g⟩:=Q x (by simp [NX.Cg])
  simp only [Dx]at hv⊢
  unfold WV at hv⊢
  split at hv
  ·exact hv
  ·rename_i b C
   rw [C]at g
   obtain ⟨r,A,_⟩:=g.Oh
   unfold Uy at hv⊢
   split at hv
   ·rename_i i hi
    have O:IS (h'.get b)=some i:=by rw [H _ _ (by rw [A];simp) (E7 hi)];rfl
    simp only [O]
    exact hv
   ·obtain ⟨vs,d,hv⟩:=Ac hv
    have O:IS (h'.get b)=none:=by rw [H _ _ (by rw [A];simp) (DC d)];rfl
    simp only [O,N (by rw [A];simp) d]
    exact hv
  ·cases hv
 |lenM x=>
  obtain ⟨u,g⟩:=Q x (by simp [NX.Cg])
  simp only [Dx]at hv⊢
  unfold WW at hv⊢
  split at hv
  ·exact hv
  ·rename_i b C
   rw [C]at g
   obtain ⟨r,A,_⟩:=g.Oh
   obtain ⟨vs,d,hv⟩:=Ac hv
   simp only [N (by rw [A];simp) d]
   exact hv
  ·cases hv
 |bstr x=>
  obtain ⟨u,g⟩:=Q x (by simp [NX.Cg])
  simp only [Dx]at hv⊢
  have key:∀b D len,μ b≠none→NG h b D len=some v→NG h' b D len=some v:=fun b D len hb M=>by
   unfold NG at M⊢
   cases hl:Nat.beq len 0 with
   |true=>rw [hl]at M;exact M
   |false=>
    rw [hl]at M
    obtain ⟨vs,d,U⟩:=Ac M
    simp only [cond_false,cells hb d]
    exact U
  unfold Xs at hv⊢
  split at hv
  ·exact hv
  ·rename_i b D len c C
   rw [C]at g
   obtain ⟨r,δ,m,A,_⟩:=g.slice
   exact key _ _ _ (by rw [A];simp) hv
  ·rename_i b D len c C
   rw [C]at g
   obtain ⟨r,δ,m,_,A,_⟩:=g.gslice
   exact key _ _ _ (by rw [A];simp) hv
  ·cases hv
 |uptr ok x=>
  obtain ⟨u,g⟩:=Q x (by simp [NX.Cg])
  simp only [Dx]at hv⊢
  unfold O9 at hv⊢
  split at hv
  ·rename_i b C
   rw [C]at g
   obtain ⟨r,δ,m,A,_⟩:=g.ptr
   have J:=hv
   unfold YI at J
   split at J
   ·rename_i e vs hb
    rw [hb]at hv
    rw [H _ _ (by rw [A];simp) hb]
    exact hv
   ·cases J
  ·cases hv
end
end Go.AM
end
section
namespace Go.AM
structure Item where
 i:Nat
 s:Step
 e:Option (Aa×Option Block)
def Item.pair (x:Item):Nat×Step:=(x.i,x.s)
def GD:List Item→(Nat→Option Aa)→Nat→Option Aa
 |[],g,t=>g t
 |x::r,g,t=>match x.e with
  |some u=>if x.s.dst=some t then some u.1 else GD r g t
  |none=>GD r g t
def EE:List Item→Nat→(Nat→Option Block)→Nat→Option Block
 |[],_,g,b=>g b
 |x::r,id,g,b=>match x.e with
  |some (_,some B)=>if b=id then some B else EE r (id+1) g b
  |_=>EE r (id+1) g b
def Clo (W:Nat→Nat→Bool):List Item→Prop
 |[]=>True
 |x::r=>(x.e=none→∀z∈r,z.e≠none→W x.i z.i=false)∧Clo W r
def Y7 (Γ:Ao) (call:C1):List Item→Nat→Fr→Prop
 |[],_,_=>True
 |x::r,id,f=>(∀u,x.e=some u→HL Γ f.tm f.h id x.s=some u)∧
  ((∃c,I6 Γ call x.s id f=some (.go c)∧Y7 Γ call r (id+1) c)∨∀y∈r,y.e=none)
structure X4 (W:Nat→Nat→Bool) (x y:Nat×Step):Prop where
 ne:x.1≠y.1
 chg:BZ y.2.op=true→W x.1 y.1=true
 dst:∀d,x.2.dst=some d→y.2.dst≠some d
 reads:∀d,x.2.dst=some d→d∈y.2.names→W x.1 y.1=true
 writes:∀d,y.2.dst=some d→d∈x.2.names→W x.1 y.1=true
section
variable {W:Nat→Nat→Bool}
theorem any_beq {l:List Nat} {d:Nat}:l.any (Nat.beq d)=true↔d∈l:=by
 rw [List.any_eq_true]
 constructor
 ·rintro ⟨x,hx,e⟩
  rw [An.1 e];exact hx
 ·intro h
  exact ⟨d,h,An.2 rfl⟩
theorem Tv {x y:Nat×Step} (h:Vo W x y=true):X4 W x y:=by
 unfold Vo at h
 rw [aT,aT,aT]at h
 obtain ⟨⟨⟨o,k⟩,c⟩,g⟩:=h
 refine ⟨fun e=>?_,fun u=>?_,fun d hd q=>?_,fun d hd j=>?_,fun d hd j=>?_⟩
 ·rw [An.2 e]at o;cases o
 ·rw [u]at k;simpa using k
 ·rw [hd,q]at c
  simp only [aT]at c
  rw [An.2 rfl]at c
  simp at c
 ·rw [hd]at c
  simp only [aT,Bool.or_eq_true]at c
  rcases c.2 with h|h
  ·rw [any_beq.2 j]at h;cases h
  ·exact h
 ·rw [hd]at g
  simp only [Bool.or_eq_true]at g
  rcases g with h|h
  ·rw [any_beq.2 j]at h;cases h
  ·exact h
structure OkD (W:Nat→Nat→Bool) (x:Nat×Step) (r:List (Nat×Step)):Prop where
 self:∀d,x.2.dst=some d→d∉x.2.names
 apart:∀y∈r,X4 W x y
 back:BZ x.2.op=true→NK W x.1 r 0=true
 rest:okD W r=true
theorem Fj {x:Nat×Step} {r:List (Nat×Step)} (h:okD W (x::r)=true):OkD W x r:=by
 simp only [okD,aT]at h
 obtain ⟨c,k,g,j⟩:=h
 refine ⟨fun d hd q=>?_,fun y u=>Tv (List.all_eq_true.1 k y u),fun o=>?_,j⟩
 ·unfold AdH at c
  rw [hd]at c
  simp only at c
  rw [any_beq.2 q]at c
  cases c
 ·rw [o]at g;simpa using g
def muts (l:List (Nat×Step)):Nat:=l.countP fun x=>BZ x.2.op
theorem Jo {x:Nat}:∀{pre post:List (Nat×Step)} {y:Nat×Step} {k:Nat},NK W x (pre++y::post) k=true→BZ y.2.op=false→W x y.1=false→k+muts pre<y.2.back
 |[],post,y,k,h,hm,hw=>by
  simp only [List.nil_append,NK,hm,Bool.false_eq_true,if_false,aT,Bool.or_eq_true,hw,or_false]at h
  have:=AX.1 h.1
  simp only [muts,List.countP_nil]
  omega
 |z::pre,post,y,k,h,hm,hw=>by
  simp only [List.cons_append,NK]at h
  cases hz:BZ z.2.op with
  |true=>
   rw [hz]at h
   simp only [if_true]at h
   have:=Jo h hm hw
   simp only [muts,List.countP_cons,hz,if_true]at this⊢
   omega
  |false=>
   rw [hz]at h
   simp only [Bool.false_eq_true,if_false,aT]at h
   have:=Jo h.2 hm hw
   simp only [muts,List.countP_cons,hz]at this⊢
   simpa using this
theorem Lx (s:Step) (r:List Step) (k:Nat):KO (s::r) k=bif BZ s.op then KO r (k+1)else Nat.ble s.back k&&KO r k:=rfl
theorem HV:∀{pre post:List (Nat×Step)} {y:Nat×Step} {k:Nat},KO ((pre++y::post).map (·.2)) k=true→BZ y.2.op=false→y.2.back≤k+muts pre
 |[],post,y,k,h,hm=>by
  simp only [List.nil_append,List.map_cons,Lx,hm,cond_false,aT]at h
  have:=AX.1 h.1
  simp only [muts,List.countP_nil]
  omega
 |z::pre,post,y,k,h,hm=>by
  simp only [List.cons_append,List.map_cons,Lx]at h
  cases hz:BZ z.2.op with
  |true=>
   rw [hz]at h
   simp only [cond_true]at h
   have:=HV h hm
   simp only [muts,List.countP_cons,hz,if_true]at this⊢
   omega
  |false=>
   rw [hz]at h
   simp only [cond_false,aT]at h
   have:=HV h.2 hm
   simp only [muts,List.countP_cons,hz]at this⊢
   simpa using this
end
theorem Ew:∀{r:List Item} {g c:Nat→Option Aa} {t:Nat},g t=c t→GD r g t=GD r c t
 |[],_,_,_,h=>h
 |x::r,g,c,t,h=>by
  simp only [GD]
  cases x.e with
  |none=>exact Ew h
  |some u=>
   dsimp only
   split
   ·rfl
   ·exact Ew h
theorem DK:∀{r:List Item} {g:Nat→Option Aa} {t:Nat},(∀z∈r,z.e≠none→z.s.dst≠some t)→GD r g t=g t
 |[],_,_,_=>rfl
 |x::r,g,t,h=>by
  simp only [GD]
  have ih:=DK (g:=g) fun z c=>h z (List.mem_cons_of_mem _ c)
  cases hx:x.e with
  |none=>exact ih
  |some u=>
   dsimp only
   rw [if_neg (h x List.mem_cons_self (by rw [hx];simp))]
   exact ih
theorem DW (tm:Tr Aa) (d:Option Nat) (v:Aa) (t:Nat):(DX tm d v).get t=if d=some t then some v else tm.get t:=by
 cases d with
 |none=>simp [DX]
 |some d=>
  simp only [DX,Tr.Bq,oI]
  by_cases h:t=d
  ·rw [if_pos h,if_pos h.symm]
  ·rw [if_neg h,if_neg (Ne.symm h)]
theorem E9 (h:Al) (id:Nat) (B:Option Block) (b:Nat):(Gv h id B).get b=match B with|some B=>if b=id then some B else h.get b|none=>h.get b:=by
 cases B with
 |none=>rfl
 |some B=>exact Tr.Bq _ _ _ _
theorem Fb (h:Al) (id:Nat) (B:Option Block):(Gv h id B).next=h.next:=by cases B<;>rfl
theorem GF:∀{r:List Item} {id:Nat} {g c:Nat→Option Block} {b:Nat},g b=c b→EE r id g b=EE r id c b
 |[],_,_,_,_,h=>h
 |x::r,id,g,c,b,h=>by
  simp only [EE]
  split
  ·split
   ·rfl
   ·exact GF h
  ·exact GF h
theorem Je:∀{r:List Item} {id:Nat} {g:Nat→Option Block} {b:Nat},b<id→EE r id g b=g b
 |[],_,_,_,_=>rfl
 |x::r,id,g,b,h=>by
  simp only [EE]
  split
  ·rw [if_neg (by omega)]
   exact Je (by omega)
  ·exact Je (by omega)
theorem Jd:∀{r:List Item} {id:Nat} {g:Nat→Option Block} {b:Nat} {B:Block},EE r id g b=some B→g b=some B∨∃k x v,r[k]?=some x∧x.e=some (v,some B)∧b=id+k
 |[],_,_,_,_,h=>.inl h
 |x::r,id,g,b,B,h=>by
  simp only [EE]at h
  split at h
  ·rename_i v c hx
   split at h
   ·rename_i e
    simp only [oI]at h
    subst h
    exact .inr ⟨0,x,v,rfl,hx,e⟩
   ·rcases Jd h with h|⟨k,y,v,h1,h2,h3⟩
    ·exact .inl h
    ·exact .inr ⟨k+1,y,v,by simpa using h1,h2,by omega⟩
  ·rcases Jd h with h|⟨k,y,v,h1,h2,h3⟩
   ·exact .inl h
   ·exact .inr ⟨k+1,y,v,by simpa using h1,h2,by omega⟩
theorem Re:∀{r:List Item} {id:Nat} {g:Nat→Option Block} {k:Nat} {x:Item} {v:Aa} {B:Block},r[k]?=some x→x.e=some (v,some B)→EE r id g (id+k)=some B
 |[],_,_,_,_,_,_,h,_=>by simp at h
 |y::r,id,g,0,x,v,B,h,hx=>by
  simp only [List.getElem?_cons_zero,oI]at h
  subst h
  simp [EE,hx]
 |y::r,id,g,k+1,x,v,B,h,hx=>by
  have ih:=Re (id:=id+1) (g:=g) (by simpa using h) hx
  rw [show id+1+k=id+(k+1)from by omega]at ih
  simp only [EE]
  split
  ·rw [if_neg (by omega)];exact ih
  ·exact ih
theorem Nk:∀{r:List Item} {id:Nat} {g:Nat→Option Block} {b:Nat},(∀k x v B,r[k]?=some x→x.e=some (v,some B)→b≠id+k)→EE r id g b=g b:=fun {r id g b} h=>by
 induction r generalizing id with
 |nil=>rfl
 |cons x r ih=>
  have ih:=ih (id:=id+1) fun k y v B d c=>by
   have:=h (k+1) y v B (by simpa using d) c
   omega
  simp only [EE]
  split
  ·rename_i v B hx
   rw [if_neg (by simpa using h 0 x v B rfl hx)]
   exact ih
  ·exact ih
section
variable {Γ:Ao} {call:C1} {all:List Step}
theorem GI (s:Step) (r:List Step) (id:Nat) (f:Fr) (hs:List Al):Lv Γ call all (s::r) id f hs=
  bif LS Γ s f hs then AF (I6 Γ call s id f) fun x=>SL all r x fun c=>Lv Γ call all r (id+1) c (bif BZ s.op then f.h::hs else Mx id (Ln f.h c.h id) hs)else none:=rfl
theorem XG {id:Nat} {B:Option Block}:∀{hs:List Al} {n:Nat} {c:Al},hs[n]?=some c→(Mx id B hs)[n]?=some (Gv c id B):=by
 cases B with
 |none=>intro hs n c h;exact h
 |some B=>
  intro hs
  induction hs with
  |nil=>intro n c h;simp at h
  |cons x r ih=>
   intro n c h
   have e:Mx id (some B) (x::r)=Gv x id (some B)::Mx id (some B) r:=rfl
   rw [e]
   cases n with
   |zero=>simp only [List.getElem?_cons_zero,oI]at h⊢;rw [h]
   |succ n=>rw [List.getElem?_cons_succ]at h⊢;exact ih h
theorem Ii {s:Step} {id:Nat} {f:Fr} (c:BZ s.op=false) {x:Co} (h:I6 Γ call s id f=some x):∃u,HL Γ f.tm f.h id s=some u∧x=.go ⟨DX f.tm s.dst u.1,Gv f.h id u.2,f.df⟩:=by
 unfold I6 at h
 rw [c]at h
 obtain ⟨u,d,h⟩:=Ac h
 simp only [oI]at h
 exact ⟨u,d,h.symm⟩
theorem J1 {s:Step} {id:Nat} {f:Fr} (c:BZ s.op=false) {u:Aa×Option Block} (h:HL Γ f.tm f.h id s=some u):I6 Γ call s id f=some (.go ⟨DX f.tm s.dst u.1,Gv f.h id u.2,f.df⟩):=by
 unfold I6
 rw [c,h]
 rfl
theorem OM {s:Step} {id:Nat} {f:Fr} (c:BZ s.op=true):I6 Γ call s id f=I7 Γ call s f:=by
 unfold I6
 rw [c]
 rfl
theorem YY {s:Step} {f c:Fr} (h:I7 Γ call s f=some (.go c)):∃v,c.tm=DX f.tm s.dst v:=by
 unfold I7 at h
 obtain ⟨b,hb,h⟩:=Ac h
 cases b with
 |false=>
  simp only [cond_false,Yd,oI,Co.go.injEq]at h
  exact ⟨_,by subst h;rfl⟩
 |true=>
  simp only [cond_true]at h
  unfold WE at h
  split at h
  ·obtain ⟨v,_,h⟩:=Ac h
   simp only [Yd,oI,Co.go.injEq]at h
   exact ⟨_,by subst h;rfl⟩
  ·obtain ⟨v,_,h⟩:=Ac h
   simp only [Yd,oI,Co.go.injEq]at h
   exact ⟨_,by subst h;rfl⟩
  ·obtain ⟨v,_,h⟩:=Ac h
   simp only [KA,oI,Co.go.injEq]at h
   exact ⟨_,by subst h;rfl⟩
  ·obtain ⟨r,_,h⟩:=Ac h
   obtain ⟨o,_,h⟩:=MJ h
   cases o with
   |val v h'=>
    simp only [AcS,KA,Co.go.injEq]at h
    exact ⟨_,by subst h;rfl⟩
   |panic v h'=>simp only [AcS,reduceCtorEq]at h
   |defer g args=>
    simp only [AcS,Co.go.injEq]at h
    exact ⟨_,by subst h;rfl⟩
theorem YX {s:Step} {id:Nat} {f c:Fr} (h:I6 Γ call s id f=some (.go c)):∃v,c.tm=DX f.tm s.dst v:=by
 cases hm:BZ s.op with
 |true=>rw [OM hm]at h;exact YY h
 |false=>
  obtain ⟨u,_,h⟩:=Ii hm h
  simp only [Co.go.injEq]at h
  exact ⟨_,by subst h;rfl⟩
theorem UM {tm c:Tr Aa} {h:Al} {id:Nat} {s:Step} (j:∀t∈s.names,tm.get t=c.get t):HL Γ tm h id s=HL Γ c h id s:=by
 have q:Dk tm s.guard=Dk c s.guard:=by
  unfold Dk
  cases hg:s.guard with
  |none=>rfl
  |some g=>
   dsimp only
   rw [j g.1 (by simp [Step.names,hg])]
 have d:DN tm c s.op.Cg:=Fv fun t k=>j t (by
  unfold Step.names
  split
  ·exact List.mem_cons_of_mem _ k
  ·exact k)
 unfold HL
 rw [q]
 congr 1
 funext w
 cases w with
 |false=>rfl
 |true=>
  simp only [cond_true]
  unfold UN
  cases ho:s.op with
  |p o=>rw [ho]at d;simp only;rw [So d]
  |r o=>rw [ho]at d;simp only;rw [F7 d]
  |a o=>rw [ho]at d;simp only;rw [Ur d]
  |m o=>rfl
end
end Go.AM
end
section
namespace Go.AM
theorem Aa.AaO {x y:Aa} (h:x.eqs y=true):x=y:=by
 unfold Aa.eqs at h
 split at h
 ·rw [Aa.Dh h]
 ·rw [Aa.Dh h]
 ·exact Aa.Dt h
section
variable {Γ:Ao} {call:C1} {all:List Step} {W:Nat→Nat→Bool}
theorem LH {Γ:Ao} {tm:Tr Aa} {o:NX} {v:Aa}:∀{k n:Nat} {hs:List Al} {h:Al},Vp Γ tm o v k hs=true→n<k→hs[n]?=some h→Dx Γ tm h o=some v
 |0,_,_,_,_,hn,_=>by omega
 |k+1,n,[],h,ha,hn,hh=>by simp at hh
 |k+1,n,g::hs,h,ha,hn,hh=>by
  have ha:(ZN v (Dx Γ tm g o)&&Vp Γ tm o v k hs)=true:=ha
  rw [aT]at ha
  cases n with
  |zero=>
   simp only [List.getElem?_cons_zero,oI]at hh
   subst hh
   have c:=ha.1
   unfold ZN at c
   split at c
   ·rename_i u d
    rw [d,Aa.AaO c]
   ·cases c
  |succ n=>exact LH (k:=k) (n:=n) ha.2 (Nat.lt_of_succ_lt_succ hn) (by simpa using hh)
theorem PN {Γ:Ao} {s:Step} {f:Fr} {hs:List Al} {o:NX} (j:s.op=.r o) (h:LS Γ s f hs=true) (q:Dk f.tm s.guard=some true) {v:Aa} (hv:Dx Γ f.tm f.h o=some v) {n:Nat} {c:Al} (d:n<s.back) (g:hs[n]?=some c):Dx Γ f.tm c o=some v:=by
 unfold LS at h
 cases hb:s.back with
 |zero=>omega
 |succ m=>
  rw [j,hb]at h
  simp only at h
  unfold Wf at h
  rw [q]at h
  simp only [hv]at h
  exact LH (k:=m+1) h (by rw [hb]at d;exact d) g
def Aby (μ:Aq) (h:Al) (f:Fr) (hs:List Al) (pre:List Item) (back:Nat):Prop:=
 (∀b B,μ b≠none→f.h.get b=some B→h.get b=some B)∨
 ∃n c,hs[n]?=some c∧(∀b B,μ b≠none→c.get b=some B→h.get b=some B)∧n+muts (pre.map Item.pair)<back
theorem Ip:∀{l:List Item} {id:Nat} {f:Fr},(∀y∈l,y.e=none)→Y7 Γ call l id f
 |[],_,_,_=>trivial
 |z::_,_,_,h=>⟨fun _ e=>(by rw [h z (by simp)]at e;cases e),.inr fun w c=>h w (by simp [c])⟩
theorem early {μ:Aq} {tm:Tr Aa} {h:Al} {res:Co} {y:Item} {post:List Item} (hy:y.e=none) (C:BZ y.s.op=false)
  (H:∀o,y.s.op=.r o→∀J:Al,(∀b B,μ b≠none→J.get b=some B→h.get b=some B)→∀v,Dx Γ tm J o=some v→Dx Γ tm h o=some v):
  ∀(pre:List Item) {id:Nat} {f:Fr} {hs:List Al},okD W ((pre++y::post).map Item.pair)=true→Clo W (pre++y::post)→(∀x∈pre++y::post,x.e≠none→BZ x.s.op=false)→
   (∀x∈pre,x.e=none→W x.i y.i=false)→Lv Γ call all ((pre++y::post).map (·.s)) id f hs=some res→Y7 Γ call (pre++y::post) id f→
   (∀t∈y.s.names,tm.get t=GD (pre++y::post) f.tm.get t)→Aby μ h f hs pre y.s.back→
   (∀(k:Nat) (x:Item) (v:Aa) (B:Block),pre[k]?=some x→x.e=some (v,some B)→h.get (id+k)=some B)→(∀(k:Nat) (x:Item),pre[k]?=some x→x.e=none→μ (id+k)=none)→
   ∃u,HL Γ tm h (id+pre.length) y.s=some u∧Y7 Γ call (pre++{y with e:=some u}::post) id f
 |[],id,f,hs,hok,hclo,hflo,_,hd,hfut,ht,hsee,_,_=>by
  have U:=Fj (x:=y.pair) (r:=post.map Item.pair) hok
  simp only [List.nil_append,List.map_cons,GI]at hd
  obtain ⟨af,hd⟩:=Ap hd
  obtain ⟨x,hx,hd⟩:=Ac hd
  obtain ⟨u,j,rfl⟩:=Ii C hx
  have P:∀t∈y.s.names,tm.get t=f.tm.get t:=fun t M=>by
   rw [ht t M]
   simp only [List.nil_append,GD,hy]
   refine DK fun z A al ab=>?_
   have R:=(U.apart z.pair (List.mem_map_of_mem A)).writes t ab M
   have Q:=hclo.1 hy z A al
   simp only [Item.pair]at R
   rw [R]at Q
   cases Q
  refine ⟨u,?_,?_⟩
  ·rw [UM P]at*
   simp only [lN,Nat.add_zero]
   cases hop:y.s.op with
   |m o=>rw [hop]at C;cases C
   |p o=>
    have:HL Γ f.tm h id y.s=HL Γ f.tm f.h id y.s:=by unfold HL UN;rw [hop]
    rw [this];exact j
   |a o=>
    have:HL Γ f.tm h id y.s=HL Γ f.tm f.h id y.s:=by unfold HL UN;rw [hop]
    rw [this];exact j
   |r o=>
    have ax:=j
    unfold HL at j⊢
    obtain ⟨b,hb,j⟩:=Ac j
    rw [hb]
    show (bif b then UN Γ f.tm h id y.s.op else some (IK,none))=some u
    cases b with
    |false=>exact j
    |true=>
     simp only [cond_true]at j⊢
     rw [hop]at j⊢
     simp only [UN]at j⊢
     obtain ⟨v,hv,j⟩:=Ac j
     simp only [oI]at j
     subst j
     have Z:DN tm f.tm o.Cg:=Fv fun t M=>P t (by
      unfold Step.names
      rw [hop]
      split
      ·exact List.mem_cons_of_mem _ M
      ·exact M)
     have ag:Dx Γ f.tm h o=some v:=by
      rw [←F7 Z]
      rcases hsee with q|⟨n,J,hh,hs2,hlt⟩
      ·exact H o hop f.h q v (by rw [F7 Z];exact hv)
      ·refine H o hop J hs2 v ?_
       rw [F7 Z]
       exact PN hop af hb hv (n:=n) (by omega) hh
     rw [ag]
     rfl
  ·refine ⟨fun u' e=>?_,hfut.2⟩
   simp only [oI]at e
   subst e
   exact j
 |x::pre,id,f,hs,hok,hclo,hflo,hW,hd,hfut,ht,hsee,hE,hN=>by
  have U:=Fj (x:=x.pair) (r:=(pre++y::post).map Item.pair) hok
  have ai:y.pair∈(pre++y::post).map Item.pair:=List.mem_map_of_mem (by simp)
  have hA:=U.apart y.pair ai
  have X:(pre++y::post).map Item.pair=pre.map Item.pair++y.pair::post.map Item.pair:=by simp
  simp only [List.cons_append,List.map_cons,GI]at hd
  obtain ⟨af,hd⟩:=Ap hd
  obtain ⟨r,O,hd⟩:=Ac hd
  have ae:x.e=none→BZ x.s.op=true→muts (pre.map Item.pair)<y.s.back:=fun d c=>by
   have hb:=U.back c
   rw [X]at hb
   have:=Jo hb C (hW x (by simp) d)
   simp only [Item.pair]at this⊢
   omega
  have D:x.e≠none→BZ x.s.op=false:=fun d=>hflo x (by simp) d
  cases r with
  |panic v f1=>
   exfalso
   have c:BZ x.s.op=true:=by
    cases hb:BZ x.s.op with
    |true=>rfl
    |false=>
     obtain ⟨u,_,e⟩:=Ii hb O
     cases e
   have d:x.e=none:=by
    cases hb:x.e with
    |none=>rfl
    |some u=>rw [D (by rw [hb];simp)]at c;cases c
   simp only [SL]at hd
   obtain ⟨an,_⟩:=Ap hd
   have ak:KO ((pre.map Item.pair++y.pair::post.map Item.pair).map (·.2)) 0=true:=by
    rw [←X]
    rw [List.map_map]
    exact an
   have R:=HV ak C
   have Q:=ae d c
   simp only [Item.pair]at R Q
   omega
  |go f'=>
   simp only [SL]at hd
   obtain ⟨v,hv⟩:=YX O
   have ad:Y7 Γ call (pre++y::post) (id+1) f':=by
    rcases hfut.2 with ⟨g,hg,hf⟩|hf
    ·rw [O]at hg
     simp only [oI,Co.go.injEq]at hg
     subst hg
     exact hf
    ·exact Ip hf
   have ao:∀t∈y.s.names,tm.get t=GD (pre++y::post) f'.tm.get t:=fun t M=>by
    rw [ht t M]
    simp only [List.cons_append,GD]
    cases d:x.e with
    |none=>
     simp only
     refine Ew ?_
     rw [hv,DW]
     rw [if_neg]
     intro hd
     have R:=hA.reads t hd M
     have Q:=hW x (by simp) d
     simp only [Item.pair]at R
     rw [R]at Q
     cases Q
    |some u=>
     simp only
     have c:=D (by rw [d];simp)
     have N:=hfut.1 u d
     rw [J1 c N]at O
     simp only [oI,Co.go.injEq]at O
     subst O
     by_cases hd:x.s.dst=some t
     ·rw [if_pos hd,DK,DW,if_pos hd]
      intro z A _ ab
      exact (U.apart z.pair (List.mem_map_of_mem A)).dst t hd ab
     ·rw [if_neg hd]
      exact Ew (by rw [DW,if_neg hd])
   have ac:Aby μ h f' (bif BZ x.s.op then f.h::hs else Mx id (Ln f.h f'.h id) hs) pre y.s.back:=by
    cases c:BZ x.s.op with
    |true=>
     have d:x.e=none:=by
      cases hb:x.e with
      |none=>rfl
      |some u=>rw [D (by rw [hb];simp)]at c;cases c
     rcases hsee with q|⟨n,J,hh,hs2,hlt⟩
     ·exact .inr ⟨0,f.h,rfl,q,by have:=ae d c;omega⟩
     ·refine .inr ⟨n+1,J,by simpa using hh,hs2,?_⟩
      have:muts ((x::pre).map Item.pair)=muts (pre.map Item.pair)+1:=by
       simp only [muts,List.map_cons,List.countP_cons]
       simp only [Item.pair,c,if_true]
      omega
    |false=>
     simp only [cond_false]
     obtain ⟨u,j,e⟩:=Ii c O
     simp only [Co.go.injEq]at e
     have aa:∀g:Al,(∀b B,μ b≠none→g.get b=some B→h.get b=some B)→∀b B,μ b≠none→(Gv g id u.2).get b=some B→h.get b=some B:=fun g q b B hb hB=>by
      simp only [E9]at hB
      split at hB
      ·rename_i B' eB
       split at hB
       ·rename_i eb
        simp only [oI]at hB
        subst hB
        cases d:x.e with
        |none=>
         have:=hN 0 x rfl d
         rw [Nat.add_zero]at this
         rw [eb]at hb
         exact absurd this hb
        |some u'=>
         have N:=hfut.1 u' d
         rw [j]at N
         simp only [oI]at N
         subst N
         have:=hE 0 x u.1 B' rfl (by rw [d,←eB])
         rw [eb];simpa using this
       ·exact q b B hb hB
      ·exact q b B hb hB
     have ay:muts ((x::pre).map Item.pair)=muts (pre.map Item.pair):=by
      simp only [muts,List.map_cons,List.countP_cons]
      simp only [Item.pair,c]
      simp
     rcases hsee with q|⟨n,J,hh,hs2,hlt⟩
     ·left
      rw [e]
      exact aa f.h q
     ·have ah:(Gv f.h id u.2).get id=match u.2 with|some B=>some B|none=>f.h.get id:=by rw [E9];cases u.2<;>simp
      cases hg:f.h.get id with
      |some B0=>
       have C:Ln f.h f'.h id=none:=by unfold Ln;rw [hg]
       rw [C]
       exact .inr ⟨n,J,hh,hs2,by omega⟩
      |none=>
       have C:Ln f.h f'.h id=u.2:=by
        unfold Ln;rw [hg,e];show (Gv f.h id u.2).get id=u.2
        rw [ah,hg];cases u.2<;>rfl
       rw [C]
       exact .inr ⟨n,_,XG hh,aa J hs2,by omega⟩
   obtain ⟨u,j,hF⟩:=early hy C H pre U.rest hclo.2 (fun z A=>hflo z (by simp only [List.cons_append,List.mem_cons];exact .inr A)) (fun z A=>hW z (by simp [A])) hd ad ao ac
    (fun k z v B A d=>by have:=hE (k+1) z v B (by simpa using A) d;rw [show id+(k+1)=id+1+k from by omega]at this;exact this)
    (fun k z A d=>by have:=hN (k+1) z (by simpa using A) d;rw [show id+(k+1)=id+1+k from by omega]at this;exact this)
   refine ⟨u,?_,hfut.1,.inl ⟨f',O,hF⟩⟩
   rw [lC,show id+(pre.length+1)=id+1+pre.length from by omega]
   exact j
end
end Go.AM
end
section
namespace Go.AM
section
variable {ρ:Env} {μ μ' μ0:Aq} {h h' h0 h1:Al} {w w' w0:World}
theorem Aw.sub (H:AO ρ μ h w) (g:h'.next=h.next) (d:h'.fx=h.fx) (hs:∀b B,h'.get b=some B→h.get b=some B):Aw ρ μ h w μ h' w:=
 ⟨μ.le_refl,H.drop _ g d hs,Nat.le_refl _,fun r _ j=>⟨rfl,fun ⟨c,B,δ,hc,hm⟩=>j ⟨c,B,δ,hs c B hc,hm⟩⟩,rfl,rfl,Nat.le_of_eq g.symm,fun _ _=>rfl,fun _ _ h=>.inl h,d⟩
theorem Aw.under (H:AO ρ μ h w) (hn:h0.next=h.next) (hs:∀b B,h0.get b=some B→h.get b=some B) (g:Aw ρ μ h0 w μ' h1 w') (ah:h'.next=h1.next) (O:h'.fx=h1.fx) (P:h0.fx=h.fx)
  (J:∀b B,h'.get b=some B→h1.get b=some B∨(h.get b=some B∧h0.get b=none)):Aw ρ μ h w μ' h' w':=by
 have un:∀{b B r δ},h.get b=some B→h0.get b=none→μ b=some (r,δ)→¬AU μ h0 r:=fun {b B r δ} hb h0b d ⟨c,C,D,hc,hmc⟩=>by
  have:=H.inj _ _ _ _ _ _ _ (hs c C hc) hb hmc d
  subst this
  rw [h0b]at hc
  cases hc
 have old:∀{b B},h.get b=some B→h0.get b=none→∃r δ,μ b=some (r,δ)∧μ' b=some (r,δ)∧w'.heap[r]?=w.heap[r]?∧¬AU μ' h1 r∧CI ρ μ B w.heap[r]? δ:=fun {b B} hb h0b=>by
  obtain ⟨r,δ,d,hB⟩:=H.blk b B hb
  obtain ⟨U,Q⟩:=g.kept r (H.lt hb d) (un hb h0b d)
  exact ⟨r,δ,d,g.le.to _ _ d,U,Q,hB⟩
 have A:∀r,r<w.heap.size→¬AU μ h r→w'.heap[r]?=w.heap[r]?∧¬AU μ' h' r:=fun r hr ho=>by
  have x:¬AU μ h0 r:=fun ⟨c,C,δ,hc,d⟩=>ho ⟨c,C,δ,hs c C hc,d⟩
  obtain ⟨U,Q⟩:=g.kept r hr x
  refine ⟨U,?_⟩
  rintro ⟨b,B,δ,hb,d⟩
  rcases J b B hb with h1b|⟨hb',h0b⟩
  ·exact Q ⟨b,B,δ,h1b,d⟩
  ·obtain ⟨X,D,q,j,_⟩:=old hb' h0b
   rw [j]at d
   simp only [oI,Prod.mk.injEq]at d
   obtain ⟨rfl,_⟩:=d
   exact ho ⟨b,B,D,hb',q⟩
 have Z:∀k o,μ'.Bg k=some o→μ.Bg k=some o∨AU μ h k∨w.heap.size≤k:=fun k o y=>by
  rcases g.icy k o y with h1|⟨c,C,δ,hc,d⟩|h1
  ·exact .inl h1
  ·exact .inr (.inl ⟨c,C,δ,hs c C hc,d⟩)
  ·exact .inr (.inr h1)
 have N:Y8 ρ μ' h' w':=by
  refine ⟨fun k o y=>?_,fun k o y=>?_,O▸g.rel.AY.facts⟩
  ·obtain ⟨M,R⟩:=H.AY.AY k o y
   obtain ⟨q3,q4⟩:=A k (Array.getElem?_eq_some_iff.1 M).1 R
   exact ⟨q3.trans M,q4⟩
  ·obtain ⟨M,R⟩:=g.rel.AY.Bg k o y
   refine ⟨M,?_⟩
   rintro ⟨b,B,δ,hb,d⟩
   rcases J b B hb with h1b|⟨hb',h0b⟩
   ·exact R ⟨b,B,δ,h1b,d⟩
   ·obtain ⟨X,D,q,j,_⟩:=old hb' h0b
    rw [j]at d
    simp only [oI,Prod.mk.injEq]at d
    obtain ⟨rfl,_⟩:=d
    rcases g.icy _ o y with i1|i1|i1
    ·exact (H.AY.Bg _ o i1).2 ⟨b,B,D,hb',q⟩
    ·exact un hb' h0b q i1
    ·have:=H.lt hb' q;omega
 refine ⟨g.le,⟨fun b hb=>g.rel.fresh b (by omega),fun b B hb=>?_,fun b c B C r δ D hb hc z v=>?_,N⟩,g.size,A,g.os,g.output,by have:=g.next;omega,fun b hb=>g.old b (by omega),Z,by rw [O,g.fx,P]⟩
 ·rcases J b B hb with h1b|⟨hb',h0b⟩
  ·exact g.rel.blk b B h1b
  ·obtain ⟨r,δ,_,u,y,_,hB⟩:=old hb' h0b
   exact ⟨r,δ,u,by rw [y];exact hB.mono g.le⟩
 ·rcases J b B hb with h1b|⟨hb',h0b⟩<;>rcases J c C hc with h1c|⟨hc',h0c⟩
  ·exact g.rel.inj _ _ _ _ _ _ _ h1b h1c z v
  ·obtain ⟨X,δ2,_,u,_,x,_⟩:=old hc' h0c
   rw [u]at v
   simp only [oI,Prod.mk.injEq]at v
   obtain ⟨rfl,_⟩:=v
   exact absurd ⟨b,B,δ,h1b,z⟩ x
  ·obtain ⟨X,δ2,_,u,_,x,_⟩:=old hb' h0b
   rw [u]at z
   simp only [oI,Prod.mk.injEq]at z
   obtain ⟨rfl,_⟩:=z
   exact absurd ⟨c,C,D,h1c,v⟩ x
  ·obtain ⟨r1,δ1,q,j,_⟩:=old hb' h0b
   obtain ⟨r2,δ2,ad,aa,_⟩:=old hc' h0c
   rw [j]at z
   rw [aa]at v
   simp only [oI,Prod.mk.injEq]at z v
   obtain ⟨rfl,rfl⟩:=z
   obtain ⟨rfl,rfl⟩:=v
   exact H.inj _ _ _ _ _ _ _ hb' hc' q ad
theorem Aw.Aj4 (g:Aw ρ μ0 h0 w0 μ h w) {id:Nat} (P:h0.next≤id) (y:μ id=none) (O:id<h.next) (B:Block) (o:Obj) (δ:Nat×Nat)
  (hB:∀μ':Aq,μ.le μ'→CI ρ μ' B (some o) δ):Aw ρ μ0 h0 w0 (μ.put id (w.heap.size,δ)) (Gv h id (some B)) (w.alloc o):=by
 have H:=g.rel
 have v:μ.le (μ.put id (w.heap.size,δ)):=Aq.QE y
 have q:∀b d r j,(Gv h id (some B)).get b=some d→μ.put id (w.heap.size,δ) b=some (r,j)→(b=id∧r=w.heap.size)∨(h.get b=some d∧μ b=some (r,j)∧r<w.heap.size):=fun b d r j hb c=>by
  rw [E9]at hb
  by_cases e:b=id
  ·subst e
   rw [Aq.BQ]at c
   simp only [oI,Prod.mk.injEq]at c
   exact .inl ⟨rfl,c.1.symm⟩
  ·simp only [if_neg e]at hb
   rw [Aq.Cl _ _ e]at c
   exact .inr ⟨hb,c,H.lt hb c⟩
 have N:(w.alloc o).heap.size=w.heap.size+1:=by show (w.heap.push o).size=_;simp
 refine ⟨Aq.le_trans g.le v,⟨fun b hb=>?_,fun b d hb=>?_,fun b X U R r Z Q h1 M C D=>?_,H.Gr (fun r u x=>⟨World.D9 _ _ u,?_⟩)⟩,by have:=g.size;omega,fun r u x=>?_,g.os,g.output,by rw [Fb];exact g.next,fun b hb=>?_,fun k o z=>g.icy k o z,g.fx⟩
 ·rw [Fb]at hb
  rw [Aq.Cl _ _ (by omega)]
  exact H.fresh b hb
 ·rw [E9]at hb
  by_cases e:b=id
  ·subst e
   simp only [if_true,oI]at hb
   subst hb
   exact ⟨_,_,Aq.BQ _ _ _,by rw [World.heap_alloc_new];exact hB _ v⟩
  ·simp only [if_neg e]at hb
   obtain ⟨r,j,c,u⟩:=H.blk b d hb
   exact ⟨r,j,by rw [Aq.Cl _ _ e];exact c,by rw [World.D9 _ _ (H.lt hb c)];exact u.mono v⟩
 ·rcases q _ _ _ _ h1 C with ⟨e1,e2⟩|⟨g1,n1,l1⟩<;>rcases q _ _ _ _ M D with ⟨e3,e4⟩|⟨g2,n2,l2⟩
  ·rw [e1,e3]
  ·omega
  ·omega
  ·exact H.inj _ _ _ _ _ _ _ g1 g2 n1 n2
 ·rintro ⟨b,d,j,hb,c⟩
  rcases q _ _ _ _ hb c with ⟨_,e⟩|⟨g1,n1,_⟩
  ·omega
  ·exact x ⟨b,d,j,g1,n1⟩
 ·obtain ⟨J,A⟩:=g.kept r u x
  have:=g.size
  refine ⟨by rw [World.D9 _ _ (by omega)];exact J,?_⟩
  rintro ⟨b,d,j,hb,c⟩
  rcases q _ _ _ _ hb c with ⟨_,e⟩|⟨g1,n1,_⟩
  ·omega
  ·exact A ⟨b,d,j,g1,n1⟩
 ·rw [Aq.Cl _ _ (by omega)]
  exact g.old b hb
theorem Aw.reserve (H:AO ρ μ h w) (n:Nat):Aw ρ μ h w μ ⟨h.DP,h.next+n,h.fx⟩ w:=
 ⟨μ.le_refl,⟨fun b hb=>H.fresh b (by have:h.next+n≤b:=hb;omega),H.blk,H.inj,H.AY.of (fun _ _ c=>⟨rfl,c⟩) rfl rfl⟩,Nat.le_refl _,fun _ _ c=>⟨rfl,c⟩,rfl,rfl,Nat.le_add_right _ _,fun _ _=>rfl,fun _ _ h=>.inl h,rfl⟩
end
section
variable {P:Program} {Γ:Ao} {ρ:Env} {μ:Aq} {tm:Tr Aa} {a:Act} {w:World} {h:Al} {pl:List C3} {nt:Nat} {ops:Array Oper} {call:C1}
theorem Yh (J:Γ.AL ρ) (z:Bf ρ μ tm a) (M:nt≤a.tmps.size) (H:AO ρ μ h w) {o:Oper} {s:Step} {i:Nat} (N:ops[i]?=some o) (hs:NR P pl nt ops o s) {id:Nat} {u:Aa×Option Block}
  (c:HL Γ tm h id s=some u) {K:Act→World→Prop} {Q:Exit→Act→World→Prop} (y:u.2=none→∀v,Ag ρ μ u.1 v→K (a.put s.dst v) w)
  (C:∀B,u.2=some B→∀A m v,(∀μ':Aq,μ.le μ'→CI ρ μ' B (some A) (0,m))→(∀μ':Aq,μ.le μ'→μ' id=some (w.heap.size,0,m)→Ag ρ μ' u.1 v)→K (a.put s.dst v) (w.alloc A)):wpOp P ops Q i K a w:=by
 refine Kj N ?_
 unfold HL at c
 obtain ⟨b,hb,c⟩:=Ac c
 rw [ES z hs.guard (fun d b e=>Nat.lt_of_lt_of_le (hs.seen d b e) M) hb]
 rw [hs.dst]at y C
 cases b with
 |false=>
  simp only [cond_false,oI]at c
  subst c
  simp only [Bool.false_eq_true,if_false]
  exact y rfl _ IJ
 |true=>
  simp only [cond_true]at c
  simp only [if_true]
  have j:=hs.op
  unfold UN at c
  split at c
  ·rename_i q x
   rw [x]at j
   obtain ⟨v,hv,c⟩:=Ac c
   simp only [oI]at c
   subst c
   obtain ⟨D,g,k⟩:=M9 (w:=w) J z j hv
   unfold Oper.wp
   rw [g]
   exact y rfl _ k
  ·rename_i q x
   rw [x]at j
   obtain ⟨v,hv,c⟩:=Ac c
   simp only [oI]at c
   subst c
   obtain ⟨D,g,k⟩:=M7 J H z j hv
   unfold Oper.wp
   rw [g]
   exact y rfl _ k
  ·rename_i q x
   rw [x]at j
   obtain ⟨⟨B,v⟩,hv,c⟩:=Ac c
   simp only [oI]at c
   subst c
   obtain ⟨A,D,g,m,hB,k⟩:=OY (w:=w) z j hv
   unfold Oper.wp
   rw [g]
   exact C B rfl A m D hB k
  ·cases c
theorem HT {c:Array Bool} {j:Nat} (q:j∈Region.ready .any ops c):∀e∈CZ ops j,c.getD e false=true:=fun e d=>by
 obtain ⟨_,o,k,g⟩:=mem_ready.1 q
 unfold CZ at d
 rw [k]at d
 simp only [List.mem_map,List.mem_filter]at d
 obtain ⟨x,⟨hx,hb⟩,rfl⟩:=d
 exact g x (Array.mem_toList_iff.1 hx) hb
theorem M6 {c:Array Bool} {j:Nat} {o:Oper} (d:ops[j]?=some o) (hl:c.getD j true=false) (h:∀e∈CZ ops j,c.getD e false=true):j∈Region.ready .any ops c:=
 mem_ready.2 ⟨hl,o,d,fun e g hb=>h e.on (by
  unfold CZ
  rw [d]
  simp only [List.mem_map,List.mem_filter]
  exact ⟨e,⟨Array.mem_toList_iff.2 g,hb⟩,rfl⟩)⟩
theorem Jv {before:List Nat} (hv:II ops before=true) {c:Array Bool} (hc:∀j,c.getD j false=true→∀e∈CZ ops j,c.getD e false=true):
  ∀(n j:Nat),j<n→j<ops.size→(∀e∈CZ ops j,c.getD e false=true)→∀i,i<ops.size→waits before i j=true→c.getD i false=true
 |0,_,hj,_,_,_,_,_=>by omega
 |n+1,j,hj,hjs,hl,i,hi,hw=>by
  unfold II at hv
  have h1:=List.all_eq_true.1 hv j (List.mem_range.2 hjs)
  have o:=List.all_eq_true.1 h1 i (List.mem_range.2 hi)
  rw [hw]at o
  simp only [Bool.not_true,Bool.false_or,List.any_eq_true,aT,Bool.or_eq_true]at o
  obtain ⟨e,q,g,d⟩:=o
  have g:e<j:=AX.1 g
  have k:=hl e q
  rcases d with d|d
  ·rw [←An.1 d];exact k
  ·exact Jv hv hc n e (by omega) (by omega) (hc e k) i hi d
end
end Go.AM
end
section
namespace Go.AM
section
variable {P:Program} {Γ:Ao} {ρ:Env} {μ:Aq} {tm:Tr Aa} {a:Act} {w:World} {h:Al} {pl:List C3} {nt:Nat} {ops:Array Oper} {call:C1} {all:List Step} {W:Nat→Nat→Bool} {before:List Nat}
 {res:Co} {μ0:Aq} {h0:Al} {w0:World}
structure Hp (P:Program) (Γ:Ao) (ρ:Env) (call:C1) (pl:List C3) (nt:Nat) (ops:Array Oper) (W:Nat→Nat→Bool) (all:List Step) (res:Co) (μ0:Aq) (h0:Al) (w0:World)
  (q:List Item) (id:Nat) (f:Fr) (hs:List Al) (listed:Array Bool) (μ:Aq) (tm:Tr Aa) (h:Al) (a:Act) (w:World):Prop where
 ok:okD W (q.map Item.pair)=true
 src:∀x∈q,∃o,ops[x.i]?=some o∧NR P pl nt ops o x.s
 sub:∀x∈q,x.s∈all
 clo:Clo W q
 flo:∀x∈q,x.e≠none→BZ x.s.op=false
 run:Lv Γ call all (q.map (·.s)) id f hs=some res
 fut:Y7 Γ call q id f
 tmps:∀t,tm.get t=GD q f.tm.get t
 tr:Bf ρ μ tm a
 size:nt≤a.tmps.size
 mem:∀b,h.get b=EE q id f.h.get b
 next:h.next=f.h.next
 FE:Aw ρ μ0 h0 w0 μ h w
 low:h0.next≤id
 high:id+q.length≤f.h.next
 free:∀k,k<q.length→f.h.get (id+k)=none
 unb:∀k x,q[k]?=some x→(∀v B,x.e≠some (v,some B))→μ (id+k)=none
 defs:CH ρ μ f.df a.defers
 lsize:listed.size=ops.size
 lst:∀i,i<ops.size→(listed.getD i true=false↔∃x∈q,x.i=i∧x.e=none)
 closed:∀j,listed.getD j false=true→∀e∈CZ ops j,listed.getD e false=true
 lin:XZ ops (q.map (·.i))=true
 fx:h.fx=f.h.fx
theorem WK (h:Al) (id:Nat) (b:Option Block):(Gv h id b).fx=h.fx:=by cases b<;>rfl
theorem K4 {i:Nat} {r:List Nat} (h:XZ ops (i::r)=true):(∀e∈CZ ops i,e<i∧e∉r)∧XZ ops r=true:=by
 simp only [XZ,aT,List.all_eq_true]at h
 refine ⟨fun e d=>?_,h.2⟩
 have c:=h.1 e d
 refine ⟨AX.1 c.1,fun g=>?_⟩
 have:r.any (Nat.beq e)=true:=any_beq.2 g
 rw [this]at c;simp at c
theorem Hp.skip {x:Item} {r:List Item} {id:Nat} {f:Fr} {hs:List Al} {j:Array Bool} (D:Hp P Γ ρ call pl nt ops W all res μ0 h0 w0 (x::r) id f hs j μ tm h a w) {u:Aa×Option Block} (hx:x.e=some u):
  ∃M C,Hp P Γ ρ call pl nt ops W all res μ0 h0 w0 r (id+1) M C j μ tm h a w:=by
 have y:=Fj (x:=x.pair) (r:=r.map Item.pair) D.ok
 have A:=D.flo x (by simp) (by rw [hx];simp)
 have Q:=D.fut.1 u hx
 have q:=J1 (call:=call) A Q
 have c:=D.run
 simp only [List.map_cons,GI]at c
 obtain ⟨_,c⟩:=Ap c
 rw [q]at c
 have c:Lv Γ call all (r.map (·.s)) (id+1) ⟨DX f.tm x.s.dst u.1,Gv f.h id u.2,f.df⟩ (bif BZ x.s.op then f.h::hs else Mx id (Ln f.h (Gv f.h id u.2) id) hs)=some res:=c
 rw [A]at c
 have o:∀b,b≠id→(Gv f.h id u.2).get b=f.h.get b:=fun b hb=>by
  rw [E9]
  split
  ·rw [if_neg hb]
  ·rfl
 have H:=D.high
 simp only [lC]at H
 refine ⟨_,_,⟨y.rest,fun z d=>D.src z (by simp [d]),fun z d=>D.sub z (by simp [d]),D.clo.2,fun z d=>D.flo z (by simp [d]),c,?_,fun t=>?_,D.tr,D.size,fun b=>?_,?_,D.FE,?_,?_,fun k R=>?_,fun k z d N=>?_,D.defs,D.lsize,fun i O=>?_,D.closed,(K4 D.lin).2,by rw [D.fx];exact (WK _ _ _).symm⟩⟩
 ·rcases D.fut.2 with ⟨g,hg,hf⟩|hf
  ·rw [q]at hg
   simp only [oI,Co.go.injEq]at hg
   subst hg
   exact hf
  ·exact Ip hf
 ·rw [D.tmps t]
  simp only [GD,hx]
  by_cases hd:x.s.dst=some t
  ·rw [if_pos hd,DK,DW,if_pos hd]
   intro z d _ J
   exact (y.apart z.pair (List.mem_map_of_mem d)).dst t hd J
  ·rw [if_neg hd]
   exact Ew (by rw [DW,if_neg hd])
 ·rw [D.mem b]
  obtain ⟨v,B⟩:=u
  simp only [EE,hx]
  cases B with
  |none=>simp only;exact GF rfl
  |some B=>
   simp only
   by_cases hb:b=id
   ·rw [if_pos hb,Je (by omega),E9]
    simp [hb]
   ·rw [if_neg hb]
    exact GF (o b hb).symm
 ·rw [D.next];exact (Fb _ _ _).symm
 ·have:=D.low;omega
 ·show id+1+r.length≤(Gv f.h id u.2).next
  rw [Fb];omega
 ·show (Gv f.h id u.2).get (id+1+k)=none
  rw [o _ (by omega)]
  have:=D.free (k+1) (by simp;omega)
  rw [show id+1+k=id+(k+1)from by omega];exact this
 ·have:=D.unb (k+1) z (by simpa using d) N
  rw [show id+1+k=id+(k+1)from by omega];exact this
 ·rw [D.lst i O]
  constructor
  ·rintro ⟨z,d,e1,e2⟩
   simp only [List.mem_cons]at d
   rcases d with rfl|d
   ·rw [hx]at e2;cases e2
   ·exact ⟨z,d,e1,e2⟩
  ·rintro ⟨z,d,e1,e2⟩
   exact ⟨z,by simp [d],e1,e2⟩
theorem WO:∀{pre:List Item} {y:Item} {post:List Item},okD W ((pre++y::post).map Item.pair)=true→(∀x∈pre,X4 W x.pair y.pair)∧∀z∈post,X4 W y.pair z.pair
 |[],y,post,h=>⟨fun _ hx=>(by cases hx),fun z c=>(Fj (x:=y.pair) (r:=post.map Item.pair) h).apart z.pair (List.mem_map_of_mem c)⟩
 |x::pre,y,post,h=>by
  have d:=Fj (x:=x.pair) (r:=(pre++y::post).map Item.pair) h
  obtain ⟨j,g⟩:=WO (pre:=pre) d.rest
  refine ⟨fun z c=>?_,g⟩
  simp only [List.mem_cons]at c
  rcases c with rfl|c
  ·exact d.apart y.pair (List.mem_map_of_mem (by simp))
  ·exact j z c
theorem SW {g:Nat→Option Aa} {u:Aa×Option Block} {y:Item} {post:List Item} (c:y.e=none) {t:Nat}:∀{pre:List Item},(∀x∈pre,x.e≠none→x.s.dst=some t→y.s.dst≠some t)→
  GD (pre++{y with e:=some u}::post) g t=if y.s.dst=some t then some u.1 else GD (pre++y::post) g t
 |[],_=>by simp [GD,c]
 |x::pre,h=>by
  have ih:=SW (g:=g) (u:=u) (y:=y) (post:=post) c (t:=t) (pre:=pre) fun z d=>h z (by simp [d])
  simp only [List.cons_append,GD]
  cases hx:x.e with
  |none=>exact ih
  |some v=>
   simp only
   rw [ih]
   by_cases h1:x.s.dst=some t
   ·rw [if_pos h1,if_pos h1,if_neg (h x (by simp) (by rw [hx];simp) h1)]
   ·rw [if_neg h1,if_neg h1]
theorem Nl {g:Nat→Option Block} {v:Aa} {oB:Option Block} {y:Item} {post:List Item} (c:y.e=none) {b:Nat}:∀{pre:List Item} {id:Nat},
  EE (pre++{y with e:=some (v,oB)}::post) id g b=match oB with|some B=>if b=id+pre.length then some B else EE (pre++y::post) id g b|none=>EE (pre++y::post) id g b
 |[],id=>by cases oB<;>simp [EE,c]
 |x::pre,id=>by
  have ih:=Nl (g:=g) (v:=v) (oB:=oB) (y:=y) (post:=post) c (b:=b) (pre:=pre) (id:=id+1)
  simp only [List.cons_append,EE,lC]
  rw [ih]
  cases oB with
  |none=>rfl
  |some B=>
   simp only
   rw [show id+1+pre.length=id+(pre.length+1)from by omega]
   by_cases hb:b=id+(pre.length+1)
   ·rw [if_pos hb,if_pos hb]
    split
    ·rw [if_neg (by omega)]
    ·rfl
   ·rw [if_neg hb,if_neg hb]
theorem Xl {y:Item} {post:List Item} {u:Aa×Option Block}:∀{pre:List Item},Clo W (pre++y::post)→(∀x∈pre,x.e=none→W x.i y.i=false)→Clo W (pre++{y with e:=some u}::post)
 |[],h,_=>⟨fun e=>(by cases e),h.2⟩
 |x::pre,h,hW=>by
  refine ⟨fun g z c d=>?_,Xl h.2 fun z c=>hW z (by simp [c])⟩
  have c:z∈pre++{y with e:=some u}::post:=c
  simp only [List.mem_append,List.mem_cons]at c
  rcases c with c|rfl|c
  ·exact h.1 g z (by simp [c]) d
  ·exact hW x (by simp) g
  ·exact h.1 g z (by simp [c]) d
theorem Hp.lt {q:List Item} {id:Nat} {f:Fr} {hs:List Al} {c:Array Bool} (D:Hp P Γ ρ call pl nt ops W all res μ0 h0 w0 q id f hs c μ tm h a w) {x:Item} (hx:x∈q):x.i<ops.size:=by
 obtain ⟨o,d,_⟩:=D.src x hx
 exact (Array.getElem?_eq_some_iff.1 d).1
theorem Aa9 {c:Array Bool} {i:Nat} (h:c.getD i true=false):c.getD i false=false:=by
 rcases Nat.lt_or_ge i c.size with h'|h'
 ·simp [h']at h⊢;exact h
 ·simp [Array.getElem?_eq_none h']at h
theorem Hp.apart {q:List Item} {id:Nat} {f:Fr} {hs:List Al} {c:Array Bool} (D:Hp P Γ ρ call pl nt ops (waits before) all res μ0 h0 w0 q id f hs c μ tm h a w) (hv:II ops before=true) {x:Item} (hx:x∈q) (g:x.e=none)
  {j:Nat} (o:j<ops.size) (u:∀e∈CZ ops j,c.getD e false=true):waits before x.i j=false:=by
 cases hw:waits before x.i j with
 |false=>rfl
 |true=>
  have k:=Jv hv D.closed (j+1) j (by omega) o u x.i (D.lt hx) hw
  have d:=Aa9 ((D.lst x.i (D.lt hx)).2 ⟨x,hx,rfl,g⟩)
  rw [k]at d
  cases d
theorem N9 {c:Array Bool} (hc:∀j,c.getD j false=true→∀e∈CZ ops j,c.getD e false=true) {i:Nat} (k:∀e∈CZ ops i,c.getD e false=true):
  ∀j,(c.setIfInBounds i true).getD j false=true→∀e∈CZ ops j,(c.setIfInBounds i true).getD e false=true:=fun j g e d=>by
 refine getD_set_true ?_
 by_cases hij:i=j
 ·exact k e (hij▸d)
 ·rw [getD_set_ne false hij]at g
  exact hc j g e d
theorem ID {c:Array Bool} {i:Nat} (h:i<c.size):(c.setIfInBounds i true).getD i true=true:=by
 simp [h]
theorem QW {y:Item} {pre post:List Item} {z:Item} (k:Nat):(pre++z::post)[k]?=if k=pre.length then some z else (pre++y::post)[k]?:=by
 by_cases hk:k=pre.length
 ·subst hk
  simp
 ·rw [if_neg hk]
  by_cases hlt:k<pre.length
  ·rw [List.getElem?_append_left hlt,List.getElem?_append_left hlt]
  ·rw [List.getElem?_append_right (by omega),List.getElem?_append_right (by omega)]
   have:k-pre.length=(k-pre.length-1)+1:=by omega
   rw [this,List.getElem?_cons_succ,List.getElem?_cons_succ]
theorem Hp.Adu {pre:List Item} {y:Item} {post:List Item} {id:Nat} {f:Fr} {hs:List Al} {d:Array Bool} (D:Hp P Γ ρ call pl nt ops (waits before) all res μ0 h0 w0 (pre++y::post) id f hs d μ tm h a w)
  (hΓ:Γ.AL ρ) (hv:II ops before=true) (R:y.e=none) (hm:BZ y.s.op=false) (hr:y.i∈Region.ready .any ops d) {K:Act→World→Prop} {Q:Exit→Act→World→Prop}
  (hK:∀u z ao H a' w',Hp P Γ ρ call pl nt ops (waits before) all res μ0 h0 w0 (pre++{y with e:=some u}::post) id f hs (d.setIfInBounds y.i true) z ao H a' w'→K a' w'):wpOp P ops Q y.i K a w:=by
 have N:y∈pre++y::post:=by simp
 obtain ⟨o,ho,M⟩:=D.src y N
 have ab:=D.lt N
 have aa:=HT hr
 have hW:∀x∈pre++y::post,x.e=none→waits before x.i y.i=false:=fun x hx J=>D.apart hv hx J ab aa
 obtain ⟨ac,av⟩:=WO D.ok
 have aj:(pre++y::post)[pre.length]?=some y:=by simp
 have O:μ (id+pre.length)=none:=D.unb _ _ aj fun v B e=>by rw [R]at e;cases e
 have ak:=D.high
 simp only [lA,lC]at ak
 obtain ⟨u,hu,ad⟩:=early (Γ:=Γ) (call:=call) (all:=all) (W:=waits before) (μ:=μ) (tm:=tm) (h:=h) (res:=res) (y:=y) (post:=post) R hm
  (fun q hq c hh v j=>Ui D.tr (by rw [←hq];exact M.op) hh j) pre D.ok D.clo D.flo (fun x hx J=>hW x (by simp [hx]) J) D.run D.fut (fun t _=>D.tmps t)
  (.inl fun b B hb hB=>by
   rw [D.mem b]
   rw [Nk]
   ·exact hB
   ·intro k x v B' c hx e
    have aq:=(List.getElem?_eq_some_iff.1 c).1
    have:=D.free k aq
    rw [←e,hB]at this
    cases this)
  (fun k x v B c hx=>by
   rw [D.mem]
   exact Re (by rw [List.getElem?_append_left (List.getElem?_eq_some_iff.1 c).1];exact c) hx)
  (fun k x c hx=>D.unb k x (by rw [List.getElem?_append_left (List.getElem?_eq_some_iff.1 c).1];exact c) fun v B e=>by rw [hx]at e;cases e)
 have fin:∀(z:Aq) (H:Al) (w':World) (v:Value),μ.le z→Ag ρ z u.1 v→Aw ρ μ0 h0 w0 z H w'→H.next=h.next→(∀b,H.get b=EE (pre++{y with e:=some u}::post) id f.h.get b)→(∀b,b≠id+pre.length→z b=μ b)→(u.2=none→z=μ)→
   Hp P Γ ρ call pl nt ops (waits before) all res μ0 h0 w0 (pre++{y with e:=some u}::post) id f hs (d.setIfInBounds y.i true) z (DX tm y.s.dst u.1) H (a.put y.s.dst v) w':=fun z H w' v C j hg U ae hμ au=>by
  have g:∀{x:Item},x∈pre++{y with e:=some u}::post→x∈pre++y::post∨x={y with e:=some u}:=fun {x} hx=>by
   simp only [List.mem_append,List.mem_cons]at hx⊢
   rcases hx with hx|rfl|hx
   ·exact .inl (.inl hx)
   ·exact .inr rfl
   ·exact .inl (.inr (.inr hx))
  have Z:(pre++{y with e:=some u}::post).map Item.pair=(pre++y::post).map Item.pair:=by simp [Item.pair]
  have X:(pre++{y with e:=some u}::post).map (·.s)=(pre++y::post).map (·.s):=by simp
  have af:(pre++{y with e:=some u}::post).map (·.i)=(pre++y::post).map (·.i):=by simp
  refine ⟨by rw [Z];exact D.ok,fun x hx=>?_,fun x hx=>?_,Xl D.clo fun x hx J=>hW x (by simp [hx]) J,fun x hx J=>?_,by rw [X];exact D.run,ad,fun t=>?_,(D.tr.mono C).put (fun t e=>?_) j,by rw [Act.Mt];exact D.size,ae,by rw [U];exact D.next,hg,D.low,?_,fun k c=>?_,fun k x c hx=>?_,?_,by simp [D.lsize],fun i hi=>?_,N9 D.closed aa,by rw [af];exact D.lin,by rw [hg.fx,←D.FE.fx];exact D.fx⟩
  ·rcases g hx with hx|rfl
   ·exact D.src x hx
   ·exact D.src y N
  ·rcases g hx with hx|rfl
   ·exact D.sub x hx
   ·exact D.sub y N
  ·rcases g hx with hx|rfl
   ·exact D.flo x hx J
   ·exact hm
  ·rw [SW R,DW,D.tmps t]
   intro x hx _ hd
   exact (ac x hx).dst t hd
  ·rw [M.dst]at e
   exact Nat.lt_of_lt_of_le (M.small t e) D.size
  ·have:=D.high
   simp only [lA,lC]at this⊢
   exact this
  ·refine D.free k ?_
   simp only [lA,lC]at c⊢
   exact c
  ·rw [QW (y:=y)]at c
   split at c
   ·rename_i e
    simp only [oI]at c
    subst c
    have ah:u.2=none:=by
     obtain ⟨v1,B1⟩:=u
     cases B1 with
     |none=>rfl
     |some B1=>exact absurd rfl (hx v1 B1)
    rw [au ah,e]
    exact O
   ·rename_i e
    rw [hμ _ (by omega)]
    exact D.unb k x c hx
  ·have:(a.put y.s.dst v).defers=a.defers:=by cases y.s.dst<;>rfl
   rw [this]
   exact D.defs.mono C
  ·by_cases e:y.i=i
   ·subst e
    rw [ID (by rw [D.lsize];exact ab)]
    constructor
    ·intro A;cases A
    ·rintro ⟨x,hx,e1,A⟩
     exfalso
     simp only [List.mem_append,List.mem_cons]at hx
     rcases hx with hx|rfl|hx
     ·exact (ac x hx).ne e1
     ·cases A
     ·exact (av x hx).ne e1.symm
   ·rw [getD_set_ne true e,D.lst i hi]
    constructor
    ·rintro ⟨x,hx,e1,A⟩
     simp only [List.mem_append,List.mem_cons]at hx
     rcases hx with hx|rfl|hx
     ·exact ⟨x,by simp [hx],e1,A⟩
     ·exact absurd e1 e
     ·exact ⟨x,by simp [hx],e1,A⟩
    ·rintro ⟨x,hx,e1,A⟩
     rcases g hx with hx|rfl
     ·exact ⟨x,hx,e1,A⟩
     ·cases A
 refine Yh hΓ D.tr D.size D.FE.rel ho M hu (fun U v j=>?_) (fun B hB ob m v an j=>?_)
 ·refine hK u μ (DX tm y.s.dst u.1) h _ _ (fin μ h w v μ.le_refl j D.FE rfl (fun b=>?_) (fun _ _=>rfl) fun _=>rfl)
  obtain ⟨u1,u2⟩:=u
  simp only at U
  subst U
  rw [Nl R,D.mem b]
 ·have az:=D.low
  have hg:=D.FE.Aj4 (id:=id+pre.length) (by omega) O (by rw [D.next];omega) B ob (0,m) an
  have C:μ.le (μ.put (id+pre.length) (w.heap.size,0,m)):=Aq.QE O
  refine hK u _ _ _ _ _ (fin _ _ _ v C (j _ C (Aq.BQ _ _ _)) hg (Fb _ _ _) (fun b=>?_) (fun b hb=>Aq.Cl _ _ hb) fun e=>by rw [hB]at e;cases e)
  obtain ⟨u1,u2⟩:=u
  simp only at hB
  subst hB
  rw [Nl R,E9,D.mem b]
end
end Go.AM
end
section
namespace Go.AM
noncomputable def O8:List Item→Nat→Al→Al
 |[],_,h=>h
 |x::r,id,h=>match x.e with
  |some (_,some B)=>Gv (O8 r (id+1) h) id (some B)
  |_=>O8 r (id+1) h
theorem NN:∀{q:List Item} {id:Nat} {h:Al} {b:Nat},(O8 q id h).get b=EE q id h.get b
 |[],_,_,_=>rfl
 |x::r,id,h,b=>by
  have ih:=NN (q:=r) (id:=id+1) (h:=h) (b:=b)
  simp only [O8,EE]
  cases hx:x.e with
  |none=>exact ih
  |some u=>
   obtain ⟨v,B⟩:=u
   cases B with
   |none=>exact ih
   |some B=>
    simp only
    rw [E9]
    simp only
    rw [ih]
theorem LZ:∀{q:List Item} {id:Nat} {h:Al},(O8 q id h).fx=h.fx
 |[],_,_=>rfl
 |x::r,id,h=>by
  simp only [O8]
  split
  ·rw [WK];exact LZ
  ·exact LZ
theorem Iw:∀{q:List Item} {id:Nat} {h:Al},(O8 q id h).next=h.next
 |[],_,_=>rfl
 |x::r,id,h=>by
  simp only [O8]
  split
  ·rw [Fb];exact Iw
  ·exact Iw
theorem Ng:∀{l:List Step} {tm:Tr Aa} {t:Nat},(forget l tm).get t=none∨((forget l tm).get t=tm.get t∧∀s∈l,s.dst≠some t)
 |[],tm,t=>.inr ⟨rfl,fun _ h=>(by cases h)⟩
 |s::r,tm,t=>by
  have g:forget (s::r) tm=forget r (match s.dst with|some d=>Tr.set tm d none|none=>tm):=rfl
  rw [g]
  rcases Ng (l:=r) (tm:=match s.dst with|some d=>Tr.set tm d none|none=>tm) (t:=t)with h|⟨h1,h2⟩
  ·exact .inl h
  ·cases hd:s.dst with
   |none=>
    rw [hd]at h1
    refine .inr ⟨h1,fun z c=>?_⟩
    simp only [List.mem_cons]at c
    rcases c with rfl|c
    ·rw [hd];simp
    ·exact h2 z c
   |some d=>
    rw [hd]at h1
    simp only [Tr.Bq]at h1
    by_cases e3:t=d
    ·rw [if_pos e3]at h1
     exact .inl h1
    ·rw [if_neg e3]at h1
     refine .inr ⟨h1,fun z c=>?_⟩
     simp only [List.mem_cons]at c
     rcases c with rfl|c
     ·rw [hd]
      intro j
      exact e3 (Option.some.inj j).symm
     ·exact h2 z c
section
variable {P:Program} {Γ:Ao} {ρ:Env} {μ:Aq} {tm:Tr Aa} {a:Act} {w:World} {h:Al} {pl:List C3} {nt:Nat} {ops:Array Oper} {call:C1} {all:List Step} {W:Nat→Nat→Bool} {before:List Nat}
 {res:Co} {μ0:Aq} {h0:Al} {w0:World}
theorem Hp.part {q:List Item} {id:Nat} {f:Fr} {hs:List Al} {c:Array Bool} (D:Hp P Γ ρ call pl nt ops W all res μ0 h0 w0 q id f hs c μ tm h a w):∀b B,f.h.get b=some B→h.get b=some B:=fun b B hB=>by
 rw [D.mem b,Nk]
 ·exact hB
 ·intro k x v g d hx e
  have:=D.free k (List.getElem?_eq_some_iff.1 d).1
  rw [←e,hB]at this
  cases this
theorem SE {x:Item} {r:List Item} {id:Nat} {f:Fr} {hs:List Al} {c:Array Bool} (D:Hp P Γ ρ call pl nt ops W all res μ0 h0 w0 (x::r) id f hs c μ tm h a w) {v:Aa} {k:Al} {d:Aq} {w':World} (hg:Aw ρ μ f.h w d k w')
  (g:res=.panic v ⟨forget all f.tm,k,f.df⟩) {Q:Exit→Act→World→Prop} (L:Dz ρ nt μ0 h0 w0 Q (FO res)) {u:Value} (hv:Ag ρ d v u):Q (.panic (Il u)) a w':=by
 subst g
 refine L d a w' _ ⟨fun t=>?_,D.size,hg.rel,D.defs.mono hg.le⟩ ((D.FE.trans (Aw.sub D.FE.rel D.next.symm D.fx.symm D.part)).trans hg) ⟨u,rfl,hv⟩
 show Ag ρ d (EB ((forget all f.tm).get t)) _
 rcases Ng (l:=all) (tm:=f.tm) (t:=t)with h1|⟨h1,h2⟩
 ·rw [h1];trivial
 ·rw [h1]
  have j:=(D.tr t).mono hg.le
  rw [D.tmps t,DK]at j
  ·exact j
  ·exact fun z o _=>h2 z.s (D.sub z o)
theorem Hp.change {x:Item} {r:List Item} {id:Nat} {f:Fr} {hs:List Al} {R:Array Bool} (D:Hp P Γ ρ call pl nt ops (waits before) all res μ0 h0 w0 (x::r) id f hs R μ tm h a w)
  (hc:BM P ρ call) (hv:II ops before=true) (hx:x.e=none) (hm:BZ x.s.op=true) (hr:x.i∈Region.ready .any ops R) {K:Act→World→Prop} {Q:Exit→Act→World→Prop} (L:Dz ρ nt μ0 h0 w0 Q (FO res))
  (hK:∀f' M aL h' a' w',Hp P Γ ρ call pl nt ops (waits before) all res μ0 h0 w0 r (id+1) f' (f.h::hs) (R.setIfInBounds x.i true) M aL h' a' w'→K a' w'):wpOp P ops Q x.i K a w:=by
 have hO:=Fj (x:=x.pair) (r:=r.map Item.pair) D.ok
 obtain ⟨o,ho,O⟩:=D.src x (by simp)
 have aJ:=D.lt (x:=x) (by simp)
 have aF:=HT hr
 have y:=D.run
 simp only [List.map_cons,GI]at y
 obtain ⟨_,y⟩:=Ap y
 obtain ⟨xr,A,y⟩:=Ac y
 have az:=A
 rw [OM hm]at A
 rw [hm]at y
 have ac:∀t∈x.s.names,tm.get t=f.tm.get t:=fun t hn=>by
  rw [D.tmps t]
  simp only [GD,hx]
  refine DK fun z j aE ai=>?_
  have N:=(hO.apart z.pair (List.mem_map_of_mem j)).writes t ai hn
  have h2:=D.clo.1 hx z j aE
  simp only [Item.pair]at N
  rw [N]at h2
  cases h2
 have av:Dk tm x.s.guard=Dk f.tm x.s.guard:=by
  unfold Dk
  cases hg:x.s.guard with
  |none=>rfl
  |some g=>
   dsimp only
   rw [ac g.1 (by simp [Step.names,hg])]
 have Hf:AO ρ μ f.h w:=D.FE.rel.drop _ D.next.symm D.fx.symm D.part
 have aG:=D.high
 simp only [lC]at aG
 have aC:∀(Z:Act) (u:Value),(Z.put x.s.dst u).defers=Z.defers:=fun Z u=>by cases x.s.dst<;>rfl
 have fin:∀(v:Aa) (u:Value) (M:Aq) (N:Al) (w':World) (af:List (FuncId×List Aa)) (Z:Act),xr=.go ⟨DX f.tm x.s.dst v,N,af⟩→Z.tmps=a.tmps→CH ρ M af Z.defers→Aw ρ μ f.h w M N w'→Ag ρ M v u→K (Z.put x.s.dst u) w':=fun v u M N w' af Z U ha aP g ae=>by
  subst U
  have y:Lv Γ call all (r.map (·.s)) (id+1) ⟨DX f.tm x.s.dst v,N,af⟩ (f.h::hs)=some res:=y
  have ap:∀k z,r[k]?=some z→∀J B,z.e=some (J,some B)→h.get (id+1+k)=some B:=fun k z j J B he=>by
   rw [D.mem]
   have:=Re (r:=x::r) (id:=id) (g:=f.h.get) (k:=k+1) (by simpa using j) he
   rw [show id+1+k=id+(k+1)from by omega];exact this
  have ah:∀k,k<r.length→f.h.get (id+1+k)=none:=fun k hk=>by
   have:=D.free (k+1) (by simp;omega)
   rw [show id+1+k=id+(k+1)from by omega];exact this
  have al:∀k z,r[k]?=some z→(∀J B,z.e≠some (J,some B))→μ (id+1+k)=none:=fun k z j he=>by
   have:=D.unb (k+1) z (by simpa using j) he
   rw [show id+1+k=id+(k+1)from by omega];exact this
  have an:Aw ρ μ h w M (O8 r (id+1) N) w':=by
   refine Aw.under D.FE.rel D.next.symm D.part g Iw LZ D.fx.symm fun b B hb=>?_
   rw [NN]at hb
   rcases Jd hb with hb|⟨k,z,J,j,he,rfl⟩
   ·exact .inl hb
   ·exact .inr ⟨ap k z j J B he,ah k (List.getElem?_eq_some_iff.1 j).1⟩
  have aH:Bf ρ M tm Z:=fun t=>by rw [ha];exact (D.tr t).mono g.le
  refine hK _ M (DX tm x.s.dst v) (O8 r (id+1) N) _ _ ⟨hO.rest,fun z j=>D.src z (by simp [j]),fun z j=>D.sub z (by simp [j]),D.clo.2,fun z j=>D.flo z (by simp [j]),y,?_,fun t=>?_,aH.put (fun t e=>?_) ae,by rw [Act.Mt,ha];exact D.size,fun b=>NN,Iw,D.FE.trans an,?_,?_,fun k hk=>?_,fun k z j he=>?_,by rw [aC];exact aP,by simp [D.lsize],fun i hi=>?_,N9 D.closed aF,(K4 D.lin).2,LZ⟩
  ·rcases D.fut.2 with ⟨g',hg',hf⟩|hf
   ·rw [az]at hg'
    simp only [oI,Co.go.injEq]at hg'
    subst hg'
    exact hf
   ·exact Ip hf
  ·rw [DW,D.tmps t]
   simp only [GD,hx]
   by_cases hd:x.s.dst=some t
   ·rw [if_pos hd,DK,DW,if_pos hd]
    intro z j _ ai
    exact (hO.apart z.pair (List.mem_map_of_mem j)).dst t hd ai
   ·rw [if_neg hd]
    exact Ew (by rw [DW,if_neg hd])
  ·rw [O.dst]at e
   rw [ha]
   exact Nat.lt_of_lt_of_le (O.small t e) D.size
  ·have:=D.low;omega
  ·show id+1+r.length≤N.next
   have:=g.next;omega
  ·show N.get (id+1+k)=none
   cases hb:N.get (id+1+k)with
   |none=>rfl
   |some B=>
    exfalso
    obtain ⟨s,δ,ay,_⟩:=g.rel.blk _ _ hb
    have aA:=g.old (id+1+k) (by omega)
    have X:=ay
    rw [aA]at X
    have j:r[k]?=some r[k]:=List.getElem?_eq_getElem hk
    have am:¬∀J B,(r[k]).e≠some (J,some B):=fun ab=>by
     rw [al k _ j ab]at X
     cases X
    have am:∃J B',(r[k]).e=some (J,some B'):=Classical.byContradiction fun ab=>am fun J B' e=>ab ⟨J,B',e⟩
    obtain ⟨J,B',he⟩:=am
    have hh:=ap k _ j J B' he
    have ab:¬AU μ f.h s:=fun ⟨c,C,δ',hc',hmc⟩=>by
     have:=D.FE.rel.inj _ _ _ _ _ _ _ (D.part c C hc') hh hmc X
     subst this
     rw [ah k hk]at hc'
     cases hc'
    exact (g.kept s (D.FE.rel.lt hh X) ab).2 ⟨_,B,δ,hb,ay⟩
  ·rw [g.old _ (by have:=(List.getElem?_eq_some_iff.1 j).1;omega)]
   exact al k z j he
  ·by_cases e:x.i=i
   ·subst e
    rw [ID (by rw [D.lsize];exact aJ)]
    constructor
    ·intro e2;cases e2
    ·rintro ⟨z,j,H,_⟩
     exact absurd H.symm (hO.apart z.pair (List.mem_map_of_mem j)).ne
   ·rw [getD_set_ne true e,D.lst i hi]
    constructor
    ·rintro ⟨z,j,H,e2⟩
     simp only [List.mem_cons]at j
     rcases j with rfl|j
     ·exact absurd H e
     ·exact ⟨z,j,H,e2⟩
    ·rintro ⟨z,j,H,e2⟩
     exact ⟨z,by simp [j],H,e2⟩
 refine Kj ho ?_
 unfold I7 at A
 obtain ⟨b,hb,A⟩:=Ac A
 rw [←av]at hb
 rw [ES D.tr O.guard (fun d b e=>Nat.lt_of_lt_of_le (O.seen d b e) D.size) hb]
 cases b with
 |false=>
  simp only [cond_false,oI]at A
  simp only [Bool.false_eq_true,if_false]
  rw [←O.dst]
  exact fin IK undef μ f.h w f.df a A.symm rfl D.defs (Aw.refl Hf) IJ
 |true=>
  simp only [cond_true]at A
  simp only [if_true]
  have ax:=O.op
  unfold WE at A
  split at A
  ·rename_i q H;rw [H]at hm;cases hm
  ·rename_i q H;rw [H]at hm;cases hm
  ·rename_i q H;rw [H]at hm;cases hm
  ·rename_i q H
   rw [H]at ax
   obtain ⟨aX,ag,A⟩:=Ac A
   obtain ⟨out,aD,U⟩:=MJ A
   have aN:DN tm f.tm q.Cg:=Fv fun t hn=>ac t (by
    unfold Step.names
    rw [H]
    split
    ·exact List.mem_cons_of_mem _ hn
    ·exact hn)
   rw [←Qy aN]at ag
   refine Sy hc Hf (Li Hf D.tr ax ag) aD ?_
   rw [←O.dst]
   cases out with
   |val v h'=>exact fun M u w' hg ae=>fin v u M h' w' f.df a U rfl (D.defs.mono hg.le) hg ae
   |panic v h'=>
    intro M u w' hg ae
    have U:xr=.panic v ⟨f.tm,h',f.df⟩:=U
    subst U
    simp only [SL]at y
    obtain ⟨_,y⟩:=Ap y
    simp only [oI]at y
    exact SE D hg y.symm L ae
   |defer g args=>
    intro d hd
    exact fin .any undef μ f.h w ((g,args)::f.df) {a with defers:=d::a.defers} U rfl ⟨d,a.defers,rfl,hd,D.defs⟩ (Aw.refl Hf) trivial
def left (q:List Item):Nat:=q.countP fun x=>x.e.isNone
theorem Yo (hΓ:Γ.AL ρ) (hc:BM P ρ call) (hv:II ops before=true) {Q:Exit→Act→World→Prop} (L:Dz ρ nt μ0 h0 w0 Q (FO res)):
  ∀(n:Nat) (q:List Item) {id:Nat} {f:Fr} {hs:List Al} {c:Array Bool} {μ:Aq} {tm:Tr Aa} {h:Al} {a:Act} {w:World},left q=n→
   Hp P Γ ρ call pl nt ops (waits before) all res μ0 h0 w0 q id f hs c μ tm h a w→wpAny P .any ops Q n c a w:=by
 intro n
 induction n with
 |zero=>
  intro q
  induction q with
  |nil=>
   intro id f hs c μ tm h a w _ D
   have A:some (Co.go f)=some res:=D.run
   simp only [oI]at A
   refine ⟨?_,?_⟩
   ·apply List.eq_nil_iff_forall_not_mem.2
    intro j k
    obtain ⟨H,o,R,_⟩:=mem_ready.1 k
    obtain ⟨x,hx,_⟩:=(D.lst j (Array.getElem?_eq_some_iff.1 R).1).1 H
    cases hx
   ·have hg:=D.FE.trans (Aw.sub D.FE.rel D.next.symm D.fx.symm D.part)
    rw [←A]at L
    refine L μ a w .normal ⟨fun t=>?_,D.size,hg.rel,D.defs⟩ hg rfl
    have:=D.tr t
    rw [D.tmps t]at this
    exact this
  |cons x r ih=>
   intro id f hs c μ tm h a w hl D
   cases hx:x.e with
   |none=>simp [left,hx]at hl
   |some u=>
    obtain ⟨X,_,g⟩:=D.skip hx
    exact ih (by simpa [left,hx]using hl) g
 |succ n ihn=>
  intro q
  induction q with
  |nil=>intro id f hs c μ tm h a w hl _;simp [left]at hl
  |cons x r ih=>
   intro id f hs c μ tm h a w hl D
   cases hx:x.e with
   |some u=>
    obtain ⟨X,_,g⟩:=D.skip hx
    exact ih (by simpa [left,hx]using hl) g
   |none=>
    have ab:=D.lt (x:=x) (by simp)
    obtain ⟨o,R,_⟩:=D.src x (by simp)
    have U:=K4 (i:=x.i) (r:=r.map (·.i)) D.lin
    have M:x.i∈Region.ready .any ops c:=by
     refine M6 R ((D.lst x.i ab).2 ⟨x,by simp,rfl,hx⟩) fun e he=>?_
     obtain ⟨H,C⟩:=U.1 e he
     cases hle:c.getD e true with
     |false=>
      exfalso
      obtain ⟨z,J,e1,_⟩:=(D.lst e (by omega)).1 hle
      simp only [List.mem_cons]at J
      rcases J with rfl|J
      ·omega
      ·exact C (e1▸List.mem_map_of_mem J)
     |true=>
      have:e<c.size:=by rw [D.lsize];omega
      simp [this]at hle⊢
      exact hle
    refine ⟨fun O=>?_,fun j k=>?_⟩
    ·rw [O]at M;cases M
    ·obtain ⟨H,oj,N,_⟩:=mem_ready.1 k
     obtain ⟨y,d,rfl,v⟩:=(D.lst j (Array.getElem?_eq_some_iff.1 N).1).1 H
     cases hm:BZ y.s.op with
     |false=>
      obtain ⟨pre,post,hq⟩:=List.append_of_mem d
      rw [hq]at D hl
      refine D.Adu hΓ hv v hm k fun u μ' ac h' a' w' g=>ihn _ ?_ g
      simp only [left,List.countP_append,List.countP_cons,v,Option.isNone_none,if_true]at hl⊢
      simp only [Option.isNone_some,Bool.false_eq_true,if_false]
      omega
     |true=>
      have aa:y=x:=by
       simp only [List.mem_cons]at d
       rcases d with d|d
       ·exact d
       ·exfalso
        have C:=((Fj (x:=x.pair) (r:=r.map Item.pair) D.ok).apart y.pair (List.mem_map_of_mem d)).chg hm
        have Z:=D.apart hv (x:=x) (by simp) hx (Array.getElem?_eq_some_iff.1 N).1 (HT k)
        simp only [Item.pair]at C
        rw [C]at Z
        cases Z
      subst aa
      refine D.change hc hv v hm k L fun X μ' ac h' a' w' g=>ihn _ ?_ g
      simpa [left,hx]using hl
theorem WD:∀l:List Step,BA l=l.length
 |[]=>rfl
 |_::r=>by show BA r+1=_;rw [WD r];rfl
theorem Tk:∀{l:List Item},(∀x∈l,x.e=none)→Clo W l
 |[],_=>trivial
 |x::r,h=>⟨fun _ z c d=>absurd (h z (by simp [c])) d,Tk fun z c=>h z (by simp [c])⟩
theorem Px:∀{l:List Item} {id:Nat} {g:Nat→Option Block} {b:Nat},(∀x∈l,x.e=none)→EE l id g b=g b
 |[],_,_,_,_=>rfl
 |x::r,id,g,b,h=>by
  simp only [EE,h x (by simp)]
  exact Px fun z c=>h z (by simp [c])
theorem UX (hΓ:Γ.AL ρ) (hc:BM P ρ call) (ae:P.follows .mixedOrders=true) {u:List Step} (c:N5 P pl nt ops=some u) {f:Fr} {r:Co} (hr:Lv Γ call u u f.h.next (HA (BA u) f) []=some r)
  (F:CV ρ μ nt f a w) {Q:Exit→Act→World→Prop} (L:Dz ρ nt μ f.h w Q (FO r)) {aj:Nat}:(Code.region aj ops true).wp P Q a w:=by
 unfold N5 at c
 simp only at c
 split at c
 ·cases c
 ·rename_i C _
  split at c
  ·rename_i v D
   split at c
   ·rename_i A
    simp only [oI]at c
    subst c
    generalize hord:Qz (Region.before ops) ops.size ((List.range ops.size).filter fun i=>(C[i]?.map BZ).getD false) []=order at D A
    generalize hbk:(fun i=>Abh (Region.before ops) ((List.range ops.size).filter fun i=>(C[i]?.map BZ).getD false) order i)=bk at D
    have Z:=Du D
    unfold AaU at A
    simp only [aT]at A
    obtain ⟨⟨y,U⟩,X,az,ah,ad,aa⟩:=A
    have y:=An.1 y
    have U:=An.1 U
    refine wp_region_any ae ?_
    have hq:∀(l:List Nat) (m:List Step),l.length=m.length→((l.zip m).map fun x=>(⟨x.1,x.2,none⟩:Item)).map Item.pair=l.zip m∧((l.zip m).map fun x=>(⟨x.1,x.2,none⟩:Item)).map (·.s)=m∧((l.zip m).map fun x=>(⟨x.1,x.2,none⟩:Item)).map (·.i)=l:=fun l m h=>by
     refine ⟨?_,?_,?_⟩
     ·rw [List.map_map];exact List.map_id'' (fun _=>rfl) _
     ·rw [List.map_map];exact List.map_snd_zip (by omega)
     ·rw [List.map_map];exact List.map_fst_zip (by omega)
    obtain ⟨q1,q2,H⟩:=hq order v y
    generalize hqq:((order.zip v).map fun x=>(⟨x.1,x.2,none⟩:Item))=q at q1 q2 H
    have g:∀x∈q,x.e=none:=fun x hx=>by
     rw [←hqq]at hx
     obtain ⟨z,_,rfl⟩:=List.mem_map.1 hx
     rfl
    have R:q.length=ops.size:=by
     have:=cL H
     rw [List.length_map]at this
     omega
    have J:left q=ops.size:=by
     rw [←R]
     unfold left
     rw [List.countP_eq_length]
     intro x hx
     rw [g x hx];rfl
    have N:∀i d,(Array.replicate ops.size false).getD i d=true→d=true∧ops.size≤i:=fun i d h=>by
     rcases Nat.lt_or_ge i ops.size with h'|h'
     ·simp [h']at h
     ·simp [Array.getElem?_eq_none,h']at h
      exact ⟨h,h'⟩
    refine Yo (all:=v) (pl:=pl) hΓ hc ad (L.grow (Aw.drew F.heap)) ops.size q (id:=f.h.next) (f:=HA (BA v) f) (hs:=[]) (μ:=μ) (tm:=f.tm) (h:=(HA (BA v) f).h) J ?_
    have ag:(HA (BA v) f).h.next=f.h.next+v.length:=by
     show f.h.next+BA v=_
     rw [WD]
    refine ⟨by rw [q1];exact aa,fun x hx=>?_,fun x hx=>?_,Tk g,fun x hx O=>absurd (g x hx) O,by rw [q2];exact hr,Ip g,fun t=>(DK fun z hz O=>absurd (g z hz) O).symm,F.tmps,F.size,fun b=>(Px g).symm,rfl,Aw.reserve F.heap.drew _,Nat.le_refl _,?_,fun k M=>?_,fun k x M O=>?_,F.defs,by simp,fun i hi=>?_,fun j hj=>?_,by rw [H];exact ah,rfl⟩
    ·have al:x.pair∈order.zip v:=by rw [←q1];exact List.mem_map_of_mem hx
     obtain ⟨k,M⟩:=List.mem_iff_getElem?.1 al
     rw [List.getElem?_zip_eq_some]at M
     obtain ⟨k1,k2⟩:=M
     have k3:(v.map some)[k]?=some (some x.s):=by rw [List.getElem?_map,k2];rfl
     rw [←Z,List.getElem?_map,k1]at k3
     simp only [Option.map_some,oI]at k3
     obtain ⟨o,ho,k4⟩:=Option.bind_eq_some_iff.1 k3
     exact ⟨o,ho,F5 k4⟩
    ·rw [←q2];exact List.mem_map_of_mem hx
    ·rw [ag];omega
    ·show f.h.get _=none
     cases hb:f.h.get (f.h.next+k)with
     |none=>rfl
     |some B=>
      have:=F.heap.F9 hb
      omega
    ·exact F.heap.fresh _ (Nat.le_add_right _ _)
    ·constructor
     ·intro _
      have h1:=List.all_eq_true.1 X i (List.mem_range.2 hi)
      have h2:=any_beq.1 h1
      rw [←H]at h2
      obtain ⟨x,hx,e⟩:=List.mem_map.1 h2
      exact ⟨x,hx,e,g x hx⟩
     ·intro _
      simp [hi]
    ·exact absurd (N j false hj).1 (by simp)
   ·cases c
  ·cases c
end
end Go.AM
end
section
namespace Go.AM
theorem Tr.Aap {α:Type} (g:α→α) (v:Option α) (l r:Tr α):Tr.map g (Tr.node v l r)=.node (v.map g) (Tr.map g l) (Tr.map g r):=rfl
theorem Tr.Aao {α:Type} (g:α→α) (n:Nat) (v:Option α) (t:Tr α):Tr.map g (Tr.over n v t)=.over n (v.map g) (Tr.map g t):=rfl
theorem Tr.get_map {α:Type} (g:α→α):∀(t:Tr α) (n:Nat),(Tr.map g t).get n=(t.get n).map g
 |.nil,n=>rfl
 |.node v l r,n=>by
  rw [Tr.Aap,Tr.Ea,Tr.Ea,Tr.get_map g l,Tr.get_map g r]
  cases Nat.beq n 0 with
  |true=>rfl
  |false=>cases Nat.beq (n%2) 1<;>rfl
 |.over m v t,n=>by
  rw [Tr.Aao,Tr.Fm,Tr.Fm,Tr.get_map g t]
  cases Nat.beq n m<;>rfl
section
variable {ρ:Env} {μ:Aq} {w:World} {h:Al} {b off len es j:Nat}
theorem Xb {r δ m:Nat} {c:Array Value} {e:TypeId} (F:Frz ρ μ b off len es j r δ m c e):∀{l:List Aa} {us:List Value},A9 ρ μ l us→A9 ρ μ (LO b off len es j l) us
 |[],us,h=>h
 |v::l,us,h=>by
  rw [Iq]
  simp only [A9]at h⊢
  obtain ⟨u,rest,rfl,d,g⟩:=h
  exact ⟨u,rest,rfl,(HI F d).1,Xb F g⟩
theorem AaC {r δ m:Nat} {c:Array Value} {e:TypeId} (F:Frz ρ μ b off len es j r δ m c e) {v:Aa} {u:Value} (hv:Ag ρ μ v u):Ag ρ μ (Af3 b off len es j v) u:=by
 unfold Af3
 split
 ·obtain ⟨x,e,hx⟩:=hv.agg
  subst e
  simp only [Ag]
  exact ⟨x,rfl,Rb F hx⟩
 ·obtain ⟨x,e,hx⟩:=hv.tuple
  subst e
  simp only [Ag]
  exact ⟨x,rfl,Xb F hx⟩
 ·exact (HI F hv).1
theorem AaB {r δ m:Nat} {c:Array Value} {e:TypeId} (F:Frz ρ μ b off len es j r δ m c e) {B:Block} {o:Option Obj} {x:Nat×Nat} (hB:CI ρ μ B o x):CI ρ μ (Ai4 b off len es j B) o x:=by
 cases B with
 |cells vs=>
  obtain ⟨d,t,z,A,hc⟩:=hB
  refine ⟨d,t,z,A,fun i a ha=>?_⟩
  rw [Nd]at ha
  obtain ⟨C,g,rfl⟩:=mS ha
  obtain ⟨v,y,u,k⟩:=hc i C g
  obtain ⟨q,D⟩:=HI F k
  exact ⟨v,y,by rw [D];exact u,q⟩
 |typed t vs=>
  obtain ⟨d,z,⟨H,hs⟩,A,hc⟩:=hB
  have hl:(LO b off len es j vs).length=vs.length:=by
   have:∀l:List Aa,(LO b off len es j l).length=l.length:=fun l=>by
    induction l with
    |nil=>rfl
    |cons v l ih=>rw [Iq];simp [ih]
   exact this vs
  refine ⟨d,z,⟨H,by rw [hl];exact hs⟩,A,fun i a ha=>?_⟩
  rw [Nd]at ha
  obtain ⟨C,g,rfl⟩:=mS ha
  obtain ⟨v,y,u,k⟩:=hc i C g
  obtain ⟨q,D⟩:=HI F k
  exact ⟨v,y,by rw [D];exact u,q⟩
 |map es clock=>exact hB
 |bytes n e=>exact hB
 |sbytes n e=>exact hB
 |list i es=>exact hB
 |smap i=>exact hB
theorem AaA {i:Nat} {t:ST} {r m:Nat} {c:Array Value} {e:TypeId} (hs:μ b=some (r,0,m)) (o:μ.Bg r=some (.cells c e (0,0))) (q:BU μ.Bg es c 0 (ρ.lst i)) (A:t.den ρ=((ρ.lst i).length:Int)) {v:Aa} {u:Value} (hv:Ag ρ μ v u):Ag ρ μ (QY b i es t v) u∧(QY b i es t v).single=v.single:=by
 unfold QY
 split
 ·rename_i x j n
  cases hc:Nat.beq b x&&(Nat.beq es j&&n.eq t)with
  |false=>exact ⟨hv,rfl⟩
  |true=>
   rw [aT,aT,An,An]at hc
   obtain ⟨rfl,rfl,d⟩:=hc
   have d:=ST.Bk d
   subst d
   obtain ⟨J,M,k,g,y,C,H,D⟩:=hv.vec
   rw [hs]at g
   simp only [oI,Prod.mk.injEq,true_and]at g
   obtain ⟨rfl,rfl⟩:=g
   have z:(ρ.lst i).length=k:=by omega
   refine ⟨?_,rfl⟩
   simp only [cond_true,Ag,I0]
   exact ⟨⟨Ca m,by omega,.inr ⟨r,0,c,e,by rw [z];exact y,⟨_,o⟩,q⟩⟩,A,fun e=>by cases e⟩
 ·exact ⟨hv,rfl⟩
theorem GB (b i es:Nat) (t:ST) (v:Aa) (r:List Aa):HH b i es t (v::r)=QY b i es t v::HH b i es t r:=rfl
theorem KF {i:Nat} {t:ST}:∀{l:List Aa} {k:Nat},(HH b i es t l)[k]?=(l[k]?).map (QY b i es t)
 |[],k=>by show ([]:List Aa)[k]?=_;simp
 |v::r,k=>by
  rw [GB]
  cases k with
  |zero=>simp
  |succ k=>simpa using KF (l:=r) (k:=k)
theorem SR {nt:Nat} {f:Fr} {a:Act} (F:CV ρ μ nt f a w) {B0:Block} {r:Nat} {x0:Nat×Nat} (hb:f.h.get b=some B0) (Q:μ b=some (r,x0)) (P:Aa→Aa) (y:Block→Block)
  (hA:∀v u,Ag ρ (μ.Ey r w.heap[r]?) v u→Ag ρ (μ.Ey r w.heap[r]?) (P v) u) (hB:∀B o x,CI ρ (μ.Ey r w.heap[r]?) B o x→CI ρ (μ.Ey r w.heap[r]?) (y B) o x):
  ∃μ',CV ρ μ' nt ⟨Tr.map P f.tm,⟨Tr.map y (Tr.set f.h.DP b none),f.h.next,f.h.fx⟩,f.df⟩ a w∧Aw ρ μ f.h w μ' ⟨Tr.map y (Tr.set f.h.DP b none),f.h.next,f.h.fx⟩ w:=by
 have H:=F.heap
 have J:AU μ f.h r:=⟨b,_,x0,hb,Q⟩
 have O:∀x,μ.Bg r=some x→w.heap[r]?=some x:=fun x hx=>absurd J (H.AY.Bg r x hx).2
 have A:μ.le (μ.Ey r w.heap[r]?):=Aq.JK O
 have j:∀d B,(⟨Tr.map y (Tr.set f.h.DP b none),f.h.next,f.h.fx⟩:Al).get d=some B→∃k,f.h.get d=some k∧B=y k∧d≠b:=fun d B hd=>by
  have hd:(Tr.map y (Tr.set f.h.DP b none)).get d=some B:=hd
  rw [Tr.get_map,Tr.Bq]at hd
  obtain ⟨k,z,D⟩:=mS hd
  by_cases e:d=b
  ·rw [if_pos e]at z;cases z
  ·rw [if_neg e]at z;exact ⟨k,z,D.symm,e⟩
 have c:∀s,AU (μ.Ey r w.heap[r]?) ⟨Tr.map y (Tr.set f.h.DP b none),f.h.next,f.h.fx⟩ s→AU μ f.h s∧s≠r:=fun s ⟨d,B,x,z,D⟩=>by
  obtain ⟨k,C,R,Z⟩:=j d B z
  exact ⟨⟨d,k,x,C,D⟩,fun e=>Z (H.inj _ _ _ _ _ _ _ C hb D (e▸Q))⟩
 have X:AO ρ (μ.Ey r w.heap[r]?) ⟨Tr.map y (Tr.set f.h.DP b none),f.h.next,f.h.fx⟩ w:=by
  refine ⟨fun d hd=>H.fresh d hd,fun d B hd=>?_,fun d d' B k s x x' z D m1 m2=>?_,⟨fun g o hg=>?_,fun g o hg=>?_,H.AY.facts⟩⟩
  ·obtain ⟨k,C,rfl,Z⟩:=j d B hd
   obtain ⟨s,x,e1,e2⟩:=H.blk d k C
   exact ⟨s,x,e1,hB _ _ _ (e2.mono A)⟩
  ·obtain ⟨B1,C,_,_⟩:=j _ _ z
   obtain ⟨B2,R,_,_⟩:=j _ _ D
   exact H.inj _ _ _ _ _ _ _ C R m1 m2
  ·obtain ⟨M,N⟩:=H.AY.AY g o hg
   exact ⟨M,fun e=>N (c g e).1⟩
  ·have hg:(if g=r then w.heap[r]? else μ.Bg g)=some o:=hg
   by_cases e:g=r
   ·subst e
    rw [if_pos rfl]at hg
    exact ⟨hg,fun q=>(c _ q).2 rfl⟩
   ·rw [if_neg e]at hg
    obtain ⟨M,N⟩:=H.AY.Bg g o hg
    exact ⟨M,fun q=>N (c g q).1⟩
 refine ⟨μ.Ey r w.heap[r]?,⟨fun t=>?_,F.size,X,F.defs.mono A⟩,⟨A,X,Nat.le_refl _,fun s _ hs=>⟨rfl,fun q=>hs (c s q).1⟩,rfl,rfl,Nat.le_refl _,fun _ _=>rfl,fun g o hg=>?_,rfl⟩⟩
 ·show Ag _ _ (EB ((Tr.map P f.tm).get t)) _
  rw [Tr.get_map]
  have U:=(F.tmps t).mono A
  cases hx:f.tm.get t with
  |none=>trivial
  |some v=>
   rw [hx]at U
   exact hA _ _ U
 ·have hg:(if g=r then w.heap[r]? else μ.Bg g)=some o:=hg
  by_cases e:g=r
  ·subst e;exact .inr (.inl J)
  ·rw [if_neg e]at hg;exact .inl hg
theorem QZ {Γ:Ao} (hΓ:Γ.AL ρ) {nt:Nat} {f:Fr} {a:Act} (F:CV ρ μ nt f a w) (z:Nat×Nat×Nat×Nat×Nat):∃Q,CV ρ Q nt (Ra Γ z f) a w∧Aw ρ μ f.h w Q (Ra Γ z f).h w:=by
 have same:∃Q,CV ρ Q nt f a w∧Aw ρ μ f.h w Q f.h w:=⟨μ,F,Aw.refl F.heap⟩
 have H:=F.heap
 unfold Ra
 split
 case h_3=>exact same
 ·rename_i vs hb
  cases hk:Pt Γ z.2.1 z.2.2.1 z.2.2.2.1 z.2.2.2.2 vs with
  |false=>exact same
  |true=>
  simp only [cond_true]
  obtain ⟨b,off,len,es,j⟩:=z
  simp only at hb hk⊢
  obtain ⟨cs,ab,ae,aa,hd⟩:=Nc hΓ hk
  obtain ⟨r,⟨δ,m⟩,g,c,t,C,ak,hc⟩:=H.blk b _ hb
  have A:AU μ f.h r:=⟨b,_,(δ,m),hb,g⟩
  have D:∀x,μ.Bg r=some x→w.heap[r]?=some x:=fun x hx=>absurd A (H.AY.Bg r x hx).2
  have O:μ.le (μ.Ey r w.heap[r]?):=Aq.JK D
  have U:AW μ.Bg c (δ+off) (ρ.lst j).flatten:=N3 hc ab hd
  have Z:Frz ρ (μ.Ey r w.heap[r]?) b off len es j r δ m c t:=by
   refine ⟨g,ae,?_,?_⟩
   ·show (if r=r then w.heap[r]? else μ.Bg r)=_
    rw [if_pos rfl];exact C
   ·exact BU.mono O.Bg (BB.2 ⟨aa,U⟩)
  exact SR F hb g _ _ (fun v u hv=>AaC Z hv) (fun B o x hB=>AaB Z hB)
 ·rename_i i es hb
  cases hk:Nat.beq i z.2.2.2.2 with
  |false=>exact same
  |true=>
  simp only [cond_true]
  split
  case h_2=>exact same
  rename_i t ht
  obtain ⟨r,⟨δ,m⟩,g,c,e,C,X,J,y,q,h4,h5⟩:=H.blk z.1 _ hb
  subst X
  have A:AU μ f.h r:=⟨z.1,_,(0,m),hb,g⟩
  have D:∀x,μ.Bg r=some x→w.heap[r]?=some x:=fun x hx=>absurd A (H.AY.Bg r x hx).2
  have O:μ.le (μ.Ey r w.heap[r]?):=Aq.JK D
  have hi:(μ.Ey r w.heap[r]?).Bg r=some (.cells c e (0,0)):=by
   show (if r=r then w.heap[r]? else μ.Bg r)=_
   rw [if_pos rfl];exact C
  have ht:t.den ρ=((ρ.lst i).length:Int):=hΓ.Ad _ (CE ht)
  have hv:∀{v:Aa} {u:Value},Ag ρ (μ.Ey r w.heap[r]?) v u→Ag ρ (μ.Ey r w.heap[r]?) (QY z.1 i es t v) u∧(QY z.1 i es t v).single=v.single:=fun {v u} h=>AaA (μ:=μ.Ey r w.heap[r]?) (m:=m) g hi (BU.mono O.Bg h5) ht h
  have ah:∀{l:List Aa} {us:List Value},Ay ρ (μ.Ey r w.heap[r]?) l us→Ay ρ (μ.Ey r w.heap[r]?) (HH z.1 i es t l) us:=by
   intro l
   induction l with
   |nil=>intro us h;exact h
   |cons v l ih=>
    intro us h
    rw [GB]
    simp only [Ay]at h⊢
    obtain ⟨u,rest,rfl,⟨J,y⟩,q⟩:=h
    obtain ⟨P,N⟩:=hv y
    exact ⟨u,rest,rfl,⟨by rw [N];exact J,P⟩,ih q⟩
  have ag:∀{l:List Aa} {us:List Value},A9 ρ (μ.Ey r w.heap[r]?) l us→A9 ρ (μ.Ey r w.heap[r]?) (HH z.1 i es t l) us:=by
   intro l
   induction l with
   |nil=>intro us h;exact h
   |cons v l ih=>
    intro us h
    rw [GB]
    simp only [A9]at h⊢
    obtain ⟨u,rest,rfl,y,q⟩:=h
    exact ⟨u,rest,rfl,(hv y).1,ih q⟩
  refine SR F hb g _ _ (fun v u M=>?_) (fun B o x hB=>?_)
  ·unfold AdQ
   split
   ·obtain ⟨x,e,hx⟩:=M.agg
    subst e
    simp only [Ag]
    exact ⟨x,rfl,ah hx⟩
   ·obtain ⟨x,e,hx⟩:=M.tuple
    subst e
    simp only [Ag]
    exact ⟨x,rfl,ag hx⟩
   ·exact (hv M).1
  ·cases B with
   |cells vs=>
    obtain ⟨d,t',C,g,hc⟩:=hB
    refine ⟨d,t',C,g,fun k a ha=>?_⟩
    rw [KF]at ha
    obtain ⟨a',R,rfl⟩:=mS ha
    obtain ⟨v,J,y,q⟩:=hc k a' R
    obtain ⟨P,N⟩:=hv q
    exact ⟨v,J,by rw [N];exact y,P⟩
   |typed t' vs=>
    obtain ⟨d,C,⟨X,hs⟩,g,hc⟩:=hB
    have hl:(HH z.1 i es t vs).length=vs.length:=by
     have:∀l:List Aa,(HH z.1 i es t l).length=l.length:=fun l=>by
      induction l with
      |nil=>rfl
      |cons v l ih=>rw [GB];simp [ih]
     exact this vs
    refine ⟨d,C,⟨X,by rw [hl];exact hs⟩,g,fun k a ha=>?_⟩
    rw [KF]at ha
    obtain ⟨a',R,rfl⟩:=mS ha
    obtain ⟨v,J,y,q⟩:=hc k a' R
    obtain ⟨P,N⟩:=hv q
    exact ⟨v,J,by rw [N];exact y,P⟩
   |map es clock=>exact hB
   |bytes n e=>exact hB
   |sbytes n e=>exact hB
   |list i es=>exact hB
   |smap i=>exact hB
theorem JT {Γ:Ao} (c:Γ.AL ρ) {nt:Nat} {a:Act}:∀(l:List (Nat×Nat×Nat×Nat×Nat)) {μ:Aq} {f:Fr},CV ρ μ nt f a w→∃d,CV ρ d nt (UL Γ l f) a w∧Aw ρ μ f.h w d (UL Γ l f).h w
 |[],μ,f,F=>⟨μ,F,Aw.refl F.heap⟩
 |z::l,μ,f,F=>by
  obtain ⟨o,g,g1⟩:=QZ c F z
  obtain ⟨k,j,g2⟩:=JT c l g
  exact ⟨k,j,g1.trans g2⟩
theorem Qp {Γ:Ao} (d:Γ.AL ρ) {nt:Nat} {h:Al} {Q:Exit→Act→World→Prop} {r:Bm×Fr} (L:Dz ρ nt μ h w Q (Qq Γ r)):Dz ρ nt μ h w Q r:=by
 unfold Qq at L
 split at L
 ·rename_i z l k v
  intro u q w' e F g c
  obtain ⟨o,j,g2⟩:=JT d (z::l) F
  rw [k]at c
  exact L o q w' e j (g.trans g2) c
 ·exact L
end
end Go.AM
end
section
namespace Go.AM
def empty (d:Nat) (fx:Ao:={}):Al:=⟨Tr.full Block d,0,fx⟩
theorem Ir (d:Nat) (fx:Ao) (b:Nat):(empty d fx).get b=none:=Tr.JO d b
theorem Nz {ρ:Env} {T:Nat→Option Obj} (d:Nat) {fx:Ao} (w:World) (c:∀g o,ρ.AY g=some o→w.heap[g]?=some o) (j:∀g o,T g=some o→w.heap[g]?=some o) (hf:fx.AL ρ):AO ρ ⟨fun _=>none,T⟩ (empty d fx) w where
 AY:=⟨fun g o h=>⟨c g o h,by rintro ⟨_,_,_,_,e⟩;cases e⟩,fun g o h=>⟨j g o h,by rintro ⟨_,_,_,_,e⟩;cases e⟩,hf⟩
 fresh:=fun _ _=>rfl
 blk:=fun b B hb=>by rw [Ir]at hb;cases hb
 inj:=fun b _ B _ _ _ _ hb=>by rw [Ir]at hb;cases hb
theorem Yn {ρ:Env} (d:Nat) (w:World) (c:∀g o,ρ.AY g=some o→w.heap[g]?=some o):AO ρ Aq.none (empty d) w:=
 Nz d w c (fun _ _ h=>by cases h) (Ao.AL.none ρ)
theorem Adc {σ:List Nat} {i b:Nat} (h:Cm σ i=some b):i<σ.length:=by
 rw [F8]at h
 exact (List.getElem?_eq_some_iff.1 h).1
theorem SA {n:Nat}:∀{l:List Nat},Aan n l=true↔n∈l
 |[]=>by
  constructor
  ·intro h;cases h
  ·intro h;cases h
 |m::r=>by
  have e:Aan n (m::r)=(Nat.beq m n||Aan n r):=rfl
  rw [e,Bool.or_eq_true,An,SA,List.mem_cons]
  constructor
  ·rintro (h|h)
   ·exact .inl h.symm
   ·exact .inr h
  ·rintro (h|h)
   ·exact .inl h.symm
   ·exact .inr h
theorem Fk:∀{l:List Nat},IU l=true→l.Nodup
 |[],_=>List.nodup_nil
 |n::r,h=>by
  have e:IU (n::r)=(!(Aan n r)&&IU r):=rfl
  rw [e,aT]at h
  refine List.nodup_cons.2 ⟨fun c=>?_,Fk h.2⟩
  rw [SA.2 c]at h
  cases h.1
theorem Fa:∀l:List Block,GO l=l.length
 |[]=>rfl
 |_::r=>by show GO r+1=_;rw [Fa r];rfl
theorem Gx:∀l:List (Option Block),Sv l=l.length
 |[]=>rfl
 |_::r=>by show Sv r+1=_;rw [Gx r];rfl
theorem Sx {σ:List Nat} (o:σ.Nodup) {i j b:Nat} (c:Cm σ i=some b) (d:Cm σ j=some b):i=j:=by
 rw [F8]at c d
 obtain ⟨u,g⟩:=List.getElem?_eq_some_iff.1 c
 obtain ⟨q,k⟩:=List.getElem?_eq_some_iff.1 d
 exact (List.getElem_inj o).1 (g.trans k.symm)
theorem Ge:∀(l:List (Option Block)) (k n i:Nat),(Lm l k n)[i]?=if k+i<l.length then some (n+i)else none
 |[],k,n,i=>by rw [if_neg (by simp)];show ([]:List Nat)[i]?=none;simp
 |_::r,0,n,i=>by
  show (n::Lm r 0 (n+1))[i]?=_
  cases i with
  |zero=>simp
  |succ i=>
   rw [List.getElem?_cons_succ,Ge r 0 (n+1) i]
   simp only [lC,Nat.zero_add,Nat.add_lt_add_iff_right]
   rw [show n+1+i=n+(i+1) by omega]
 |_::r,k+1,n,i=>by
  show (Lm r k n)[i]?=_
  rw [Ge r k n i,lC]
  by_cases hc:k+i<r.length
  ·rw [if_pos hc,if_pos (by omega)]
  ·rw [if_neg hc,if_neg (by omega)]
theorem Ci:∀(l:List Block) (h:Al),(Bi l h).next=h.next+l.length∧(Bi l h).fx=h.fx∧
  ∀b,(Bi l h).get b=if h.next≤b∧b<h.next+l.length then l[b-h.next]? else h.get b
 |[],h=>⟨rfl,rfl,fun b=>by rw [if_neg (by simp only [lN];omega)];rfl⟩
 |B::r,h=>by
  have e:Bi (B::r) h=Bi r (h.add B):=rfl
  obtain ⟨d,hf,c⟩:=Ci r (h.add B)
  rw [e]
  refine ⟨by rw [d,Al.JG,lC];omega,hf,fun b=>?_⟩
  rw [c b,Al.JG,lC,Al.JP]
  by_cases hb:b=h.next
  ·subst hb
   rw [if_neg (by omega),if_pos rfl,if_pos (by omega)]
   simp
  ·by_cases hc:h.next+1≤b∧b<h.next+1+r.length
   ·rw [if_pos hc,if_pos (by omega)]
    have:b-h.next=(b-(h.next+1))+1:=by omega
    rw [this,List.getElem?_cons_succ]
   ·rw [if_neg hc,if_neg hb,if_neg (by omega)]
theorem CG:∀(l:List (Option Block)) (h:Al),(CA l h).next=h.next+l.length∧(CA l h).fx=h.fx∧
  ∀b,(CA l h).get b=if h.next≤b∧b<h.next+l.length then (l[b-h.next]?).join else h.get b
 |[],h=>⟨rfl,rfl,fun b=>by rw [if_neg (by simp only [lN];omega)];rfl⟩
 |B::r,h=>by
  have e:CA (B::r) h=CA r ⟨Tr.set h.DP h.next B,h.next+1,h.fx⟩:=rfl
  obtain ⟨d,hf,c⟩:=CG r ⟨Tr.set h.DP h.next B,h.next+1,h.fx⟩
  rw [e]
  refine ⟨by rw [d,lC];show h.next+1+_=_;omega,hf,fun b=>?_⟩
  have hg:(⟨Tr.set h.DP h.next B,h.next+1,h.fx⟩:Al).get b=if b=h.next then B else h.get b:=Tr.Bq _ _ _ _
  rw [c b,lC,hg]
  show (if h.next+1≤b∧b<h.next+1+r.length then (r[b-(h.next+1)]?).join else _)=_
  by_cases hb:b=h.next
  ·subst hb
   rw [if_neg (by omega),if_pos rfl,if_pos (by omega)]
   simp
  ·by_cases hc:h.next+1≤b∧b<h.next+1+r.length
   ·rw [if_pos hc,if_pos (by omega)]
    have:b-h.next=(b-(h.next+1))+1:=by omega
    rw [this,List.getElem?_cons_succ]
   ·rw [if_neg hc,if_neg hb,if_neg (by omega)]
theorem C6 {d:Nat} {fx:Ao} {l:List Block} {b:Nat}:(Bi l (empty d fx)).get b=l[b]?:=by
 obtain ⟨_,_,h⟩:=Ci l (empty d fx)
 rw [h b]
 have e:(empty d fx).next=0:=rfl
 rw [e]
 by_cases hb:b<l.length
 ·rw [if_pos (by omega)];rfl
 ·rw [if_neg (by omega),Ir,List.getElem?_eq_none (by omega)]
theorem D8 {d:Nat} {fx:Ao} {l:List (Option Block)} {b:Nat}:(CA l (empty d fx)).get b=(l[b]?).join:=by
 obtain ⟨_,_,h⟩:=CG l (empty d fx)
 rw [h b]
 have e:(empty d fx).next=0:=rfl
 rw [e]
 by_cases hb:b<l.length
 ·rw [if_pos (by omega)];rfl
 ·rw [if_neg (by omega),Ir,List.getElem?_eq_none (by omega)];rfl
theorem Ce {d:Nat} {fx:Ao} {l:List Block}:(Bi l (empty d fx)).next=l.length:=by
 have h:=(Ci l (empty d fx)).1
 rw [h];show 0+_=_;omega
theorem DI {d:Nat} {fx:Ao} {l:List (Option Block)}:(CA l (empty d fx)).next=l.length:=by
 have h:=(CG l (empty d fx)).1
 rw [h];show 0+_=_;omega
section
variable {ρ:Env} {μ μ':Aq} {σ:List Nat}
structure Ren (μ' μ:Aq) (σ:List Nat):Prop where
 spot:∀i b,Cm σ i=some b→μ' i=μ b
 Bg:μ'.Bg=μ.Bg
theorem Sk (R:Ren μ' μ σ) {p a:Aa} (h:ZW σ p=some a) {u:Value}:(Ag ρ μ a u↔Ag ρ μ' p u)∧a.single=p.single:=by
 have d:=R.spot
 cases p<;>simp only [ZW,oI,reduceCtorEq]at h
 case ptr b o=>
  obtain ⟨c,hc,e⟩:=Ac h
  simp only [oI]at e
  subst e
  simp only [Ag,d _ _ hc,Aa.single,and_self]
 case slice b o l c=>
  obtain ⟨c,hc,e⟩:=Ac h
  simp only [oI]at e
  subst e
  simp only [Ag,d _ _ hc,Aa.single,and_self]
 case gslice b o l es=>
  obtain ⟨c,hc,e⟩:=Ac h
  simp only [oI]at e
  subst e
  simp only [Ag,d _ _ hc,Aa.single,and_self]
 case map b=>
  obtain ⟨c,hc,e⟩:=Ac h
  simp only [oI]at e
  subst e
  simp only [Ag,d _ _ hc,Aa.single,and_self]
 case vec b es n=>
  obtain ⟨c,hc,e⟩:=Ac h
  simp only [oI]at e
  subst e
  simp only [Ag,d _ _ hc,Aa.single,and_self]
 case vptr b es j o=>
  obtain ⟨c,hc,e⟩:=Ac h
  simp only [oI]at e
  subst e
  simp only [Ag,d _ _ hc,Aa.single,and_self]
 case gbytes b=>
  obtain ⟨c,hc,e⟩:=Ac h
  simp only [oI]at e
  subst e
  simp only [Ag,d _ _ hc,Aa.single,and_self]
 all_goals
  subst h
  simp only [Ag,R.Bg,Aa.single,and_self]
theorem Kt (R:Ren μ' μ σ):∀{l r:List Aa} {us:List Value},WI σ l=some r→(A9 ρ μ r us↔A9 ρ μ' l us)
 |[],r,us,h=>by
  have h:some []=some r:=h
  simp only [oI]at h
  subst h
  simp only [A9]
 |v::l,r,us,h=>by
  have h:(AF (ZW σ v) fun u=>AF (WI σ l) fun us=>some (u::us))=some r:=h
  obtain ⟨u,d,h⟩:=Ac h
  obtain ⟨g,c,h⟩:=Ac h
  simp only [oI]at h
  subst h
  simp only [A9,(Sk R d).1,Kt R c]
theorem Dd (R:Ren μ' μ σ) {p a:Aa} (h:JC σ p=some a) {u:Value}:(Ag ρ μ a u↔Ag ρ μ' p u)∧a.single=p.single:=by
 unfold JC at h
 split at h
 ·obtain ⟨x,hx,h⟩:=Ac h
  obtain ⟨y,c,h⟩:=Ac h
  simp only [oI]at h
  subst h
  simp only [Ag,Kt R hx,Kt R c,Aa.single,and_self]
 ·exact Sk R h
theorem XX {a:Aa} {u:Value} (h:Ag ρ μ a u):Ag ρ μ (loose a) u∧(loose a).single=a.single:=by
 cases a<;>simp only [loose,and_true]<;>try exact h
 case lst f i es n=>
  obtain ⟨d,c,_⟩:=h.lst
  exact ⟨by simp only [Ag];exact ⟨d,c,fun e=>by cases e⟩,rfl⟩
theorem Ex {Γ:Ao} (q:Γ.AL ρ) (R:Ren μ' μ σ) {p a:Aa} (h:HR Γ σ p a=true) {u:Value} (hv:Ag ρ μ a u):Ag ρ μ' p u∧p.single=a.single:=by
 unfold HR at h
 split at h
 ·rename_i v g
  rw [Bool.or_eq_true,Bool.or_eq_true]at h
  rcases h with (h|h) |h
  ·have h:=Aa.Dt h
   subst h
   obtain ⟨c,d⟩:=Dd (ρ:=ρ) R g (u:=u)
   exact ⟨c.1 hv,d.symm⟩
  ·have h:=Aa.Dt h
   subst h
   obtain ⟨c,d⟩:=Dd (ρ:=ρ) R g (u:=u)
   obtain ⟨z,A⟩:=XX hv
   exact ⟨c.1 z,by rw [←d,A]⟩
  ·split at h
   ·rename_i j C n
    rw [aT,aT]at h
    obtain ⟨o,k,x⟩:=h
    have ha:a=.nilSlice:=by
     unfold Aa4 at o
     split at o
     ·rfl
     ·cases o
    subst ha
    have hl:(ρ.lst j).length=0:=by
     unfold AaT at k
     split at k
     ·rename_i e
      have:=q.Ad _ (CE e)
      have this:(0:Int)=((ρ.lst j).length:Int):=this
      omega
     ·cases k
    have y:ρ.lst j=[]:=List.eq_nil_of_length_eq_zero hl
    have e:u=.slice none 0 0:=by simpa only [Ag]using hv
    obtain ⟨c,d⟩:=Dd (ρ:=ρ) R g (u:=u)
    refine ⟨c.1 ?_,by rw [←d];rfl⟩
    rw [ST.Bk x]
    simp only [Ag,I0]
    exact ⟨⟨0,by rw [hl];exact Nat.le_refl _,.inl ⟨y,none,e⟩⟩,by rw [hl];rfl,fun e=>by cases e⟩
   ·cases h
 ·cases h
theorem HQ {Γ:Ao} (p a:Aa) (ps as:List Aa):GG Γ σ (p::ps) (a::as)=(HR Γ σ p a&&GG Γ σ ps as):=rfl
theorem FQ {Γ:Ao}:∀{ps as:List Aa},GG Γ σ ps as=true→ps.length=as.length
 |[],[],_=>rfl
 |[],_::_,h=>by cases h
 |_::_,[],h=>by cases h
 |p::ps,a::as,h=>by
  rw [HQ,aT]at h
  simp [FQ h.2]
theorem Jg {Γ:Ao}:∀{ps as:List Aa},GG Γ σ ps as=true→∀(i:Nat) (p a:Aa),ps[i]?=some p→as[i]?=some a→HR Γ σ p a=true
 |[],[],_,i,p,a,h,_=>by simp at h
 |[],_::_,h,_,_,_,_,_=>by cases h
 |_::_,[],h,_,_,_,_,_=>by cases h
 |p::ps,a::as,h,i,q,b,h1,h2=>by
  rw [HQ,aT]at h
  cases i with
  |zero=>
   simp only [List.getElem?_cons_zero,oI]at h1 h2
   subst h1 h2
   exact h.1
  |succ i=>exact Jg h.2 i q b (by simpa using h1) (by simpa using h2)
theorem KH {Γ:Ao} (c:Γ.AL ρ) (R:Ren μ' μ σ):∀{ps as:List Aa} {us:List Value},GG Γ σ ps as=true→Ay ρ μ as us→Ay ρ μ' ps us
 |[],[],us,_,h=>by simp only [Ay]at h⊢;exact h
 |[],_::_,_,h,_=>by cases h
 |_::_,[],_,h,_=>by cases h
 |p::ps,a::as,us,h,hr=>by
  rw [HQ,aT]at h
  simp only [Ay]at hr⊢
  obtain ⟨u,rest,e,⟨g,d⟩,j⟩:=hr
  obtain ⟨o,k⟩:=Ex c R h.1 d
  exact ⟨u,rest,e,⟨by rw [k];exact g,o⟩,KH c R h.2 j⟩
theorem KL {Γ:Ao} (c:Γ.AL ρ) (R:Ren μ' μ σ) {p a:Aa} (h:Nx Γ σ p a=true) {u:Value} (d:Ag ρ μ a u):Ag ρ μ' p u:=by
 unfold Nx at h
 split at h
 ·obtain ⟨x,e,hx⟩:=d.agg
  subst e
  simp only [Ag]
  exact ⟨x,rfl,KH c R h hx⟩
 ·exact (Ex c R h d).1
theorem GH {Γ:Ao} (c:Γ.AL ρ) (R:Ren μ' μ σ):∀{ps as:List Aa} {us:List Value},KK Γ σ ps as=true→A9 ρ μ as us→A9 ρ μ' ps us
 |[],[],us,_,h=>by simp only [A9]at h⊢;exact h
 |[],_::_,_,h,_=>by cases h
 |_::_,[],_,h,_=>by cases h
 |p::ps,a::as,us,h,hr=>by
  have e:KK Γ σ (p::ps) (a::as)=(Nx Γ σ p a&&KK Γ σ ps as):=rfl
  rw [e,aT]at h
  simp only [A9]at hr⊢
  obtain ⟨u,rest,e,g,d⟩:=hr
  exact ⟨u,rest,e,KL c R h.1 g,GH c R h.2 d⟩
theorem MN {i:Nat} {v:List (Aa×List Aa)}:∀{l:List (Nat×List (Aa×List Aa))},Ux i l=some v→(i,v)∈l
 |[],h=>by cases h
 |e::r,h=>by
  have h:(bif Nat.beq e.1 i then some e.2 else Ux i r)=some v:=h
  cases c:Nat.beq e.1 i with
  |true=>
   rw [c]at h
   simp only [cond_true,oI]at h
   rw [←h,←Nat.eq_of_beq_eq_true c]
   exact List.mem_cons_self
  |false=>rw [c]at h;exact List.mem_cons_of_mem _ (MN h)
theorem Tc:∀{g:List Entry} {l:List (Aa×List Aa)} {ms:List MapEntry} {d:List (List Nat×List PV)},Af8 g l=true→Ab1 ρ l d→Cb ρ μ g ms→Jp μ.Bg d ms
 |[],[],ms,d,_,hd,h=>by
  have hd:d=[]:=hd
  subst hd
  exact h
 |[],_::_,_,_,h,_,_=>by cases h
 |_::_,[],_,_,h,_,_=>by cases h
 |e::g,x::l,ms,d,h,hd,hr=>by
  have h:(e.key.eq x.1&&((match e.val with|.agg cs=>Rt cs&&Aa.P0 (CU cs) x.2|_=>false)&&Af8 g l))=true:=h
  rw [aT,aT]at h
  obtain ⟨H,c,A⟩:=h
  obtain ⟨s,ps,rest,rfl,q,d2,y⟩:=hd
  obtain ⟨m,j,rfl,⟨_,N,o,_⟩,D⟩:=hr
  rw [←Aa.Dt H]at q
  obtain ⟨b,C,M⟩:=BV q N
  split at c
  ·rename_i cs u
   rw [aT]at c
   rw [u]at o
   obtain ⟨a,J,ha⟩:=o.agg
   have k:a.size=ps.length:=by
    have O:=ha.length
    have P:=d2.length
    have z:(CU cs).length=x.2.length:=by rw [Aa.Dh c.2]
    rw [FN]at z
    simp at O
    omega
   refine ⟨m,j,rfl,⟨b,C,M⟩,⟨a,J,k,?_⟩,Tc A y D⟩
   exact Ay.freeze (by rw [Aa.Dh c.2];exact d2) ha fun i v hv=>by simpa using hv
  ·cases c
theorem MA {i j:Nat}:∀{l:List (Nat×List AR)},(∀x∈l,B8 ρ x.2 (ρ.lst x.1))→Aae i j l=true→∃n,ρ.lst i=(ρ.lst j).take n
 |[],_,h=>by cases h
 |x::r,hl,h=>by
  have h:((Nat.beq x.1 i&&(match x.2 with|[.take k _]=>Nat.beq k j|_=>false)) ||Aae i j r)=true:=h
  rw [Bool.or_eq_true]at h
  rcases h with h|h
  ·rw [aT,An]at h
   obtain ⟨q,c⟩:=h
   have hd:=hl x List.mem_cons_self
   split at c
   ·rename_i k t e
    have c:=An.1 c
    rw [e,q,c]at hd
    obtain ⟨A,B,g,⟨_,_,o⟩,d⟩:=hd
    have d:B=[]:=d
    subst d
    rw [List.append_nil]at g
    exact ⟨_,g.trans o⟩
   ·cases c
  ·exact MA (fun y u=>hl y (List.mem_cons_of_mem _ u)) h
theorem Lu {Γ:Ao} (c:Γ.AL ρ) (R:Ren μ' μ σ):∀{ps as:List Entry} {ms:List MapEntry},Rh Γ σ ps as=true→Cb ρ μ as ms→Cb ρ μ' ps ms
 |[],[],ms,_,h=>h
 |[],_::_,ms,h,_=>by cases h
 |_::_,[],ms,h,_=>by cases h
 |p::ps,a::as,ms,h,he=>by
  have h:(HR Γ σ p.key a.key&&(HR Γ σ p.val a.val&&(Nat.beq p.born a.born&&Rh Γ σ ps as)))=true:=h
  rw [aT,aT,aT,An]at h
  obtain ⟨m,rest,rfl,⟨j,k,o,d⟩,u⟩:=he
  obtain ⟨q,g⟩:=Ex c R h.1 k
  exact ⟨m,rest,rfl,⟨by rw [g];exact j,q,(Ex c R h.2.1 o).1,by rw [d,h.2.2.1]⟩,Lu c R h.2.2.2 u⟩
theorem P3 {Γ:Ao} (z:Γ.AL ρ) (R:Ren μ' μ σ) {B A:Block} (h:Nw Γ σ B A=true) {o:Option Obj} {δ:Nat×Nat} (g:CI ρ μ A o δ):CI ρ μ' B o δ:=by
 unfold Nw at h
 split at h
 ·rename_i ps as
  obtain ⟨c,e,k,P,hc⟩:=g
  have hl:=FQ h
  refine ⟨c,e,k,P,fun i p C=>?_⟩
  have hi:=(List.getElem?_eq_some_iff.1 C).1
  obtain ⟨a,ha⟩:∃a,as[i]?=some a:=⟨_,List.getElem?_eq_getElem (by omega)⟩
  obtain ⟨v,q,x,N⟩:=hc i a ha
  obtain ⟨Z,Q⟩:=Ex z R (Jg h i p a C ha) N
  exact ⟨v,q,by rw [Q];exact x,Z⟩
 ·rename_i e ps e' as
  rw [aT,An]at h
  obtain ⟨rfl,h⟩:=h
  obtain ⟨c,k,⟨h0,hs⟩,P,hc⟩:=g
  have hl:=FQ h
  refine ⟨c,k,⟨h0,by rw [hl];exact hs⟩,P,fun i p C=>?_⟩
  have hi:=(List.getElem?_eq_some_iff.1 C).1
  obtain ⟨a,ha⟩:∃a,as[i]?=some a:=⟨_,List.getElem?_eq_getElem (by omega)⟩
  obtain ⟨v,q,x,N⟩:=hc i a ha
  obtain ⟨Z,Q⟩:=Ex z R (Jg h i p a C ha) N
  exact ⟨v,q,by rw [Q];exact x,Z⟩
 ·rename_i i es j ah
  rw [aT,Bool.or_eq_true,An,An]at h
  obtain ⟨h,rfl⟩:=h
  obtain ⟨c,e,u,y,M,O,X,J,H⟩:=g
  rcases h with rfl|h
  ·exact ⟨c,e,u,y,M,O,X,J,by rw [R.Bg];exact H⟩
  ·obtain ⟨n,hn⟩:=MA z.defs h
   refine ⟨c,e,u,y,?_,O,X,J,?_⟩
   ·rw [hn,lT'];omega
   ·rw [R.Bg,hn]
    rw [BB]at H⊢
    refine ⟨fun ps ac=>H.1 ps (List.mem_of_mem_take ac),?_⟩
    have:=H.2
    rw [←List.take_append_drop n (ρ.lst j),List.flatten_append,AW.append_iff]at this
    exact this.1
 ·have h:=An.1 h
  subst h
  obtain ⟨D,ms,c,u,y⟩:=g
  exact ⟨D,ms,c,u,by rw [R.Bg];exact y⟩
 ·rename_i ps c as d
  rw [aT,An]at h
  obtain ⟨rfl,h⟩:=h
  obtain ⟨D,ms,k,U⟩:=g
  exact ⟨D,ms,k,Lu z R h U⟩
 ·rename_i i es ab
  obtain ⟨l,hl,x⟩:=Ac (FC.1 h)
  simp only [oI]at x
  obtain ⟨D,ms,k,U⟩:=g
  exact ⟨D,ms,ab,k,by rw [R.Bg];exact Tc x (z.CM _ (MN hl)) U⟩
 ·rw [aT,An]at h
  obtain ⟨q,rfl⟩:=h
  rw [ST.Bk q]
  exact g
 ·rename_i t e n e'
  rw [aT,An]at h
  obtain ⟨q,rfl⟩:=h
  rw [ST.Bk q]
  obtain ⟨c,u,y,M,O,X,J⟩:=g
  refine ⟨c,u,y,M,?_,?_,J⟩
  ·show (BR _:Int)≤Int.ofNat n
   simp only [Int.ofNat_eq_natCast];omega
  ·show Int.ofNat n≤1048576
   simp only [Int.ofNat_eq_natCast];omega
 ·rw [aT,An,An]at h
  obtain ⟨rfl,rfl⟩:=h
  exact g
 ·cases h
theorem Nv {Γ:Ao} {h:Al}:∀{l:List Block} {k:Nat},Ym Γ h σ l k=true→∀i B,l[i]?=some B→∃b A,Cm σ (k+i)=some b∧h.get b=some A∧Nw Γ σ B A=true
 |[],_,_,i,vs,hv=>by simp at hv
 |W::r,k,hb,i,B,hv=>by
  have e:Ym Γ h σ (W::r) k=(eqB Γ h σ k W&&Ym Γ h σ r (k+1)):=rfl
  rw [e,aT]at hb
  cases i with
  |zero=>
   simp only [List.getElem?_cons_zero,oI]at hv
   subst hv
   have c:=hb.1
   unfold eqB at c
   split at c
   ·rename_i b d
    split at c
    ·rename_i A hg
     exact ⟨b,A,d,hg,c⟩
    ·cases c
   ·cases c
  |succ i=>
   obtain ⟨b,A,c,g,j⟩:=Nv hb.2 i B (by simpa using hv)
   exact ⟨b,A,by rw [←c];congr 1;omega,g,j⟩
theorem Ks:∀{l r:List Aa},M5 σ l=some r→l.length=r.length∧∀(i:Nat) (a:Aa),r[i]?=some a→∃p,l[i]?=some p∧JC σ p=some a
 |[],r,h=>by
  have h:some []=some r:=h
  simp only [oI]at h
  subst h
  exact ⟨rfl,fun i a ha=>by simp at ha⟩
 |v::l,r,h=>by
  have h:(AF (JC σ v) fun u=>AF (M5 σ l) fun us=>some (u::us))=some r:=h
  obtain ⟨u,g,h⟩:=Ac h
  obtain ⟨us,c,h⟩:=Ac h
  simp only [oI]at h
  subst h
  obtain ⟨j,d⟩:=Ks c
  refine ⟨by simp [j],fun i a ha=>?_⟩
  cases i with
  |zero=>
   simp only [List.getElem?_cons_zero,oI]at ha
   subst ha
   exact ⟨v,rfl,g⟩
  |succ i=>simpa using d i a (by simpa using ha)
theorem Qu (R:Ren μ' μ σ):∀{l r:List Aa} {us:List Value},M5 σ l=some r→Ay ρ μ' l us→Ay ρ μ r us
 |[],r,us,h,hr=>by
  have h:some []=some r:=h
  simp only [oI]at h
  subst h
  exact hr
 |v::l,r,us,h,hr=>by
  have h:(AF (JC σ v) fun u=>AF (M5 σ l) fun us=>some (u::us))=some r:=h
  obtain ⟨u,o,h⟩:=Ac h
  obtain ⟨y,c,h⟩:=Ac h
  simp only [oI]at h
  subst h
  simp only [Ay]at hr⊢
  obtain ⟨x,rest,rfl,⟨g,d⟩,j⟩:=hr
  obtain ⟨q,k⟩:=Dd (ρ:=ρ) R o (u:=x)
  exact ⟨x,rest,rfl,⟨by rw [k];exact g,q.2 d⟩,Qu R c j⟩
theorem WH (R:Ren μ' μ σ):∀{l r:List Aa} {us:List Value},M5 σ l=some r→A9 ρ μ' l us→A9 ρ μ r us
 |[],r,us,h,hr=>by
  have h:some []=some r:=h
  simp only [oI]at h
  subst h
  exact hr
 |v::l,r,us,h,hr=>by
  have h:(AF (JC σ v) fun u=>AF (M5 σ l) fun us=>some (u::us))=some r:=h
  obtain ⟨u,j,h⟩:=Ac h
  obtain ⟨o,c,h⟩:=Ac h
  simp only [oI]at h
  subst h
  simp only [A9]at hr⊢
  obtain ⟨x,rest,rfl,d,g⟩:=hr
  obtain ⟨k,q⟩:=Dd (ρ:=ρ) R j (u:=x)
  exact ⟨x,rest,rfl,k.2 d,WH R c g⟩
theorem ZS (R:Ren μ' μ σ) {p a:Aa} (h:AcO σ p=some a) {u:Value} (hv:Ag ρ μ' p u):Ag ρ μ a u:=by
 unfold AcO at h
 split at h
 ·obtain ⟨cs,c,e⟩:=Ac h
  simp only [oI]at e
  subst e
  obtain ⟨x,rfl,hx⟩:=hv.agg
  simp only [Ag]
  exact ⟨x,rfl,Qu R c hx⟩
 ·exact (Dd R h).1.2 hv
theorem Sj (R:Ren μ' μ σ):∀{l r:List Aa} {us:List Value},ZT σ l=some r→A9 ρ μ' l us→A9 ρ μ r us
 |[],r,us,h,hr=>by
  have h:some []=some r:=h
  simp only [oI]at h
  subst h
  exact hr
 |v::l,r,us,h,hr=>by
  have h:(AF (AcO σ v) fun u=>AF (ZT σ l) fun us=>some (u::us))=some r:=h
  obtain ⟨a,ha,g⟩:=Ac h
  obtain ⟨as,d,c⟩:=Ac g
  simp only [oI]at c
  subst c
  simp only [A9]at hr⊢
  obtain ⟨u,rest,rfl,k,j⟩:=hr
  exact ⟨u,rest,rfl,ZS R ha k,Sj R d j⟩
theorem Sl (R:Ren μ' μ σ) {p a:Aa} (h:Uh σ p=some a) {u:Value} (hv:Ag ρ μ' p u):Ag ρ μ a u:=by
 unfold Uh at h
 split at h
 ·obtain ⟨cs,c,e⟩:=Ac h
  simp only [oI]at e
  subst e
  obtain ⟨x,rfl,hx⟩:=hv.agg
  simp only [Ag]
  exact ⟨x,rfl,Qu R c hx⟩
 ·obtain ⟨cs,c,e⟩:=Ac h
  simp only [oI]at e
  subst e
  obtain ⟨x,rfl,hx⟩:=hv.tuple
  simp only [Ag]
  exact ⟨x,rfl,Sj R c hx⟩
 ·exact (Dd R h).1.2 hv
theorem OU (R:Ren μ' μ σ):∀{l r:List Entry} {ms:List MapEntry},ZU σ l=some r→Cb ρ μ' l ms→Cb ρ μ r ms
 |[],r,ms,h,he=>by
  have h:some []=some r:=h
  simp only [oI]at h
  subst h
  exact he
 |e::l,r,ms,h,he=>by
  have h:(AF (JC σ e.key) fun k=>AF (JC σ e.val) fun v=>AF (ZU σ l) fun c=>some (⟨k,v,e.born⟩::c))=some r:=h
  obtain ⟨k,x,h⟩:=Ac h
  obtain ⟨v,hv,h⟩:=Ac h
  obtain ⟨c,d,h⟩:=Ac h
  simp only [oI]at h
  subst h
  obtain ⟨m,rest,rfl,⟨g,y,j,q⟩,o⟩:=he
  obtain ⟨z,A⟩:=Dd (ρ:=ρ) R x (u:=m.key)
  exact ⟨m,rest,rfl,⟨by rw [A];exact g,z.2 y,(Dd R hv).1.2 j,q⟩,OU R d o⟩
theorem ZX (R:Ren μ' μ σ) {B C:Block} (h:XJ σ B=some C) {o:Option Obj} {δ:Nat×Nat} (hB:CI ρ μ' B o δ):CI ρ μ C o δ:=by
 unfold XJ at h
 split at h
 ·rename_i vs
  obtain ⟨us,g,e⟩:=Ac h
  simp only [oI]at e
  subst e
  obtain ⟨P,z⟩:=Ks g
  obtain ⟨c,e,d,y,hc⟩:=hB
  refine ⟨c,e,d,y,fun i a ha=>?_⟩
  obtain ⟨p,k,x⟩:=z i a ha
  obtain ⟨v,M,J,j⟩:=hc i p k
  obtain ⟨D,H⟩:=Dd (ρ:=ρ) R x (u:=v)
  exact ⟨v,M,by rw [H];exact J,D.2 j⟩
 ·rename_i t vs
  obtain ⟨us,g,e⟩:=Ac h
  simp only [oI]at e
  subst e
  obtain ⟨P,z⟩:=Ks g
  obtain ⟨c,d,⟨X,hs⟩,y,hc⟩:=hB
  refine ⟨c,d,⟨X,by rw [←P];exact hs⟩,y,fun i a ha=>?_⟩
  obtain ⟨p,k,x⟩:=z i a ha
  obtain ⟨v,M,J,j⟩:=hc i p k
  obtain ⟨D,H⟩:=Dd (ρ:=ρ) R x (u:=v)
  exact ⟨v,M,by rw [H];exact J,D.2 j⟩
 ·simp only [oI]at h
  subst h
  obtain ⟨c,e,A,N,Q,U,x5,x6,x7⟩:=hB
  exact ⟨c,e,A,N,Q,U,x5,x6,by rw [←R.Bg];exact x7⟩
 ·simp only [oI]at h
  subst h
  obtain ⟨q,ms,c,A,N⟩:=hB
  exact ⟨q,ms,c,A,by rw [←R.Bg];exact N⟩
 ·simp only [oI]at h
  subst h
  exact hB
 ·simp only [oI]at h
  subst h
  exact hB
 ·obtain ⟨es,O,e⟩:=Ac h
  simp only [oI]at e
  subst e
  obtain ⟨q,ms,d,Z⟩:=hB
  exact ⟨q,ms,d,OU R O Z⟩
theorem Uj (B:Option Block) (r:List (Option Block)) (i:Nat) (h:Al):OV σ (B::r) i h=AF (AcR σ i B h) fun c=>OV σ r (i+1) c:=rfl
theorem XM {i:Nat} {B:Option Block} {h g:Al} (c:AcR σ i B h=some g):g.next=h.next∧g.fx=h.fx∧∃b,Cm σ i=some b∧∃C,(match B with|some B=>∃D,XJ σ B=some D∧C=some D|none=>C=none)∧∀d,g.get d=if d=b then C else h.get d:=by
 unfold AcR at c
 obtain ⟨b,hb,c⟩:=Ac c
 cases B with
 |none=>
  simp only [oI]at c
  subst c
  exact ⟨rfl,rfl,b,hb,none,rfl,fun d=>Al.Bq _ _ _ _⟩
 |some B=>
  obtain ⟨D,j,c⟩:=Ac c
  simp only [oI]at c
  subst c
  exact ⟨rfl,rfl,b,hb,some D,⟨D,j,rfl⟩,fun d=>Al.Bq _ _ _ _⟩
theorem M8 (x:σ.Nodup):∀{l:List (Option Block)} {i:Nat} {h c:Al},OV σ l i h=some c→c.next=h.next∧c.fx=h.fx∧(∀b,(∀j,j<l.length→Cm σ (i+j)≠some b)→c.get b=h.get b)∧
  ∀j B,l[j]?=some B→∃b,Cm σ (i+j)=some b∧(match B with|some B=>∃D,XJ σ B=some D∧c.get b=some D|none=>c.get b=none)
 |[],i,h,c,g=>by
  have g:some h=some c:=g
  simp only [oI]at g
  subst g
  exact ⟨rfl,rfl,fun _ _=>rfl,fun j B hB=>by simp at hB⟩
 |B::r,i,h,c,g=>by
  rw [Uj]at g
  obtain ⟨O,z,A⟩:=Ac g
  obtain ⟨n1,M,b,hb,C,y,g1⟩:=XM z
  obtain ⟨n2,H,g2,g3⟩:=M8 x A
  refine ⟨n2.trans n1,H.trans M,fun d hd=>?_,fun j D q=>?_⟩
  ·have v:∀j,j<r.length→Cm σ (i+1+j)≠some d:=fun j J=>by
    rw [show i+1+j=i+(j+1) by omega];exact hd (j+1) (by simp;omega)
   have N:d≠b:=fun e=>by
    subst e;exact hd 0 (by simp) (by simpa using hb)
   rw [g2 d v,g1 d,if_neg N]
  ·cases j with
   |zero=>
    simp only [List.getElem?_cons_zero,oI]at q
    subst q
    have k:c.get b=C:=by
     have v:∀j,j<r.length→Cm σ (i+1+j)≠some b:=fun j J e=>by
      have:=Sx x hb e
      omega
     rw [g2 b v,g1 b,if_pos rfl]
    refine ⟨b,by simpa using hb,?_⟩
    cases B with
    |none=>exact k.trans y
    |some B=>obtain ⟨D,o,u⟩:=y;exact ⟨D,o,k.trans u⟩
   |succ j=>
    obtain ⟨d,o,u⟩:=g3 j D (by simpa using q)
    exact ⟨d,by rw [←o];congr 1;omega,u⟩
end
noncomputable def FL (μ:Aq) (σ:List Nat):Aq:=⟨fun i=>(Cm σ i).bind μ.spot,μ.Bg⟩
structure Fits (Γ:Ao) (h:Al) (σ:List Nat) (pre:List Block) (n:Nat):Prop where
 len:σ.length=pre.length
 ple:pre.length≤n
 nodup:σ.Nodup
 bs:Ym Γ h σ pre 0=true
section
variable {ρ:Env} {μ:Aq} {Γ:Ao} {h:Al} {w:World} {σ:List Nat} {pre:List Block} {post:List (Option Block)}
theorem Fits.lt (F:Fits Γ h σ pre post.length) (H:AO ρ μ h w):∀i b,Cm σ i=some b→i<pre.length∧b<h.next:=fun i b e=>by
 have c:=Adc e
 rw [F.len]at c
 obtain ⟨j,A,d,g,_⟩:=Nv F.bs i _ (List.getElem?_eq_getElem c)
 rw [Nat.zero_add,e]at d
 simp only [oI]at d
 subst d
 exact ⟨c,H.F9 g⟩
theorem Fits.ren:Ren (FL μ σ) μ σ:=⟨fun i b e=>by show (Cm σ i).bind μ.spot=_;rw [e];rfl,rfl⟩
theorem Fits.get (F:Fits Γ h σ pre post.length):∀b B,(Bi pre (empty 0)).get b=some B→∃c A,pre[b]?=some B∧Cm σ b=some c∧h.get c=some A∧Nw Γ σ B A=true:=fun b B e=>by
 rw [C6]at e
 obtain ⟨c,A,d,g,j⟩:=Nv F.bs b B e
 rw [Nat.zero_add]at d
 exact ⟨c,A,e,d,g,j⟩
theorem Fits.own (F:Fits Γ h σ pre post.length):∀r,AU (FL μ σ) (Bi pre (empty 0)) r→∃i b B δ,Cm σ i=some b∧h.get b=some B∧μ b=some (r,δ):=fun r ⟨b,B,δ,hb,hm⟩=>by
 obtain ⟨c,A,_,d,g,_⟩:=F.get b B hb
 rw [Fits.ren.spot b c d]at hm
 exact ⟨b,c,A,δ,d,g,hm⟩
theorem Fits.before (D:Γ.AL ρ) (F:Fits Γ h σ pre post.length) (H:AO ρ μ h w):AO ρ (FL μ σ) (Bi pre (empty 0)) w:=by
 have q:∀r,AU (FL μ σ) (Bi pre (empty 0)) r→AU μ h r:=fun r j=>by
  obtain ⟨i,b,B,δ,_,d,k⟩:=F.own r j
  exact ⟨b,B,δ,d,k⟩
 refine ⟨fun b hb=>?_,fun b B hb=>?_,fun b z B J r δ Q hb C u v=>?_,⟨fun g o e=>⟨(H.AY.AY g o e).1,fun j=>(H.AY.AY g o e).2 (q g j)⟩,fun g o e=>⟨(H.AY.Bg g o e).1,fun j=>(H.AY.Bg g o e).2 (q g j)⟩,?_⟩⟩
 ·rw [Ce]at hb
  show (Cm σ b).bind μ.spot=none
  cases e:Cm σ b with
  |none=>rfl
  |some c=>have:=(F.lt H b c e).1;omega
 ·obtain ⟨c,A,_,d,k,M⟩:=F.get b B hb
  obtain ⟨r,δ,u,O⟩:=H.blk c A k
  exact ⟨r,δ,by rw [Fits.ren.spot b c d];exact u,P3 D Fits.ren M O⟩
 ·obtain ⟨c,A,_,d,k,_⟩:=F.get b B hb
  obtain ⟨N,P,_,x,y,_⟩:=F.get z J C
  rw [Fits.ren.spot b c d]at u
  rw [Fits.ren.spot z N x]at v
  have:=H.inj _ _ _ _ _ _ _ k y u v
  subst this
  exact Sx F.nodup d x
 ·rw [(Ci pre (empty 0)).2.1]
  exact Ao.AL.none ρ
theorem Fits.after (F:Fits Γ h σ pre post.length) (H:AO ρ μ h w) {h1:Al} (an:OV (σ++Lm post pre.length h.next) post 0 ⟨h.DP,h.next+(post.length-pre.length),h.fx⟩=some h1) {μ':Aq} {w':World} (J:Aw ρ (FL μ σ) (Bi pre (empty 0)) w μ' (CA post (empty 0)) w'):
  ∃x,Aw ρ μ h w x h1 w'∧Ren μ' x (σ++Lm post pre.length h.next):=by
 have ax:=F.len
 have aE:=F.ple
 have aA:=F.nodup
 have U:=F.lt H
 have own:=F.own (μ:=μ)
 have al:∀r,AU (FL μ σ) (Bi pre (empty 0)) r→AU μ h r:=fun r ho=>by
  obtain ⟨i,b,B,δ,_,g,d⟩:=own r ho
  exact ⟨b,B,δ,g,d⟩
 generalize hσ':σ++Lm post pre.length h.next=σ' at an⊢
 have hσ'get:∀i b,Cm σ' i=some b↔(i<pre.length∧Cm σ i=some b)∨(pre.length≤i∧i<post.length∧b=h.next+(i-pre.length)):=fun i b=>by
  rw [←hσ',F8,F8]
  by_cases M:i<pre.length
  ·rw [List.getElem?_append_left (by omega)]
   constructor
   ·intro e;exact .inl ⟨M,e⟩
   ·rintro (⟨_,e⟩|⟨e,_⟩)
    ·exact e
    ·omega
  ·rw [List.getElem?_append_right (by omega),Ge,ax]
   constructor
   ·intro e
    split at e
    ·simp only [oI]at e
     exact .inr ⟨by omega,by omega,e.symm⟩
    ·cases e
   ·rintro (⟨e,_⟩|⟨P,e2,e3⟩)
    ·omega
    ·rw [if_pos (by omega),e3]
 have av:σ'.Nodup:=by
  rw [←hσ',List.nodup_append]
  refine ⟨aA,?_,fun a ha b hb e=>?_⟩
  ·rw [List.nodup_iff_pairwise_ne,List.pairwise_iff_getElem]
   intro i j M hj aH e
   have P:=List.getElem?_eq_getElem M
   have e2:=List.getElem?_eq_getElem hj
   rw [Ge]at P e2
   split at P<;>split at e2<;>simp at P e2
   omega
  ·subst e
   obtain ⟨i,M⟩:=List.mem_iff_getElem?.1 ha
   obtain ⟨j,hj⟩:=List.mem_iff_getElem?.1 hb
   rw [Ge]at hj
   split at hj
   ·simp only [oI]at hj
    have:=(U i a (by rw [F8];exact M)).2
    omega
   ·cases hj
 obtain ⟨n1,f1,g1,g2⟩:=M8 av an
 have n1:h1.next=h.next+(post.length-pre.length):=n1
 let x:Aq:=⟨fun b=>if h.next≤b∧b<h.next+(post.length-pre.length)then μ' (pre.length+(b-h.next))else μ b,μ'.Bg⟩
 have u:∀b,b<h.next→x b=μ b:=fun b hb=>by
  show (if _ then _ else _)=_
  rw [if_neg (by omega)]
 have Z:Ren μ' x σ':=⟨fun i b e=>by
  rcases (hσ'get i b).1 e with ⟨M,e⟩|⟨hi1,hi2,rfl⟩
  ·rw [u b (U i b e).2,J.old i (by rw [Ce];exact M)]
   exact Fits.ren.spot i b e
  ·show _=(if _ then _ else _)
   rw [if_pos (by omega)]
   congr 1;omega,rfl⟩
 have aq:μ.le x:=⟨fun b y e=>by
  have hb:b<h.next:=by
   rcases Nat.lt_or_ge b h.next with hb|hb
   ·exact hb
   ·rw [H.fresh b hb]at e;cases e
  rw [u b hb];exact e,fun k o e=>J.le.Bg k o e⟩
 have ae:∀b B,h1.get b=some B→(∃i O,Cm σ' i=some b∧(CA post (empty 0)).get i=some O∧XJ σ' O=some B)∨((∀i,Cm σ i≠some b)∧h.get b=some B):=fun b B hb=>by
  by_cases hex:∃i,Cm σ' i=some b
  ·obtain ⟨i,M⟩:=hex
   left
   have au:i<post.length:=by
    rcases (hσ'get i b).1 M with ⟨q,_⟩|⟨_,q,_⟩
    ·omega
    ·exact q
   obtain ⟨b',g,d⟩:=g2 i _ (List.getElem?_eq_getElem au)
   rw [Nat.zero_add,M]at g
   simp only [oI]at g
   subst g
   cases X:post[i]with
   |none=>rw [X]at d;simp only at d;rw [hb]at d;cases d
   |some O=>
    rw [X]at d
    obtain ⟨D,z,k4⟩:=d
    rw [hb]at k4
    simp only [oI]at k4
    subst k4
    refine ⟨i,O,M,?_,z⟩
    rw [D8,List.getElem?_eq_getElem au,X];rfl
  ·right
   have Q:∀i,Cm σ' i≠some b:=fun i e=>hex ⟨i,e⟩
   refine ⟨fun i e=>Q i ((hσ'get i b).2 (.inl ⟨(U i b e).1,e⟩)),?_⟩
   have:=g1 b fun j _=>by rw [Nat.zero_add];exact Q j
   rw [this]at hb
   exact hb
 have af:∀r,AU μ' (CA post (empty 0)) r→∀b B δ,(∀i,Cm σ i≠some b)→h.get b=some B→μ b=some (r,δ)→False:=fun r ho b B δ Q hb v=>by
  have aB:=H.lt hb v
  refine (J.kept r aB fun X=>?_).2 ho
  obtain ⟨i,c,C,δ',g,d,z⟩:=own r X
  have:=H.inj _ _ _ _ _ _ _ hb d v z
  subst this
  exact Q i g
 have am:∀r,AU x h1 r→AU μ' (CA post (empty 0)) r∨∃b B δ,(∀i,Cm σ i≠some b)∧h.get b=some B∧μ b=some (r,δ):=fun r ⟨b,B,δ,hb,v⟩=>by
  rcases ae b B hb with ⟨i,O,g,d,z⟩|⟨g,d⟩
  ·left
   rw [←Z.spot i b g]at v
   exact ⟨i,O,δ,d,v⟩
  ·right
   rw [u b (H.F9 d)]at v
   exact ⟨b,B,δ,g,d,v⟩
 have ag:∀r,r<w.heap.size→¬AU μ h r→w'.heap[r]?=w.heap[r]?∧¬AU x h1 r:=fun r hr ho=>by
  obtain ⟨N,R⟩:=J.kept r hr fun X=>ho (al r X)
  refine ⟨N,fun hq=>?_⟩
  rcases am r hq with hq|⟨b,B,δ,_,d,z⟩
  ·exact R hq
  ·exact ho ⟨b,B,δ,d,z⟩
 have ap:∀k o,μ'.Bg k=some o→μ.Bg k=some o∨AU (FL μ σ) (Bi pre (empty 0)) k∨w.heap.size≤k:=J.icy
 have H1:AO ρ x h1 w':=by
  refine ⟨fun b hb=>?_,fun b B hb=>?_,fun b b' B B' r δ δ' hb ay v A=>?_,⟨fun k o hk=>?_,fun k o hk=>?_,?_⟩⟩
  ·rw [n1]at hb
   show (if _ then _ else _)=none
   rw [if_neg (by omega)]
   exact H.fresh b (by omega)
  ·rcases ae b B hb with ⟨i,O,g,d,z⟩|⟨g,d⟩
   ·obtain ⟨r,δ,P,e2⟩:=J.rel.blk i O d
    exact ⟨r,δ,by rw [←Z.spot i b g];exact P,ZX Z z e2⟩
   ·obtain ⟨r,δ,P,e2⟩:=H.blk b B d
    refine ⟨r,δ,by rw [u b (H.F9 d)];exact P,?_⟩
    have Q:¬AU (FL μ σ) (Bi pre (empty 0)) r:=fun X=>by
     obtain ⟨i,c,C,δ',N,R,q3⟩:=own r X
     have:=H.inj _ _ _ _ _ _ _ d R P q3
     subst this
     exact g i N
    rw [(J.kept r (H.lt d P) Q).1]
    exact e2.mono aq
  ·rcases ae b B hb with ⟨i,O,g,d,z⟩|⟨g,d⟩<;>rcases ae b' B' ay with ⟨i',Bp',k1',k2',k3'⟩|⟨k1',k2'⟩
   ·rw [←Z.spot i b g]at v
    rw [←Z.spot i' b' k1']at A
    have:=J.rel.inj _ _ _ _ _ _ _ d k2' v A
    subst this
    rw [g]at k1'
    simpa using k1'
   ·rw [←Z.spot i b g]at v
    rw [u b' (H.F9 k2')]at A
    exact (af r ⟨i,O,δ,d,v⟩ b' B' δ' k1' k2' A).elim
   ·rw [←Z.spot i' b' k1']at A
    rw [u b (H.F9 d)]at v
    exact (af r ⟨i',Bp',δ',k2',A⟩ b B δ g d v).elim
   ·rw [u b (H.F9 d)]at v
    rw [u b' (H.F9 k2')]at A
    exact H.inj _ _ _ _ _ _ _ d k2' v A
  ·obtain ⟨N,R⟩:=H.AY.AY k o hk
   obtain ⟨q3,q4⟩:=ag k (Array.getElem?_eq_some_iff.1 N).1 R
   exact ⟨q3.trans N,q4⟩
  ·obtain ⟨N,R⟩:=J.rel.AY.Bg k o hk
   refine ⟨N,fun hq=>?_⟩
   rcases am k hq with hq|⟨b,B,δ,g,d,z⟩
   ·exact R hq
   ·rcases ap k o hk with i1|i1|i1
    ·exact (H.AY.Bg k o i1).2 ⟨b,B,δ,d,z⟩
    ·obtain ⟨i,c,C,δ',N,R,q3⟩:=own k i1
     have:=H.inj _ _ _ _ _ _ _ d R z q3
     subst this
     exact g i N
    ·have:=H.lt d z;omega
  ·rw [f1];exact H.AY.facts
 refine ⟨x,⟨aq,H1,J.size,ag,J.os,J.output,by rw [n1];omega,u,fun k o hk=>?_,f1⟩,Z⟩
 ·rcases ap k o hk with i1|i1|i1
  ·exact .inl i1
  ·exact .inr (.inl (al k i1))
  ·exact .inr (.inr i1)
end
end Go.AM
end
section
namespace Go.AM
section
variable {P:Program} {Γ:Ao} {ρ:Env} {pl:List C3} {nt:Nat} {call:C1} {fuel:Nat}
theorem Rf (d:Bool) (l:List Step) (k:Nat) (f:Fr):FH Γ call fuel (.region d l) k f=Qv Γ call d l f:=rfl
theorem Yk (a b:IC) (k:Nat) (f:Fr):FH Γ call fuel (.seq a b) k f=AF (FH Γ call fuel a k f) fun r=>andThen r fun c=>FH Γ call fuel b k c:=rfl
theorem Nq (c:C7) (a b:IC) (k:Nat) (f:Fr):FH Γ call fuel (.cond c a b) k f=AaY (ev f.tm c) (FH Γ call fuel a k f) (FH Γ call fuel b k f):=rfl
theorem SX (id:Nat) (b:IC) (k:Nat) (f:Fr):FH Γ call fuel (.block id b) k f=AF (FH Γ call fuel b id f) fun r=>some (G0 id r):=rfl
theorem UR (b:IC) (k:Nat) (f:Fr):FH Γ call fuel (.loop b) k f=iter (fun f=>IB Γ k f Γ.loops) (fun f=>FH Γ call fuel b k f) fuel f:=rfl
def Dn:Nat→Code→List (Nat×Code)
 |k,.seq a b=>Dn k a++Dn k b
 |k,.cond _ a b=>Dn k a++Dn k b
 |_,.block id b=>Dn id b
 |k,.loop b=>(k,b)::Dn k b
 |_,_=>[]
def BF.Py (k:BF):Exit:=bif k.out then .ret else .exit k.id
theorem BF.AaF (k:BF) {ρ:Env} {μ:Aq}:AbD ρ μ k.Nn k.Py:=by
 unfold BF.Nn BF.Py
 cases k.out<;>exact rfl
theorem BF.Ado {k:BF} {ρ:Env} {μ:Aq} {e:Exit} (h:AbD ρ μ k.Nn e):e=k.Py:=by
 unfold BF.Nn at h
 unfold BF.Py
 cases hk:k.out<;>rw [hk]at h<;>exact h
def Ee (P:Program) (ρ:Env) (nt:Nat) (x:Code) (k:BF):Prop:=
 ∃n,∀μ a w (Q:Exit→Act→World→Prop),CV ρ μ nt ⟨OA k.X5 .nil,Bi k.pre (empty 0),k.df⟩ a w→
  (∀c d w',CV ρ c nt ⟨OA k.Oa .nil,CA k.post (empty 0),k.df⟩ d w'→Aw ρ μ (Bi k.pre (empty 0)) w c (CA k.post (empty 0)) w'→Q k.Py d w')→Code.rounds P x Q n a w
def DB (P:Program) (ρ:Env) (nt:Nat) (l:List BF) (cur:Nat) (c:Code):Prop:=∀y∈Dn cur c,∀k∈l,k.id=y.1→Ee P ρ nt y.2 k
theorem DB.none {P:Program} {ρ:Env} {nt cur:Nat} {c:Code}:DB P ρ nt [] cur c:=fun _ _ k d=>by cases d
theorem PJ:∀(l:List (Nat×Aa)) (t:Tr Aa) (n:Nat) (v:Aa),(OA l t).get n=some v→(n,v)∈l∨t.get n=some v
 |[],t,n,v,e=>.inr e
 |x::l,t,n,v,e=>by
  have e:(OA l (t.set x.1 (some x.2))).get n=some v:=e
  rcases PJ l _ n v e with k|k
  ·exact .inl (List.mem_cons_of_mem _ k)
  ·rw [Tr.Bq]at k
   split at k
   ·rename_i hb
    simp only [oI]at k
    subst k
    rw [hb]
    exact .inl (List.mem_cons_self)
   ·exact .inr k
theorem KG {σ:List Nat} {t:Tr Aa}:∀{l:List (Nat×Aa)},Xd Γ σ t l=true→∀i v,(i,v)∈l→Nx Γ σ v (EB (t.get i))=true
 |[],_,b,B,hm=>by simp at hm
 |x::l,hf,b,B,hm=>by
  have hf:(Nx Γ σ x.2 (EB (t.get x.1))&&Xd Γ σ t l)=true:=hf
  rw [aT]at hf
  rcases List.mem_cons.1 hm with e|hm
  ·subst e
   exact hf.1
  ·exact KG hf.2 b B hm
theorem M4 {σ:List Nat}:∀{l:List (Nat×Aa)} {t t' u:Tr Aa},Ug σ l t=some t'→(∀n v,t.get n=some v→∃p,u.get n=some p∧Uh σ p=some v)→∀n v,t'.get n=some v→∃p,(OA l u).get n=some p∧Uh σ p=some v
 |[],t,t',u,h,ht,n,v,e=>by
  have h:some t=some t':=h
  simp only [oI]at h
  subst h
  exact ht n v e
 |x::l,t,t',u,h,ht,n,v,e=>by
  have h:(AF (Uh σ x.2) fun v=>Ug σ l (Tr.set t x.1 (some v)))=some t':=h
  obtain ⟨y,j,h⟩:=Ac h
  refine M4 (u:=u.set x.1 (some x.2)) h (fun m z c=>?_) n v e
  rw [Tr.Bq]at c
  by_cases hm:m=x.1
  ·rw [if_pos hm]at c
   simp only [oI]at c
   subst c
   exact ⟨x.2,by rw [Tr.Bq,if_pos hm],j⟩
  ·rw [if_neg hm]at c
   obtain ⟨p,d,g⟩:=ht m z c
   exact ⟨p,by rw [Tr.Bq,if_neg hm];exact d,g⟩
theorem Td {μ d:Aq} {σ:List Nat} (j:Γ.AL ρ) (R:Ren d μ σ) {p q:List (FuncId×List Aa)} (h:Adp Γ σ p q=true) {ds:List Deferred} (hd:CH ρ μ q ds):CH ρ d p ds:=by
 unfold Adp at h
 split at h
 ·exact hd
 ·rw [aT]at h
  obtain ⟨c,rest,k,⟨cap,o,g⟩,u⟩:=hd
  exact ⟨c,rest,k,⟨cap,by rw [o,An.1 h.1],GH j R h.2 g⟩,u⟩
 ·cases h
theorem XI {μ d:Aq} {σ:List Nat} (R:Ren d μ σ) {p q:List (FuncId×List Aa)} (h:ZV σ p=some q) {ds:List Deferred} (hd:CH ρ d p ds):CH ρ μ q ds:=by
 unfold ZV at h
 split at h
 ·simp only [oI]at h
  subst h
  exact hd
 ·obtain ⟨l,hl,h⟩:=Ac h
  simp only [oI]at h
  subst h
  obtain ⟨c,rest,j,⟨cap,k,g⟩,o⟩:=hd
  exact ⟨c,rest,j,⟨cap,k,WH R hl g⟩,o⟩
 ·cases h
theorem Oj {x:Code} {k:BF} (M:Ee P ρ nt x k) {f:Fr} {r:Bm×Fr} (c:LV Γ k f=some r) (D:Γ.AL ρ):
  ∃n,∀{μ:Aq} {a:Act} {w:World} {Q:Exit→Act→World→Prop},CV ρ μ nt f a w→Dz ρ nt μ f.h w Q r→Code.rounds P x Q n a w:=by
 obtain ⟨n,M⟩:=M
 refine ⟨n,fun {μ a w Q} F L=>?_⟩
 unfold LV at c
 obtain ⟨d,c⟩:=Ap c
 generalize RD f.h k.pre 0 (YC k.df f.df (T4 f.tm k.X5 []))=σ at d c
 unfold AdS at d
 rw [aT,aT,aT,aT,aT]at d
 obtain ⟨Z,g,j,R,J,X⟩:=d
 have g:=An.1 g
 rw [Dm,Fa]at g
 have j:=AX.1 j
 rw [Fa,Gx]at j
 unfold Abj at c
 obtain ⟨h1,o,c⟩:=Ac c
 obtain ⟨tm,z,c⟩:=Ac c
 obtain ⟨df,A,c⟩:=Ac c
 simp only [oI]at c
 subst c
 rw [Fa]at o z A
 rw [Gx]at o
 have H:=F.heap
 have U:Fits Γ f.h σ k.pre k.post.length:=⟨g,j,Fk R,X⟩
 refine M (FL μ σ) a w Q ⟨fun t=>?_,F.size,Fits.before D U H,Td D Fits.ren Z F.defs⟩ fun μ' a' w' N g'=>?_
 ·show Ag ρ (FL μ σ) (EB ((OA k.X5 .nil).get t)) _
  cases hg:(OA k.X5 .nil).get t with
  |none=>trivial
  |some v=>
   rcases PJ _ _ _ _ hg with q|q
   ·exact KL D Fits.ren (KG J t v q) (F.tmps t)
   ·cases q
 ·obtain ⟨C,y,O⟩:=U.after H o g'
  refine L C a' w' k.Py ⟨fun t=>?_,N.size,y.rel,?_⟩ y k.AaF
  ·show Ag ρ C (EB (tm.get t)) _
   cases hg:tm.get t with
   |none=>trivial
   |some v=>
    obtain ⟨p,k1,k2⟩:=M4 (u:=.nil) z (fun n v e=>by cases e) t v hg
    have:=N.tmps t
    rw [k1]at this
    exact Sl O k2 this
  ·exact XI O A N.defs
theorem Lo {x:Code} {cur:Nat} {f:Fr} {r:Bm×Fr} (d:Γ.AL ρ):∀{l:List BF},(∀k∈l,k.id=cur→Ee P ρ nt x k)→IB Γ cur f l=some r→
  ∃n,∀{μ:Aq} {a:Act} {w:World} {Q:Exit→Act→World→Prop},CV ρ μ nt f a w→Dz ρ nt μ f.h w Q r→Code.rounds P x Q n a w
 |[],_,h=>by cases h
 |k::l,hl,h=>by
  have h:(bif Nat.beq k.id cur then (match LV Γ k f with|some x=>some x|none=>IB Γ cur f l)else IB Γ cur f l)=some r:=h
  have rest:IB Γ cur f l=some r→∃n,∀{μ:Aq} {a:Act} {w:World} {Q:Exit→Act→World→Prop},CV ρ μ nt f a w→Dz ρ nt μ f.h w Q r→Code.rounds P x Q n a w:=Lo d fun y c=>hl y (List.mem_cons_of_mem _ c)
  rw [AP]at h
  split at h
  ·rename_i e
   split at h
   ·rename_i y c
    simp only [oI]at h
    subst h
    exact Oj (hl k List.mem_cons_self e) c d
   ·exact rest h
  ·exact rest h
theorem IZ {μ:Aq} {h:Al} {w:World} {z r:Bm×Fr} {k:Fr→Option (Bm×Fr)} (c:andThen z k=some r) {K:Act→World→Prop} {Q:Exit→Act→World→Prop} (L:Dz ρ nt μ h w Q r)
  (A:∀j,z=(.normal,j)→k j=some r→∀q o w',CV ρ q nt j o w'→Aw ρ μ h w q j.h w'→K o w'):Dz ρ nt μ h w (Exit.then K Q) z:=by
 intro q o w' e F g d
 obtain ⟨x,j⟩:=z
 cases x with
 |normal=>
  have d:e=.normal:=d
  subst d
  exact A j rfl c q o w' F g
 |exit i=>
  have c:some (Bm.exit i,j)=some r:=c
  simp only [oI]at c
  subst c
  have y:=L q o w' e F g d
  have d:e=.exit i:=d
  subst d
  exact y
 |ret=>
  have c:some (Bm.ret,j)=some r:=c
  simp only [oI]at c
  subst c
  have y:=L q o w' e F g d
  have d:e=.ret:=d
  subst d
  exact y
 |panic v=>
  have c:some (Bm.panic v,j)=some r:=c
  simp only [oI]at c
  subst c
  have y:=L q o w' e F g d
  obtain ⟨u,rfl,_⟩:=d
  exact y
theorem SF {μ:Aq} {h:Al} {w:World} {id:Nat} {r:Bm×Fr} {Q:Exit→Act→World→Prop} (L:Dz ρ nt μ h w Q (G0 id r)):Dz ρ nt μ h w (Exit.inBlock id Q) r:=by
 intro j d w' e F g c
 obtain ⟨x,o⟩:=r
 cases x with
 |normal=>
  have k:=L j d w' e F g c
  have c:e=.normal:=c
  subst c
  exact k
 |ret=>
  have k:=L j d w' e F g c
  have c:e=.ret:=c
  subst c
  exact k
 |panic v=>
  have k:=L j d w' e F g c
  obtain ⟨u,rfl,_⟩:=c
  exact k
 |exit i=>
  have c:e=.exit i:=c
  subst c
  unfold G0 at L
  simp only at L
  show if i=id then Q .normal d w' else Q (.exit i) d w'
  rw [AP]at L
  by_cases hi:i=id
  ·rw [if_pos hi]at L
   rw [if_pos hi]
   exact L j d w' .normal F g rfl
  ·rw [if_neg hi]at L
   rw [if_neg hi]
   exact L j d w' (.exit i) F g rfl
theorem Fh {x:Code} {cur:Nat} {body:Fr→Option (Bm×Fr)} (j:Γ.AL ρ) (o:∀k∈Γ.loops,k.id=cur→Ee P ρ nt x k)
  (hb:∀{μ:Aq} {f:Fr} {a:Act} {w:World} {r:Bm×Fr} {Q:Exit→Act→World→Prop},body f=some r→CV ρ μ nt f a w→Dz ρ nt μ f.h w Q r→x.wp P Q a w):
  ∀(n:Nat) {f:Fr} {r:Bm×Fr},iter (fun f=>IB Γ cur f Γ.loops) body n f=some r→∃m,∀{μ:Aq} {a:Act} {w:World} {Q:Exit→Act→World→Prop},CV ρ μ nt f a w→Dz ρ nt μ f.h w Q r→Code.rounds P x Q m a w
 |0,f,r,hx=>by cases hx
 |n+1,f,r,hx=>by
  have hx:(match IB Γ cur f Γ.loops with
   |some r=>some r
   |none=>AF (body f) fun r=>andThen r fun d=>iter (fun f=>IB Γ cur f Γ.loops) body n d)=some r:=hx
  split at hx
  ·rename_i y A
   simp only [oI]at hx
   subst hx
   exact Lo j o A
  ·obtain ⟨C,c,hx⟩:=Ac hx
   obtain ⟨q,D⟩:=C
   cases q with
   |normal=>
    obtain ⟨m,v⟩:=Fh j o hb n hx
    refine ⟨m+1,fun {μ a w Q} F L=>?_⟩
    rw [rounds_succ]
    refine hb c F (IZ hx L fun d e u J H w' z g=>?_)
    simp only [Prod.mk.injEq,true_and]at e
    subst e
    exact v z (L.grow g)
   |_=>
    refine ⟨1,fun {μ a w Q} F L=>?_⟩
    rw [rounds_succ]
    exact hb c F (IZ hx L fun d e u=>by simp at e)
theorem HP (D:Γ.AL ρ) (hc:BM P ρ call) (N:P.follows .mixedOrders=true):∀(c:Code) {cur:Nat} (_:DB P ρ nt Γ.loops cur c) {q:IC} {μ:Aq} {f:Fr} {a:Act} {w:World} {r:Bm×Fr} {Q:Exit→Act→World→Prop},
  Bd P pl nt c=some q→FH Γ call fuel q cur f=some r→CV ρ μ nt f a w→Dz ρ nt μ f.h w Q r→c.wp P Q a w:=by
 intro c
 induction c with
 |skip=>
  intro cur o q μ f a w r Q d hx F L
  simp only [Bd,oI]at d
  subst d
  have hx:some (Bm.normal,f)=some r:=hx
  simp only [oI]at hx
  subst hx
  exact wp_skip (L μ a w .normal F (Aw.refl F.heap) rfl)
 |exit id=>
  intro cur o q μ f a w r Q d hx F L
  simp only [Bd,oI]at d
  subst d
  have hx:some (Bm.exit id,f)=some r:=hx
  simp only [oI]at hx
  subst hx
  exact wp_exit (L μ a w (.exit id) F (Aw.refl F.heap) rfl)
 |ret=>
  intro cur o q μ f a w r Q d hx F L
  simp only [Bd,oI]at d
  subst d
  have hx:some (Bm.ret,f)=some r:=hx
  simp only [oI]at hx
  subst hx
  exact wp_ret (L μ a w .ret F (Aw.refl F.heap) rfl)
 |region id ops draw=>
  intro cur o q μ f a w r Q d hx F L
  simp only [Bd]at d
  obtain ⟨H,hs,e⟩:=mS d
  subst e
  rw [Rf]at hx
  unfold Qv at hx
  obtain ⟨x,J,e⟩:=Ac hx
  simp only [oI]at e
  subst e
  clear hx
  have L:=Qp D L
  cases draw with
  |true=>
   simp only [GK,if_true]at hs
   exact UX D hc N hs J F L
  |false=>
   simp only [GK,Bool.false_eq_true,if_false]at hs
   refine wp_region ?_
   rw [List.range_eq_range',←Array.length_toList]
   exact OP D hc ops.toList H 0 (fun j=>by simp) hs J F L
 |seq x y ihx ihy=>
  intro cur o q μ f a w r Q d hx F L
  simp only [Bd]at d
  split at d
  ·rename_i R i2 v O
   simp only [oI]at d
   subst d
   rw [Yk]at hx
   obtain ⟨r1,u,hx⟩:=Ac hx
   have C:DB P ρ nt Γ.loops cur x:=fun y A=>o y (List.mem_append_left _ A)
   have X:DB P ρ nt Γ.loops cur y:=fun z hz=>o z (List.mem_append_right _ hz)
   exact wp_seq (ihx C v u F (IZ hx L fun f' _ M μ' a' w' F' g=>ihy X O M F' (L.grow g)))
  ·cases d
 |cond c x y ihx ihy=>
  intro cur o q μ f a w r Q d hx F L
  simp only [Bd]at d
  split at d
  ·rename_i R i2 v O
   simp only [oI]at d
   subst d
   rw [Nq]at hx
   have hv:=As F.tmps c
   unfold AaY at hx
   split at hx
   ·rename_i b Z
    rw [Z]at hv
    have hv:=Ag.bool hv
    simp only [SB.den]at hv
    refine wp_cond hv ?_
    cases b with
    |true=>exact ihx (fun y A=>o y (List.mem_append_left _ A)) v hx F L
    |false=>exact ihy (fun y A=>o y (List.mem_append_right _ A)) O hx F L
   ·cases hx
  ·cases d
 |block id x ih=>
  intro cur o q μ f a w r Q d hx F L
  simp only [Bd]at d
  obtain ⟨R,v,e⟩:=mS d
  subst e
  rw [SX]at hx
  obtain ⟨r1,u,hx⟩:=Ac hx
  simp only [oI]at hx
  subst hx
  exact wp_block (ih o v u F (SF L))
 |loop x ih=>
  intro cur o q μ f a w r Q d hx F L
  simp only [Bd]at d
  obtain ⟨R,v,e⟩:=mS d
  subst e
  rw [UR]at hx
  have C:DB P ρ nt Γ.loops cur x:=fun y A=>o y (List.mem_cons_of_mem _ A)
  have U:∀k∈Γ.loops,k.id=cur→Ee P ρ nt x k:=fun k M e=>o (cur,x) List.mem_cons_self k M e
  obtain ⟨m,key⟩:=Fh D U (fun u F L=>ih C v u F L) fuel hx
  exact wp_loop_rounds m (key F L)
 |refuse why=>
  intro cur o q μ f a w r Q d hx F L
  simp only [Bd,oI]at d
  subst d
  rw [Nq]at hx
  cases hx
 |_=>
  intro cur o q μ f a w r Q d
  simp [Bd]at d
theorem Np (j:Γ.AL ρ) (q:Γ.loops=[]) (hc:BM P ρ call) (d:P.follows .mixedOrders=true) (c:Code) {g:IC} {μ:Aq} {f:Fr} {a:Act} {w:World} {r:Bm×Fr} {Q:Exit→Act→World→Prop} (k:Bd P pl nt c=some g) (o:exec Γ call fuel g f=some r) (F:CV ρ μ nt f a w) (L:Dz ρ nt μ f.h w Q r):c.wp P Q a w:=
 HP j hc d c (cur:=0) (by rw [q];exact DB.none) k o F L
end
end Go.AM
end
section
namespace Go.AM
section
variable {P:Program} {Γ:Ao} {ρ:Env} {μ:Aq} {tm:Tr Aa} {a:Act} {w:World} {h:Al} {pl:List C3} {call:C1} {fuel:Nat}
theorem NL:∀(l:List Aa) (i:Nat) (t:Tr Aa) (n:Nat),(NM l i t).get n=if i≤n∧n<i+l.length then l[n-i]? else t.get n
 |[],i,t,n=>by
  show t.get n=_
  rw [if_neg (by simp)]
 |v::r,i,t,n=>by
  have e:NM (v::r) i t=NM r (i+1) (t.set i (some v)):=rfl
  rw [e,NL r,Tr.Bq]
  simp only [lC]
  by_cases h1:i+1≤n∧n<i+1+r.length
  ·rw [if_pos h1,if_pos (by omega)]
   rw [show n-i=(n-(i+1))+1 from by omega,List.getElem?_cons_succ]
  ·rw [if_neg h1]
   by_cases h2:n=i
   ·subst h2
    rw [if_pos rfl,if_pos (by omega)]
    simp
   ·rw [if_neg h2,if_neg (by omega)]
theorem Abi {F:EI} {args:List Aa} {c:Array Value} (hv:A9 ρ μ args c.toList) (k:Nat):Bf ρ μ (Hy F args h).tm {tmps:=c++Array.replicate k undef,defers:=[]}:=by
 intro t
 show Ag ρ μ (EB ((NM args 0 (Tr.full Aa F.depth)).get t)) _
 rw [NL]
 split
 ·rename_i j
  rw [Nat.sub_zero,List.getElem?_eq_getElem (by omega)]
  obtain ⟨v,d,g⟩:=hv.get (List.getElem?_eq_getElem (show t<args.length from by omega))
  have hs:t<c.size:=by
   have:=(List.getElem?_eq_some_iff.1 d).1
   simpa using this
  have:(c++Array.replicate k undef).getD t undef=v:=by
   rw [Array.getD_eq_getD_getElem?,Array.getElem?_append_left hs]
   rw [Array.getElem?_toList]at d
   rw [d];rfl
  simp only [this]
  exact g
 ·rw [Tr.JO]
  trivial
theorem XH (x:R8) (r:List R8):ZQ tm h (x::r)=AF (Qt tm h x) fun v=>AF (ZQ tm h r) fun vs=>some (v::vs):=rfl
def J8 (tmps:Array Value):ResultVar→Sem Value
 |.tmp t=>pure (tmps.getD t undef)
 |.cell a t=>do loadVar t (←asAddr (tmps.getD a undef))
theorem Qs (H:AO ρ μ h w) (y:Bf ρ μ tm a) {x:ResultVar} {i:R8} (hc:GJ P x=some i) {v:Aa} (hv:Qt tm h i=some v):∃u,(J8 a.tmps x).run P w=.ok u w∧Ag ρ μ v u:=by
 cases x with
 |tmp t=>
  simp only [GJ,oI]at hc
  subst hc
  simp only [Qt,oI]at hv
  subst hv
  exact ⟨_,rfl,y t⟩
 |cell b t=>
  obtain ⟨n,A,e⟩:=mS hc
  subst e
  have hv:MP h.fx h n (EB (tm.get b))=some v:=hv
  obtain ⟨u,k,z⟩:=MO H.AY.facts H A (y b) hv
  have g:=y b
  unfold MP at hv
  split at hv
  ·rename_i D C j q o
   rw [o]at g
   obtain ⟨r,m,_,d,_⟩:=g.vptr
   refine ⟨u,?_,z⟩
   rw [d]at k
   show (do loadVar t (←asAddr (a.tmps.getD b undef)):Sem Value).run P w=_
   rw [d]
   exact k
  ·rename_i c j q o
   rw [o]at g
   obtain ⟨r,δ,_,_,_,d,_⟩:=g.lptr
   refine ⟨u,?_,z⟩
   rw [d]at k
   show (do loadVar t (←asAddr (a.tmps.getD b undef)):Sem Value).run P w=_
   rw [d]
   exact k
  ·rename_i c q o
   rw [o]at g
   obtain ⟨r,δ,m,_,d⟩:=g.ptr
   refine ⟨u,?_,z⟩
   rw [d]at k
   show (do loadVar t (←asAddr (a.tmps.getD b undef)):Sem Value).run P w=_
   rw [d]
   exact k
  ·cases hv
theorem M3 (H:AO ρ μ h w) (g:Bf ρ μ tm a):∀{l:List ResultVar} {is:List R8} {vs:List Aa},BE (l.map (GJ P))=some is→ZQ tm h is=some vs→∃us:List Value,(l.mapM (J8 a.tmps)).run P w=.ok us w∧A9 ρ μ vs us
 |[],is,vs,hc,hv=>by
  simp only [List.map_nil,BE,oI]at hc
  subst hc
  have hv:some []=some vs:=hv
  simp only [oI]at hv
  subst hv
  exact ⟨[],by simp,by simp only [A9]⟩
 |x::l,is,vs,hc,hv=>by
  have c:=Du hc
  cases is with
  |nil=>simp at c
  |cons i is=>
   simp only [List.map_cons,List.cons.injEq]at c
   obtain ⟨A,j⟩:=c
   have k:BE (l.map (GJ P))=some is:=by
    rw [j]
    clear j hc hv
    induction is with
    |nil=>rfl
    |cons x r ih=>simp only [List.map_cons,BE,ih,Option.map_some]
   rw [XH]at hv
   obtain ⟨v,o,hv⟩:=Ac hv
   obtain ⟨D,d,hv⟩:=Ac hv
   simp only [oI]at hv
   subst hv
   obtain ⟨u,C,y⟩:=Qs H g A o
   obtain ⟨us,q,z⟩:=M3 H g k d
   refine ⟨u::us,?_,?_⟩
   ·rw [List.mapM_cons]
    simp [C,q]
   ·simp only [A9]
    exact ⟨_,_,rfl,y,z⟩
theorem FM (H:AO ρ μ h w) (g:Bf ρ μ tm a) {fn:Func} {is:List R8} (hc:BE (fn.results.toList.map (GJ P))=some is) {vs:List Aa} (hv:ZQ tm h is=some vs):∃u,(results fn a.tmps).run P w=.ok u w∧Ag ρ μ (oneOf vs) u:=by
 obtain ⟨us,j,c⟩:=M3 H g hc hv
 have k:(fn.results.mapM (J8 a.tmps)).run P w=.ok us.toArray w:=by
  rw [Array.mapM_eq_mapM_toList]
  simp [j]
 have e:results fn a.tmps=(do
   let vs←fn.results.mapM (J8 a.tmps)
   pure (if h:vs.size=1 then vs[0]else .tuple vs)):=by
  unfold results
  congr 2
 rw [e]
 refine ⟨(if h:us.toArray.size=1 then us.toArray[0]else .tuple us.toArray),by simp only [Sem.run_bind,k,Result.andThen_ok,Sem.run_pure],?_⟩
 cases vs with
 |nil=>
  simp only [A9]at c
  subst c
  simp only [oneOf,Ag]
  exact ⟨#[],by simp,by simp only [A9]⟩
 |cons v vs=>
  cases vs with
  |nil=>
   simp only [A9]at c
   obtain ⟨u,_,rfl,o,rfl⟩:=c
   simpa [oneOf]using o
  |cons v' vs=>
   have d:=c
   simp only [A9]at d
   obtain ⟨u,_,rfl,_,q,r,rfl,_⟩:=d
   simp only [oneOf,Ag]
   exact ⟨(u::q::r).toArray,by simp,c⟩
end
end Go.AM
end
section
namespace Go.AM
section
variable {P:Program} {Γ:Ao} {ρ:Env} {μ:Aq} {tm:Tr Aa} {a:Act} {w:World} {h:Al} {pl:List C3} {call:C1} {dcall:R9} {fuel:Nat}
def Fw (ρ:Env) (μ:Aq):CQ→FrameMode→Prop
 |.returning,u=>u=.returning
 |.panicking v,u=>∃x,u=.panicking (Il x)∧Ag ρ μ v x
theorem Fw.mono {d:Aq} (hl:μ.le d) {m:CQ} {u:FrameMode} (c:Fw ρ μ m u):Fw ρ d m u:=by
 cases m with
 |returning=>exact c
 |panicking v=>obtain ⟨x,e,hv⟩:=c;exact ⟨x,e,hv.mono hl⟩
theorem Fw.settle {m:CQ} {u:FrameMode} (c:Fw ρ μ m u):settle u=u:=by
 cases m with
 |returning=>have c:u=.returning:=c;subst c;rfl
 |panicking v=>obtain ⟨x,rfl,hv⟩:=c;rfl
theorem Fw.Afq {m:CQ} {u:FrameMode} (c:Fw ρ μ m u):u≠.run:=by
 cases m with
 |returning=>have c:u=.returning:=c;subst c;simp
 |panicking v=>obtain ⟨x,rfl,hv⟩:=c;simp
def Y9 (ρ:Env) (μ:Aq) (h:Al) (w:World) (d:CQ) (g:Al) (e:Ending) (j:FrameMode) (w':World):Prop:=
 ∃c,Aw ρ μ h w c g w'∧Fw ρ c d (Go.settle j)∧∃v,e=.returned v
def Vv (P:Program) (ρ:Env) (dcall:R9):Prop:=
 ∀g args m h d j,dcall g args m h=some (d,j)→Kg P g∧∀μ w (c:Array Value) u,AO ρ μ h w→A9 ρ μ args c.toList→Fw ρ μ m u→CallsD P g c u w (Y9 ρ μ h w d j)
theorem SD (d:FuncId×List Aa) (ds:List (FuncId×List Aa)) (m:CQ) (h:Al):QD dcall (d::ds) m h=AF (dcall d.1 d.2 m h) fun r=>QD dcall ds r.1 r.2:=rfl
theorem Lq (hd:Vv P ρ dcall) {fn:Func} {tmps:Array Value} {R:Ending→World→Prop}:∀(ds:List (FuncId×List Aa)) {cs:List Deferred} {μ:Aq} {m:CQ} {u:FrameMode} {h:Al} {w:World} {r:CQ×Al},
  QD dcall ds m h=some r→CH ρ μ ds cs→AO ρ μ h w→Fw ρ μ m u→(∀x w' q,Aw ρ μ h w x r.2 w'→Fw ρ x r.1 q→Leaves P fn tmps R [] q w')→Leaves P fn tmps R cs u w
 |[],cs,μ,m,u,h,w,r,hx,j,H,hm,hR=>by
  have hx:some (m,h)=some r:=hx
  simp only [oI]at hx
  subst hx
  have j:cs=[]:=j
  subst j
  exact hR μ w u (Aw.refl H) hm
 |d::ds,cs,μ,m,u,h,w,r,hx,j,H,hm,hR=>by
  rw [SD]at hx
  obtain ⟨⟨U,X⟩,O,hx⟩:=Ac hx
  obtain ⟨c,rest,rfl,⟨cap,D,C⟩,k⟩:=j
  obtain ⟨hf,o⟩:=hd _ _ _ _ _ _ O
  refine ⟨hm.Afq,.func d.1,cap,d.1,c.args++cap,D,?_,?_⟩
  ·rw [D]
   simp only [invoke]
   exact GW hf _
  ·refine CallsD.mono (o μ w (c.args++cap) u H C hm) fun e q w' N=>?_
   obtain ⟨x,g,A,v,rfl⟩:=N
   exact Lq hd ds hx (k.mono g.le) g.rel A fun M z J Q y=>hR M z J (g.trans Q) y
theorem Ec {fn:Func} {F:EI} (hc:EW P pl fn=some F):∃c,fn.body=some c∧Bd P pl fn.ntmps c=some F.body∧BE (fn.results.toList.map (GJ P))=some F.results:=by
 unfold EW at hc
 split at hc
 ·cases hc
 ·rename_i c hb
  split at hc
  ·rename_i body results g d
   simp only [oI]at hc
   subst hc
   exact ⟨c,hb,g,d⟩
  ·cases hc
theorem Kp {F:EI} {args:List Aa} {c:Array Value} (H:AO ρ μ h w) (hv:A9 ρ μ args c.toList) (n:Nat):CV ρ μ n (Hy F args h) {tmps:=c++Array.replicate (n-c.size) undef,defers:=[]} w:=
 ⟨Abi hv _,by simp;omega,H,rfl⟩
theorem NH (hΓ:Γ.AL ρ) (hc:BM P ρ call) (hd:Vv P ρ dcall) (N:P.follows .mixedOrders=true) {g:FuncId} {fn:Func} (hf:P.funcs[g]?=some fn) {F:EI} (A:EW P pl fn=some F) (hL:∀c,fn.body=some c→DB P ρ fn.ntmps Γ.loops 0 c) {args:List Aa} {r:NV} {J:Al}
  (hx:PB Γ call dcall fuel F args h=some (r,J)) {q:Array Value} (H:AO ρ μ h w) (hv:A9 ρ μ args q.toList):Calls P g q w fun e w'=>∃k,Aw ρ μ h w k J w'∧KT ρ k r e:=by
 obtain ⟨c,hb,R,U⟩:=Ec A
 unfold PB at hx
 obtain ⟨x,ac,hx⟩:=Ac hx
 obtain ⟨m,d,hx⟩:=Ac hx
 obtain ⟨y,Z,hx⟩:=Ac hx
 refine calls_of_wp_defers hf hb (HP hΓ hc N c (hL c hb) R ac (Kp H hv fn.ntmps) ?_)
 intro k a' w' e O C o
 have C:Aw ρ μ h w k x.2.h w':=C
 have fin:∀u,Fw ρ k m u→Leaves P fn a'.tmps (fun e w'=>∃k,Aw ρ μ h w k J w'∧KT ρ k r e) a'.defers u w':=fun u hm=>by
  refine Lq hd x.2.df Z O.defs O.heap hm fun D aj ab g2 j=>?_
  unfold AdM at hx
  split at hx
  ·rename_i M
   obtain ⟨vs,X,hx⟩:=Ac hx
   simp only [oI,Prod.mk.injEq]at hx
   obtain ⟨rfl,rfl⟩:=hx
   rw [M]at j
   have j:ab=.returning:=j
   subst j
   obtain ⟨v,h1,h2⟩:=FM g2.rel (O.tmps.mono g2.le) U X
   exact ⟨v,h1,D,C.trans g2,h2⟩
  ·rename_i v M
   simp only [oI,Prod.mk.injEq]at hx
   obtain ⟨rfl,rfl⟩:=hx
   rw [M]at j
   obtain ⟨z,rfl,Q⟩:=j
   exact ⟨D,C.trans g2,z,rfl,Q⟩
 obtain ⟨x1,x2⟩:=x
 cases x1 with
 |normal=>
  have o:e=.normal:=o
  subst o
  simp only [Q7,oI]at d
  subst d
  exact fin .returning rfl
 |ret=>
  have o:e=.ret:=o
  subst o
  simp only [Q7,oI]at d
  subst d
  exact fin .returning rfl
 |exit i=>cases d
 |panic v=>
  obtain ⟨z,rfl,Q⟩:=o
  simp only [Q7,oI]at d
  subst d
  exact fin _ ⟨z,rfl,Q⟩
theorem P7 {m g:CQ} {r:Bm×Fr} {j:Al} (hx:Gk m r=some (g,j)):g=m∧j=r.2.h∧r.2.df=[]∧(r.1=.normal∨r.1=.ret):=by
 unfold Gk at hx
 split at hx
 ·rename_i c d
  simp only [oI,Prod.mk.injEq]at hx
  exact ⟨hx.1.symm,hx.2.symm,d,.inl c⟩
 ·rename_i c d
  simp only [oI,Prod.mk.injEq]at hx
  exact ⟨hx.1.symm,hx.2.symm,d,.inr c⟩
 ·cases hx
theorem Tg (hΓ:Γ.AL ρ) (h0:Γ.loops=[]) (hc:BM P ρ call) (D:P.follows .mixedOrders=true) {g:FuncId} {fn:Func} (hf:P.funcs[g]?=some fn) {F:EI} (z:EW P pl fn=some F) (J:F.results=[]) {args:List Aa} {m X:CQ} {O:Al} {x:Bm×Fr}
  (Z:exec Γ call fuel F.body (Hy F args h)=some x) (hx:Gk m x=some (X,O)) {o:Array Value} {u:FrameMode} (H:AO ρ μ h w) (hv:A9 ρ μ args o.toList) (U:Fw ρ μ m u):CallsD P g o u w (Y9 ρ μ h w X O):=by
 obtain ⟨c,hb,Q,A⟩:=Ec z
 obtain ⟨rfl,rfl,aa,k⟩:=P7 hx
 refine CallsD.mono (callsD_of_wp (R:=fun e w'=>∃j,Aw ρ μ h w j x.2.h w'∧∃v,e=.returned v) hf hb (Np hΓ h0 hc D c Q Z (Kp H hv fn.ntmps) ?_)) fun e u' w' d=>?_
 ·intro j C w' e M y d
  have y:Aw ρ μ h w j x.2.h w':=y
  have q:=M.defs
  rw [aa]at q
  have q:C.defers=[]:=q
  rw [J]at A
  obtain ⟨v,h1,_⟩:=FM (vs:=[]) M.heap M.tmps A rfl
  have fin:C.defers=[]∧∃v,(results fn C.tmps).run P w'=.ok v w'∧∃j,Aw ρ μ h w j x.2.h w'∧∃v',Ending.returned v=.returned v':=⟨q,v,h1,j,y,v,rfl⟩
  rcases k with k|k<;>rw [k]at d
  ·have d:e=.normal:=d
   subst d
   exact fin
  ·have d:e=.ret:=d
   subst d
   exact fin
 ·obtain ⟨rfl,j,y,N⟩:=d
  exact ⟨j,y,by rw [U.settle];exact U.mono y.le,N⟩
theorem Sm {o:Oper} (hc:D6 P pl o=some (.m .recover)):(execOp a.eval o).run P w=.ok .recover w:=by
 cases hop:o.op<;>simp only [D6,hop,reduceCtorEq,oI]at hc
 case call c=>
  unfold Fq at hc
  split at hc
  ·split at hc
   ·split at hc
    ·simp at hc
    ·split at hc
     ·split at hc<;>simp at hc
     ·split at hc
      ·split at hc<;>simp at hc
      ·cases hc
   ·cases hc
  ·simp at hc
  ·cases hc
  ·rename_i b hb
   split at hc
   ·split at hc<;>simp at hc
   ·exfalso
    unfold EX at hc
    split at hc<;>first|cases hc|skip
    all_goals (split at hc<;>first|(cases hc;done) |(split at hc<;>simp at hc))
   ·exfalso
    split at hc<;>first|(cases hc;done) |(obtain ⟨_,_,e⟩:=mS hc;cases e)
   ·simp at hc
   ·simp at hc
   ·rename_i v
    have q:c.args=#[]:=by rw [←Array.toList_inj];simpa using v
    simp [execOp,hop,resolve,hb,q,invoke,builtin]
   ·simp at hc
   ·exfalso
    split at hc
    ·split at hc<;>simp at hc
    ·cases hc
   ·cases hc
 case convert s d x=>
  rcases CT hc with ⟨k0,k,hs,hd,e⟩|⟨hs,hd,e⟩|⟨t,n,hs,hd,hn,e⟩|⟨u,n,hs,hd,hn,e⟩|⟨el,hs,he,hd,e⟩<;>cases e
 case typeAssert x xt t ok=>
  obtain ⟨d,i,z,D,hd,j,C,e⟩:=Cu hc
  cases e
 case defer c=>
  obtain ⟨g,args,A⟩:=c
  cases g<;>simp at hc
 case makeFunc fn x c=>cases fn<;>simp at hc
 case binOp op t x y yt=>obtain ⟨_,_,e⟩:=mS hc;cases e
 case slice t x lo j mx=>
  exfalso
  split at hc
  ·simp at hc
  ·obtain ⟨_,_,e⟩:=mS hc;cases e
  ·split at hc
   ·obtain ⟨_,_,e⟩:=mS hc;cases e
   ·cases hc
  ·cases hc
 case build t parts=>
  exfalso
  split at hc
  ·split at hc
   ·obtain ⟨_,_,e⟩:=mS hc;cases e
   ·cases hc
  ·obtain ⟨_,_,hc⟩:=Option.bind_eq_some_iff.1 hc
   obtain ⟨_,_,e⟩:=mS hc;cases e
  ·cases hc
 case fieldAddr t x f=>
  exfalso
  split at hc
  ·obtain ⟨_,_,hc⟩:=Option.bind_eq_some_iff.1 hc
   split at hc<;>simp at hc
  ·cases hc
 case field t x f=>
  exfalso
  split at hc
  ·obtain ⟨_,_,hc⟩:=Option.bind_eq_some_iff.1 hc
   obtain ⟨_,_,e⟩:=mS hc;cases e
  ·cases hc
 all_goals
  exfalso
  first
   |(cases hc;done)
   |(split at hc<;>first|(cases hc;done) |(simp at hc;done) |(obtain ⟨_,_,e⟩:=mS hc;cases e;done) |(split at hc<;>first|(cases hc;done) |(simp at hc;done) |(obtain ⟨_,_,e⟩:=mS hc;cases e;done) |(split at hc<;>first|(cases hc;done) |(simp at hc;done) |(obtain ⟨_,_,e⟩:=mS hc;cases e;done))))
   |(obtain ⟨_,_,e⟩:=mS hc;cases e;done)
theorem Mw (J:Γ.AL ρ) (hc:BM P ρ call) {nt:Nat} {y:Array Oper} {cs:List Frame} {Q:Exit→Act→List Frame→World→Prop}:∀(l:List Oper) (c:List Step) (k:Nat) {μ:Aq} {a:Act} {w:World} {f:Fr} {r:Co},(∀j,l[j]?=y[k+j]?)→BE (l.map fun o=>stepOf P pl nt y o 0)=some c→
  Uc Γ call c f=some r→CV ρ μ nt f a w→Dz ρ nt μ f.h w (fun e z w'=>Q e z cs w') (FO r)→wpOpsS P y Q (List.range' k l.length) a cs w
 |[],c,k,μ,a,w,f,r,hl,hs,q,F,L=>by
  simp only [List.map_nil,BE,oI]at hs
  subst hs
  have q:some (Co.go f)=some r:=q
  simp only [oI]at q
  subst q
  exact L μ a w .normal F (Aw.refl F.heap) rfl
 |o::l,c,k,μ,a,w,f,r,hl,hs,q,F,L=>by
  have A:=Du hs
  cases c with
  |nil=>simp at A
  |cons s c=>
   simp only [List.map_cons,List.cons.injEq]at A
   obtain ⟨Z,N⟩:=A
   have U:BE (l.map fun o=>stepOf P pl nt y o 0)=some c:=by
    rw [N]
    clear N q hs
    induction c with
    |nil=>rfl
    |cons x r ih=>simp only [List.map_cons,BE,ih,Option.map_some]
   rw [OQ]at q
   obtain ⟨x,hx,q⟩:=Ac q
   have X:y[k]?=some o:=by simpa using (hl 0).symm
   have R:∀j,l[j]?=y[k+1+j]?:=fun j=>by simpa [Nat.add_assoc,Nat.add_comm 1 j]using hl (j+1)
   rw [lC,List.range'_succ]
   have O:Vu ρ nt μ f.h a w (fun z w'=>wpOpsS P y Q (List.range' (k+1) l.length) z cs w') (fun e z w'=>Q e z cs w') x:=by
    cases x with
    |go f'=>exact fun M z w' D g=>Mw J hc l c (k+1) R U q D (L.grow g)
    |panic v f'=>
     simp only [goes,oI]at q
     subst q
     exact fun M u w' D g hv=>L M a w' _ D g ⟨u,rfl,hv⟩
   have d:=OL J hc F (F5 Z) hx O
   unfold wpOpsS
   rw [X]
   simp only
   split
   ·rename_i C
    rw [if_pos C]at d
    unfold Oper.wp at d
    split
    ·rename_i w' H
     rw [H]at d
     exact d.elim
    ·exact d
   ·rename_i C
    rw [if_neg C]at d
    exact d
theorem Qw {m:CQ} {c₀:Frame} {cs:List Frame} (c:Fw ρ μ m c₀.mode):
  ∃v d,(match recoverD (c₀::cs)with|some (v,cs')=>(v,cs') |none=>(.nilIface,c₀::cs))=(v,{c₀ with mode:=d}::cs)∧settle d=.returning∧Ag ρ μ (recovered m) v:=by
 cases m with
 |returning=>
  have c:c₀.mode=.returning:=c
  refine ⟨.nilIface,c₀.mode,?_,by rw [c];rfl,by simp only [recovered,Ag]⟩
  have e:recoverD (c₀::cs)=none:=by simp [recoverD,c]
  rw [e]
 |panicking v=>
  obtain ⟨x,hx,hv⟩:=c
  refine ⟨x,.panicking [{v:=x,recovered:=true}],?_,rfl,hv⟩
  simp [recoverD,hx,Il]
theorem O2 (hΓ:Γ.AL ρ) (h0:Γ.loops=[]) (hc:BM P ρ call) (ai:P.follows .mixedOrders=true) {g:FuncId} {fn:Func} (hf:P.funcs[g]?=some fn) {F:EI} (ac:EW P pl fn=some F) (af:F.results=[]) {dst:Option Nat} {bk:Nat} {y:List Step} {rest:IC}
  (O:F.body=.seq (.region false (⟨dst,none,.m .recover,bk⟩::y)) rest) {args:List Aa} {m m':CQ} {h':Al} {r:Co} {x:Bm×Fr}
  (hr:Uc Γ call y ⟨DX (Hy F args h).tm dst (recovered m),h,[]⟩=some r) (C:(andThen (FO r) fun f=>exec Γ call fuel rest f)=some x) (hx:Gk .returning x=some (m',h')) {q:Array Value} {u:FrameMode} (H:AO ρ μ h w) (hv:A9 ρ μ args q.toList) (hm:Fw ρ μ m u):
  CallsD P g q u w (Y9 ρ μ h w m' h'):=by
 obtain ⟨c,hb,k,ad⟩:=Ec ac
 obtain ⟨rfl,rfl,az,A⟩:=P7 hx
 rw [O]at k
 cases c<;>simp only [Bd,reduceCtorEq,oI]at k
 case region=>obtain ⟨_,_,e⟩:=mS k;cases e
 case cond=>split at k<;>simp at k
 case block=>obtain ⟨_,_,e⟩:=mS k;cases e
 case loop=>obtain ⟨_,_,e⟩:=mS k;cases e
 case seq c1 c2=>
  split at k
  case h_2=>cases k
  rename_i i1 i2 D h2
  simp only [oI,IC.seq.injEq]at k
  obtain ⟨rfl,rfl⟩:=k
  cases c1<;>simp only [Bd,reduceCtorEq,oI]at D
  case seq=>split at D<;>simp at D
  case cond=>split at D<;>simp at D
  case block=>obtain ⟨_,_,e⟩:=mS D;cases e
  case loop=>obtain ⟨_,_,e⟩:=mS D;cases e
  case region id ops draw=>
   obtain ⟨st,R,e⟩:=mS D
   simp only [IC.region.injEq]at e
   obtain ⟨rfl,rfl⟩:=e
   simp only [GK,Bool.false_eq_true,if_false]at R
   have J:=Du R
   generalize hol:ops.toList=ol at R J
   cases ol with
   |nil=>simp at J
   |cons o l=>
    simp only [List.map_cons,List.cons.injEq]at J
    obtain ⟨k1,k2⟩:=J
    have ax:BE (l.map fun o=>stepOf P pl fn.ntmps ops o 0)=some y:=by
     rw [k2]
     clear k2 hr R O D
     induction y with
     |nil=>rfl
     |cons x r ih=>simp only [List.map_cons,BE,ih,Option.map_some]
    have M:=F5 k1
    have U:∀j:Nat,(o::l)[j]?=ops[j]?:=fun j=>by rw [←hol,Array.getElem?_toList]
    have ho:ops[0]?=some o:=by simpa using (U 0).symm
    have ap:ops.size=l.length+1:=by
     have:=cL hol
     simpa using this
    refine callsD_of_wpS hf hb fun c₀ cs hu=>wpS_seq (wpS_region ?_)
    rw [List.range_eq_range',ap,List.range'_succ]
    have F0:=Kp (F:=F) H hv fn.ntmps
    unfold wpOpsS
    rw [ho]
    simp only
    rw [ES F0.tmps M.guard (fun d b e=>Nat.lt_of_lt_of_le (M.seen d b e) F0.size) (b:=true) rfl]
    simp only [if_true]
    rw [Sm M.op]
    simp only
    obtain ⟨v,u',z,ae,ay⟩:=Qw (c₀:=c₀) (cs:=cs) (m:=m) (ρ:=ρ) (μ:=μ) (by rw [hu];exact hm)
    have F1:CV ρ μ fn.ntmps ⟨DX (Hy F args h).tm dst (recovered m),h,[]⟩ (Act.put {tmps:=q++Array.replicate (fn.ntmps-q.size) undef,defers:=[]} o.dst v) w:=by
     have:=F0.put (d:=o.dst) μ.le_refl F0.heap M.small ay
     rw [←M.dst]at this⊢
     exact this
    have aa:wpOpsS P ops (Exit.thenS (c2.wpS P (bodyPostS P fn c₀ cs (Y9 ρ μ h w .returning x.2.h))) (bodyPostS P fn c₀ cs (Y9 ρ μ h w .returning x.2.h))) (List.range' 1 l.length)
      (Act.put {tmps:=q++Array.replicate (fn.ntmps-q.size) undef,defers:=[]} o.dst v) ({c₀ with mode:=u'}::cs) w:=by
     refine Mw hΓ hc l y 1 (fun j=>by have:=U (j+1);simpa [Nat.add_comm 1 j]using this) ax hr F1 ?_
     intro μ1 a1 w1 e1 F2 g1 X
     have g1:Aw ρ μ h w μ1 (FO r).2.h w1:=g1
     cases r with
     |panic v f'=>
      exfalso
      have C:some (Bm.panic v,f')=some x:=C
      simp only [oI]at C
      subst C
      rcases A with A|A<;>cases A
     |go f'=>
     have X:e1=.normal:=X
     subst X
     have C:exec Γ call fuel i2 f'=some x:=C
     refine wpS_of_wp (Np hΓ h0 hc ai c2 h2 C F2 ?_)
     intro μ' Z w' e F' g' N
     have g':Aw ρ μ h w μ' x.2.h w':=g1.trans g'
     have Q:=F'.defs
     rw [az]at Q
     have Q:Z.defers=[]:=Q
     rw [af]at ad
     obtain ⟨vr,r1,_⟩:=FM (vs:=[]) F'.heap F'.tmps ad rfl
     have fin:Z.defers=[]∧∃u2,({c₀ with mode:=u'}::cs:List Frame)={c₀ with mode:=u2}::cs∧∃v,(results fn Z.tmps).run P w'=.ok v w'∧Y9 ρ μ h w .returning x.2.h (.returned v) u2 w':=
      ⟨Q,u',rfl,vr,r1,μ',g',by rw [ae];rfl,vr,rfl⟩
     rcases A with A|A<;>rw [A]at N
     ·have N:e=.normal:=N
      subst N
      exact fin
     ·have N:e=.ret:=N
      subst N
      exact fin
    cases hrd:recoverD (c₀::cs)with
    |none=>
     rw [hrd]at z
     simp only [Prod.mk.injEq]at z
     obtain ⟨rfl,am⟩:=z
     simp only
     rw [am]
     exact aa
    |some p=>
     obtain ⟨pv,aO⟩:=p
     rw [hrd]at z
     simp only [Prod.mk.injEq]at z
     obtain ⟨rfl,rfl⟩:=z
     exact aa
def PF (P:Program) (pl:List C3) (DP:FuncId→Option EI):Prop:=
 ∀g F,DP g=some F→∃fn,P.funcs[g]?=some fn∧EW P pl fn=some F∧(fn.name== "runtime.NumGoroutine")=false
theorem Kg.Q3 {g:FuncId} {fn:Func} {F:EI} (hf:P.funcs[g]?=some fn) (d:EW P pl fn=some F) (j:(fn.name== "runtime.NumGoroutine")=false):Kg P g:=by
 obtain ⟨c,hb,_⟩:=Ec d
 exact ⟨fn,hf,by rw [hb];rfl,j⟩
theorem OO (q:Γ.AL ρ) (v:Γ.loops=[]) (hc:BM P ρ call) (j:P.follows .mixedOrders=true) {DP:FuncId→Option EI} (O:PF P pl DP):Vv P ρ fun f args m h=>AF (DP f) fun F=>KM Γ call fuel F args m h:=by
 intro g args m h U R hx
 obtain ⟨F,Q,hx⟩:=Ac hx
 obtain ⟨fn,hf,c,M⟩:=O g F Q
 refine ⟨Kg.Q3 hf c M,fun μ w D u H hv z=>?_⟩
 unfold KM at hx
 split at hx
 ·rename_i dst X J rest o d
  obtain ⟨r,N,A⟩:=Ac hx
  obtain ⟨x,k,y⟩:=Ac A
  exact O2 q v hc j hf c d o N k y H hv z
 ·rename_i d _
  obtain ⟨x,k,C⟩:=Ac hx
  exact Tg q v hc j hf c d k C H hv z
 ·cases hx
def CC (P:Program) (ρ:Env) (f:FuncId) (o:By):Prop:=
 ∀args h r d,o args h=some (r,d)→Kg P f∧∀μ w (c:Array Value),AO ρ μ h w→A9 ρ μ args c.toList→
  Calls P f c w fun e w'=>∃g,Aw ρ μ h w g d w'∧KT ρ g r e
theorem HY (z:Γ.AL ρ) (A:Γ.loops=[]) (q:P.follows .mixedOrders=true) {DP:FuncId→Option EI} (C:PF P pl DP) {j:FuncId→Option By} (x:∀f o,j f=some o→CC P ρ f o):∀d:Nat,BM P ρ (Lz Γ j DP fuel d)
 |0=>fun g args h r v hx=>by cases hx
 |d+1=>fun g args h r v hx=>by
  have ih:=HY z A q C x d
  have hx:Q0 (j g) args h (fun _=>AF (DP g) fun F=>PB Γ (Lz Γ j DP fuel d) (fun f args m h=>AF (DP f) fun F=>KM Γ (Lz Γ j DP fuel d) fuel F args m h) fuel F args h)=some (r,v):=hx
  have y:(AF (DP g) fun F=>PB Γ (Lz Γ j DP fuel d) (fun f args m h=>AF (DP f) fun F=>KM Γ (Lz Γ j DP fuel d) fuel F args m h) fuel F args h)=some (r,v)→Kg P g∧∀μ w (k:Array Value),AO ρ μ h w→A9 ρ μ args k.toList→
    Calls P g k w fun e w'=>∃J,Aw ρ μ h w J v w'∧KT ρ J r e:=fun hx=>by
   obtain ⟨F,O,hx⟩:=Ac hx
   obtain ⟨fn,hf,u,M⟩:=C g F O
   exact ⟨Kg.Q3 hf u M,fun μ w k H hv=>NH z ih (OO z A ih q C) q hf u (fun c _=>by rw [A];exact DB.none) hx H hv⟩
  unfold Q0 at hx
  split at hx
  ·rename_i o N
   split at hx
   ·rename_i Q D
    simp only [oI]at hx
    subst hx
    exact x g o N args h r v D
   ·exact y hx
  ·exact y hx
theorem Ao.AL.bare {Γ:Ao} {ρ:Env} (h:Γ.AL ρ):Γ.bare.AL ρ:=⟨h.DY,h.tests,h.strs,h.EO,h.BA,h.Ad,h.elems,h.defs,h.looks,h.LI,h.CO,h.CM⟩
theorem T5 (u:Γ.AL ρ) (j:P.follows .mixedOrders=true) {DP:FuncId→Option EI} (x:PF P pl DP) {q:FuncId→Option By} (v:∀f o,q f=some o→CC P ρ f o) (d:Nat) {g:FuncId}
  (A:∀fn c,P.funcs[g]?=some fn→fn.body=some c→DB P ρ fn.ntmps Γ.loops 0 c):CC P ρ g (Aeo Γ q DP fuel d g):=by
 intro args h r D hx
 unfold Aeo at hx
 obtain ⟨F,C,hx⟩:=Ac hx
 obtain ⟨fn,hf,k,z⟩:=x g F C
 have ih:=HY u.bare rfl j x v d (fuel:=fuel)
 exact ⟨Kg.Q3 hf k z,fun μ w y H hv=>NH u ih (OO u.bare rfl ih j x) j hf k (fun c hc=>A fn c hf hc) hx H hv⟩
end
end Go.AM
end
section
namespace Go.AM
open Go.ChangeShapes Go.WideShapes Go.ChangeAt Go.RowKit
def Kept (W w':World):Prop:=W.keptBut w' (fun _=>False)∧(∀b c,b<W.heap.size→w'.frozen? ⟨b,c,none⟩=W.frozen? ⟨b,c,none⟩)∧W.heap.size≤w'.heap.size
theorem Kept.of_same {W w':World} (c:∀r,r<W.heap.size→w'.heap[r]?=W.heap[r]?) (hs:W.heap.size≤w'.heap.size) (j:w'.os=W.os) (g:w'.output=W.output):Kept W w':=by
 refine ⟨⟨j,g,fun i d=>?_⟩,fun b k hb=>?_,hs⟩
 ·rw [c i d]
  cases W.heap[i]? with
  |none=>trivial
  |some o=>cases o<;>simp
 ·unfold World.frozen?
  simp only [c b hb]
theorem Kept.frame {W w':World} (h:Kept W w') (ps:List MemPlace):W.keptBut w' (·∈ps):=World.keptBut_mono (fun _ h=>h.elim) h.1
section
variable {H:Type} {enc:TypeId×Value→H} {P:Program}
theorem Qx {f:Func} {s:ChangeSpec} {apart fresh u again:Bool} {W q:World} {args:Array Value} {v:Value} {ds y:List (DataW H)} {before pa pv:List MemPlace}
  (C:DataW.Whole enc P f.params.toList s.vars apart W args.toList ds y before)
  (z:∀(b:Nat) (d:Nat→Bool) (hd:Bool),DataW.TrodAll enc P q b d hd f.resultTypes.toList (v.resultList f.resultTypes.size) (s.fn H (ds++y)).results [])
  (o:∀d:Nat→Bool,(∀p∈before,d p.block=true)→DataW.TrodAll enc P q 0 d true f.params.toList args.toList (s.fn H (ds++y)).args pa)
  (k:∀d:Nat→Bool,(∀p∈before,d p.block=true)→DataW.TrodVars enc P q d s.vars (s.fn H (ds++y)).vars pv)
  (g:before=pa++pv) (J:Kept W q)
  (D:∀(j:Nat) (t:TypeId) (r:Value),f.resultTypes[j]?=some t→(v.resultList f.resultTypes.size)[j]?=some r→Value.okWide P q .any 0 t r):
  s.post enc P f apart fresh u again W args v q:=by
 have A:∀p∈before,(fun b=>decide (b<W.heap.size)) p.block=true:=fun p c=>by simpa using C.lt p c
 have M:=C.lt
 refine ⟨ds,y,before,[],pa,pv,C,z _ _ _,o _ A,k _ A,World.keptBut_mono (fun p c=>⟨c,?_⟩) (J.frame before),fun _=>?_⟩
 ·rw [g,List.mem_append]at c
  exact Or.inr c
 ·obtain ⟨_,_,_,_,_,O,N⟩:=C
  refine ⟨D,_,_,([]++pa)++pv,⟨[]++pa,pv,trodAll_append (o _ (fun _ _=>rfl)) (z _ _ _),k _ (fun _ _=>rfl),rfl,?_,?_⟩,?_⟩
  ·intro b x c
   have hb:MemPlace.cell b x∈before:=by rw [g];simpa using c
   rw [J.2.1 b x (M _ hb)]
   exact O b x hb
  ·intro ha
   have:=N ha
   rw [g]at this
   simpa using this
  ·intro p c _
   rw [g]
   simpa using c
end
theorem Aw.idle {ρ:Env} {μ:Aq} {h:Al} {w w':World} (H:AO ρ μ h w) (k:∀r,r<w.heap.size→w'.heap[r]?=w.heap[r]?) (hs:w.heap.size≤w'.heap.size) (q:w'.os=w.os) (o:w'.output=w.output):Aw ρ μ h w μ h w':=by
 have c:∀r,r<w.heap.size→¬AU μ h r→w'.heap[r]?=w.heap[r]?∧¬AU μ h r:=fun r d g=>⟨k r d,g⟩
 refine ⟨μ.le_refl,⟨H.fresh,fun b B hb=>?_,H.inj,H.Gr c⟩,hs,c,q,o,Nat.le_refl _,fun _ _=>rfl,fun _ _ h=>.inl h,rfl⟩
 obtain ⟨r,δ,j,d⟩:=H.blk b B hb
 exact ⟨r,δ,j,by rw [k r (H.lt hb j)];exact d⟩
theorem OX {f:Nat}:∀{l:List (Nat×By)} {o:By},Ss f l=some o→(f,o)∈l
 |[],o,h=>by cases h
 |x::r,o,h=>by
  have h:(bif Nat.beq x.1 f then some x.2 else Ss f r)=some o:=h
  rw [AP]at h
  by_cases e:x.1=f
  ·rw [if_pos e]at h
   simp only [oI]at h
   rw [←e,←h]
   exact List.mem_cons_self
  ·rw [if_neg e]at h
   exact List.mem_cons_of_mem _ (OX h)
theorem PG (k:IntKind) (n:Int) (h:k.min≤n∧n≤k.max):k.wrap n=n:=by
 obtain ⟨d,c⟩:=h
 unfold IntKind.wrap
 unfold IntKind.min at d
 unfold IntKind.max at c
 cases k<;>simp [IntKind.signed,IntKind.bits]at d c⊢<;>(try split)<;>omega
theorem YF {k:IntKind} {n:Int} (h:(Lit.int k n).wf=true):k.min≤n∧n≤k.max:=by
 simpa [Lit.wf]using h
theorem B3 {α:Type} {p:α→Prop} {x:α} {l:List α} (h:p x) (d:∀y∈l,p y):∀y∈x::l,p y:=fun y c=>by
 rcases List.mem_cons.1 c with rfl|c
 ·exact h
 ·exact d y c
end Go.AM
end
section
namespace Go.AM
def Holds (P:Program) (ρ:Env) (g:FuncId) (x:BC):Prop:=
 Kg P g∧∀μ w (c:Array Value),AO ρ μ (Bi x.pre (empty 0)) w→A9 ρ μ x.args c.toList→
  Calls P g c w fun e w'=>∃d,Aw ρ μ (Bi x.pre (empty 0)) w d (CA x.post (empty 0)) w'∧KT ρ d (.ret x.res) e
theorem Rn {P:Program} {ρ:Env} {g:FuncId} {x:BC} (hx:Holds P ρ g x):CC P ρ g (Ro x):=by
 intro args h r h' o
 unfold Ro at o
 generalize RD h x.pre 0 (Vz x.args args [])=σ at o
 simp only at o
 obtain ⟨j,C⟩:=Ap o
 clear o
 unfold AdR at j
 rw [aT,aT,aT,aT]at j
 obtain ⟨d,c,Q,y,M⟩:=j
 have d:=An.1 d
 rw [Dm,Fa]at d
 have c:=AX.1 c
 rw [Fa,Gx]at c
 have F:Fits h.fx h σ x.pre x.post.length:=⟨d,c,Fk Q,M⟩
 unfold Abk at C
 obtain ⟨Z,k,D⟩:=Ac C
 obtain ⟨v,hv,A⟩:=Ac D
 simp only [oI,Prod.mk.injEq]at A
 obtain ⟨rfl,rfl⟩:=A
 rw [Fa]at k hv
 rw [Gx]at k
 refine ⟨hx.1,fun μ w q H O=>?_⟩
 refine (hx.2 _ w q (Fits.before H.AY.facts F H) (GH H.AY.facts Fits.ren y O)).mono fun e w' z=>?_
 obtain ⟨U,X,z⟩:=z
 obtain ⟨N,J,R⟩:=F.after H k X
 refine ⟨N,J,?_⟩
 ·cases e
  case returned u=>exact Sl R hv (show Ag ρ U x.res u from z)
  all_goals exact z.elim
theorem HS {P:Program} {ρ:Env} {g:FuncId}:∀{l:List BC},(∀x∈l,Holds P ρ g x)→CC P ρ g (JZ l)
 |[],_,args,h,r,h',hr=>by cases hr
 |x::l,hl,args,h,r,h',hr=>by
  have e:JZ (x::l) args h=(match Ro x args h with|some y=>some y|none=>JZ l args h):=rfl
  rw [e]at hr
  split at hr
  ·rename_i y c
   simp only [oI]at hr
   subst hr
   exact Rn (hl x List.mem_cons_self) args h r h' c
  ·exact HS (fun y c=>hl y (List.mem_cons_of_mem _ c)) args h r h' hr
end Go.AM
end
