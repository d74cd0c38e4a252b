/- Part 3 of the proof of TypesRenames. -/
import Derived.Test.YtbmofjdmgjpfoaaGreatDoorE2
import Derived.WalkKit
import Derived.ProofKit
import Derived.OpenShut
import Derived.LoopN
import Derived.Defers
import Derived.Recover
import Derived.Laws.Sem
set_option linter.all false
section
namespace Go.AM
def CL (ρ:Env) (μ:Ap):List (FuncId×List Aa)→List Deferred→Prop
 |[],ds=>ds=[]
 |d::r,ds=>∃c rest,ds=c::rest∧Lr ρ μ d c∧CL ρ μ r rest
theorem Lr.mono {ρ:Env} {μ g:Ap} (h:μ.le g) {d:FuncId×List Aa} {c:Deferred} (hd:Lr ρ μ d c):Lr ρ g d c:=
 let ⟨cap,h1,h2⟩:=hd
 ⟨cap,h1,h2.mono h⟩
theorem CL.mono {ρ:Env} {μ d:Ap} (h:μ.le d):∀{l:List (FuncId×List Aa)} {ds:List Deferred},CL ρ μ l ds→CL ρ d l ds
 |[],_,e=>e
 |_::_,_,e=>let ⟨c,rest,e1,e2,e3⟩:=e;⟨c,rest,e1,e2.mono h,CL.mono h e3⟩
structure CX (ρ:Env) (μ:Ap) (nt:Nat) (f:Fr) (a:Act) (w:World):Prop where
 tmps:Ba ρ μ f.tm a
 size:nt≤a.tmps.size
 heap:AH ρ μ f.h w
 defs:CL ρ μ f.df a.defers
def Lq (ρ:Env) (μ:Ap):Ot→Ending→Prop
 |.ret v,.returned u=>Ag ρ μ v u
 |.panic v,.panicked chain=>∃u,chain=[{v:=u,recovered:=false}]∧Ag ρ μ v u
 |_,_=>False
def BH (P:Program) (ρ:Env) (call:C3):Prop:=
 ∀g args h r d,call g args h=some (r,d)→Ky P g∧∀μ w (c:Array Value),AH ρ μ h w→A7 ρ μ args c.toList→
  Calls P g c w fun e w'=>∃j,Av ρ μ h w j d w'∧Lq ρ j r e
section
variable {P:Program} {Γ:An} {ρ:Env} {μ:Ap} {tm:Tr Aa} {a:Act} {w:World} {h:Ak} {pl:List C5} {nt:Nat} {ops:Array Oper} {call:C3}
theorem Jb:Ag ρ μ Jc undef:=by
 simp only [Jc,Ag]
 exact ⟨_,rfl,by simp only [A7]⟩
theorem EZ (z:Ba ρ μ tm a) {o:Oper} {g:Option (Nat×Bool)} (hg:guardOf ops o.guard=some g) (hs:∀d b,g=some (d,b)→d<a.tmps.size) {b:Bool} (hb:Dn tm g=some b):Region.wanted o (yielded ops a.tmps)=b:=by
 unfold Region.wanted
 cases hog:o.guard with
 |none=>
  rw [hog]at hg
  simp only [guardOf,oI]at hg
  subst hg
  simp only [Dn,oI]at hb
  simp [←hb]
 |some jw=>
  obtain ⟨j,k⟩:=jw
  rw [hog]at hg
  simp only [guardOf]at hg
  split at hg
  ·rename_i d hd
   simp only [oI]at hg
   subst hg
   simp only [Dn]at hb
   have c:=hs d k rfl
   have hv:=z d
   unfold WC at hb
   split at hb
   ·rename_i y u
    simp only [oI]at hb
    subst hb
    rw [u]at hv
    have hv:=Ag.bool hv
    simp only [SB.den]at hv
    rw [Array.getD_eq_getD_getElem?,Array.getElem?_eq_getElem c,Option.getD_some]at hv
    have x:yielded ops a.tmps j=some y:=by
     unfold yielded
     rw [hd]
     simp [c,hv]
    simp only [x]
    cases k<;>cases y<;>rfl
   ·rename_i u
    simp only [oI]at hb
    subst hb
    rw [u]at hv
    have hv:Ag ρ μ (.tuple []) (a.tmps.getD d undef):=hv
    simp only [Ag]at hv
    obtain ⟨us,hv,A⟩:=hv
    rw [Array.getD_eq_getD_getElem?,Array.getElem?_eq_getElem c,Option.getD_some]at hv
    have x:yielded ops a.tmps j=none:=by
     unfold yielded
     rw [hd]
     simp [c,hv]
    simp only [x]
    rfl
   ·cases hb
  ·cases hg
structure Om (P:Program) (pl:List C5) (nt:Nat) (ops:Array Oper) (o:Oper) (s:Step):Prop where
 op:D8 P pl o=some s.op
 guard:guardOf ops o.guard=some s.guard
 dst:s.dst=o.dst
 small:∀d,o.dst=some d→d<nt
 seen:∀d b,s.guard=some (d,b)→d<nt
theorem FH {o:Oper} {b:Nat} {s:Step} (h:stepOf P pl nt ops o b=some s):Om P pl nt ops o s:=by
 unfold stepOf at h
 split at h
 ·rename_i op g k j
  split at h
  ·rename_i hd
   simp only [oI]at h
   subst h
   rw [aT]at hd
   refine ⟨k,j,rfl,fun d c=>?_,fun d b c=>?_⟩
   ·have:=hd.1
    rw [c]at this
    simp only [Option.all_some]at this
    exact Nat.lt_of_lt_of_le (Nat.lt_succ_self d) (AR.1 this)
   ·have:=hd.2
    simp only at c
    rw [c]at this
    simp only [Option.all_some]at this
    exact Nat.lt_of_lt_of_le (Nat.lt_succ_self d) (AR.1 this)
  ·cases h
 ·cases h
inductive Afk where
 |val (v:Aa) (h:Ak)
 |panic (v:Aa) (h:Ak)
 |defer (g:FuncId) (args:List Aa)
def Tl (call:C3) (h:Ak) (r:Hy):Option Afk:=
 match r with
 |.val v h=>some (.val v h)
 |.call g args=>match call g args h with
  |some (.ret v,h)=>some (.val v h)
  |some (.panic v,h)=>some (.panic v h)
  |none=>none
 |.panic v=>some (.panic v h)
 |.defer g args=>some (.defer g args)
noncomputable def Ae5 (f:Fr) (d:Option Nat) (o:Afk):Co:=
 match o with
 |.val v h=>Lb f d v h
 |.panic v h=>.panic v ⟨f.tm,h,f.df⟩
 |.defer g args=>.go ⟨Ea f.tm d .any,f.h,(g,args)::f.df⟩
theorem Nj {f:Fr} {d:Option Nat} {r:Hy} {x:Co} (j:Ain call f d r=some x):∃o,Tl call f.h r=some o∧x=Ae5 f d o:=by
 unfold Ain at j
 split at j
 ·simp only [oI]at j
  exact ⟨_,rfl,j.symm⟩
 ·rename_i g args
  obtain ⟨r,u,j⟩:=Ac j
  simp only [oI]at j
  subst j
  obtain ⟨c,k⟩:=r
  cases c with
  |ret v=>exact ⟨.val v k,by simp [Tl,u],rfl⟩
  |panic v=>exact ⟨.panic v k,by simp [Tl,u],rfl⟩
 ·simp only [oI]at j
  exact ⟨_,rfl,j.symm⟩
 ·simp only [oI]at j
  exact ⟨_,rfl,j.symm⟩
def Iz (u:Value):List PanicEntry:=[{v:=u,recovered:=false}]
def AmH (ρ:Env) (μ:Ap) (h:Ak) (a:Act) (w:World) (d:Option Tmp) (K:Act→World→Prop) (Q:Exit→Act→World→Prop):Afk→Prop
 |.val v h'=>∀c u w',Av ρ μ h w c h' w'→Ag ρ c v u→K (a.put d u) w'
 |.panic v h'=>∀c u w',Av ρ μ h w c h' w'→Ag ρ c v u→Q (.panic (Iz u)) a w'
 |.defer g args=>∀x,Lr ρ μ (g,args) x→K ({a with defers:=x::a.defers}.put d undef) w
theorem Tv (hc:BH P ρ call) (H:AH ρ μ h w) {o:Oper} {res:Hy} (hd:EP P ρ μ h a o w res) {out:Afk} (k:Tl call h res=some out) {K:Act→World→Prop} {Q:Exit→Act→World→Prop}
  (A:AmH ρ μ h a w o.dst K Q out):o.wp P a w K Q:=by
 unfold Oper.wp
 cases res with
 |val v N=>
  simp only [Tl,oI]at k
  subst k
  obtain ⟨U,u,w',C,j,R,hg,hv⟩:=hd
  rw [j]
  rcases R with rfl|⟨rfl,rfl⟩
  ·exact A C u w' hg hv
  ·exact A C undef w' hg hv
 |call g args=>
  simp only [Tl]at k
  split at k
  ·rename_i v N y
   simp only [oI]at k
   subst k
   obtain ⟨hf,J⟩:=hc _ _ _ _ _ y
   obtain ⟨x,j,D⟩:=hd hf
   rw [j]
   refine Calls.mono (J μ w x H D) fun e w' M=>?_
   obtain ⟨C,hg,z⟩:=M
   cases e with
   |returned u=>exact A C u w' hg z
   |panicked c=>exact z.elim
   |outgrown=>exact z.elim
  ·rename_i v N y
   simp only [oI]at k
   subst k
   obtain ⟨hf,J⟩:=hc _ _ _ _ _ y
   obtain ⟨x,j,D⟩:=hd hf
   rw [j]
   refine Calls.mono (J μ w x H D) fun e w' M=>?_
   obtain ⟨C,hg,z⟩:=M
   cases e with
   |returned u=>exact z.elim
   |panicked c=>
    obtain ⟨u,rfl,hv⟩:=z
    exact A C u w' hg hv
   |outgrown=>exact z.elim
  ·cases k
 |panic v=>
  simp only [Tl,oI]at k
  subst k
  obtain ⟨u,j,hv⟩:=hd
  rw [j]
  exact A μ u w (Av.refl H) hv
 |defer g args=>
  simp only [Tl,oI]at k
  subst k
  obtain ⟨d,j,O⟩:=hd
  rw [j]
  exact A d O
def Adr (ρ:Env) (μ:Ap):Bi→Exit→Prop
 |.normal,e=>e=.normal
 |.exit i,e=>e=.exit i
 |.ret,e=>e=.ret
 |.panic v,e=>∃u,e=.panic (Iz u)∧Ag ρ μ v u
def D6 (ρ:Env) (nt:Nat) (μ:Ap) (h:Ak) (w:World) (Q:Exit→Act→World→Prop) (r:Bi×Fr):Prop:=
 ∀c d w' e,CX ρ c nt r.2 d w'→Av ρ μ h w c r.2.h w'→Adr ρ c r.1 e→Q e d w'
theorem D6.grow {d:Ap} {c:Ak} {w':World} {Q:Exit→Act→World→Prop} {r:Bi×Fr} (hl:D6 ρ nt μ h w Q r) (g:Av ρ μ h w d c w'):D6 ρ nt d c w' Q r:=
 fun _ _ _ _ hf hg j=>hl _ _ _ _ hf (g.trans hg) j
theorem K1 {Q:Exit→Act→World→Prop} {i:Nat} {o:Oper} {K:Act→World→Prop} (d:ops[i]?=some o)
  (h:if Region.wanted o (yielded ops a.tmps)then o.wp P a w K Q else K (a.put o.dst undef) w):wpOp P ops Q i K a w:=by
 unfold wpOp
 rw [d]
 simp only
 split
 ·rename_i c
  rw [if_pos c]at h
  exact .inl h
 ·rename_i c
  rw [if_neg c]at h
  exact h
theorem CX.put {c:Ap} {f:Fr} {j:Ak} {w':World} (F:CX ρ μ nt f a w) (g:μ.le c) (H:AH ρ c j w') {d:Option Tmp} (hd:∀t,d=some t→t<nt) {v:Aa} {u:Value} (hv:Ag ρ c v u):CX ρ c nt ⟨Ea f.tm d v,j,f.df⟩ (a.put d u) w':=
 ⟨(F.tmps.mono g).put (fun t e=>Nat.lt_of_lt_of_le (hd t e) F.size) hv,by rw [Act.MH];exact F.size,H,by
  have:(a.put d u).defers=a.defers:=by cases d<;>rfl
  rw [this];exact F.defs.mono g⟩
def Wy (ρ:Env) (nt:Nat) (μ:Ap) (h:Ak) (a:Act) (w:World) (K:Act→World→Prop) (Q:Exit→Act→World→Prop):Co→Prop
 |.go f'=>∀c d w',CX ρ c nt f' d w'→Av ρ μ h w c f'.h w'→K d w'
 |.panic v f'=>∀c u w',CX ρ c nt f' a w'→Av ρ μ h w c f'.h w'→Ag ρ c v u→Q (.panic (Iz u)) a w'
theorem Pk (J:Γ.AG ρ) (hc:BH P ρ call) {f:Fr} (F:CX ρ μ nt f a w) {o:Oper} {s:Step} (hs:Om P pl nt ops o s) {r:Co} (j:IN Γ call s f=some r) {K:Act→World→Prop} {Q:Exit→Act→World→Prop}
  (c:Wy ρ nt μ f.h a w K Q r):if Region.wanted o (yielded ops a.tmps)then o.wp P a w K Q else K (a.put o.dst undef) w:=by
 unfold IN at j
 obtain ⟨b,hb,j⟩:=Ac j
 rw [EZ F.tmps hs.guard (fun d b e=>Nat.lt_of_lt_of_le (hs.seen d b e) F.size) hb]
 cases b with
 |false=>
  simp only [cond_false,oI]at j
  subst j
  simp only [Bool.false_eq_true,if_false]
  have c:∀k x w',CX ρ k nt (⟨Ea f.tm s.dst Jc,f.h,f.df⟩:Fr) x w'→Av ρ μ f.h w k f.h w'→K x w':=c
  rw [hs.dst]at c
  exact c μ _ w (F.put μ.le_refl F.heap hs.small Jb) (Av.refl F.heap)
 |true=>
  simp only [cond_true]at j
  simp only [if_true]
  have y:=hs.op
  unfold XC at j
  split at j
  ·rename_i q C
   rw [C]at y
   obtain ⟨v,hv,j⟩:=Ac j
   simp only [oI]at j
   subst j
   obtain ⟨u,z,A⟩:=MY (w:=w) J F.tmps y hv
   unfold Oper.wp
   rw [z]
   have c:∀k x w',CX ρ k nt (⟨Ea f.tm s.dst v,f.h,f.df⟩:Fr) x w'→Av ρ μ f.h w k f.h w'→K x w':=c
   rw [hs.dst]at c
   exact c μ _ w (F.put μ.le_refl F.heap hs.small A) (Av.refl F.heap)
  ·rename_i q C
   rw [C]at y
   obtain ⟨v,hv,j⟩:=Ac j
   simp only [oI]at j
   subst j
   obtain ⟨u,z,A⟩:=MU J F.heap F.tmps y hv
   unfold Oper.wp
   rw [z]
   have c:∀k x w',CX ρ k nt (⟨Ea f.tm s.dst v,f.h,f.df⟩:Fr) x w'→Av ρ μ f.h w k f.h w'→K x w':=c
   rw [hs.dst]at c
   exact c μ _ w (F.put μ.le_refl F.heap hs.small A) (Av.refl F.heap)
  ·rename_i q C
   rw [C]at y
   obtain ⟨⟨B,v⟩,hv,j⟩:=Ac j
   simp only [oI]at j
   subst j
   obtain ⟨M,u,z,m,hB,A⟩:=P7 (w:=w) F.tmps y hv
   have hg:=Av.add F.heap B M (0,m) hB
   unfold Oper.wp
   rw [z]
   have c:∀k x w',CX ρ k nt (⟨Ea f.tm s.dst v,f.h.add B,f.df⟩:Fr) x w'→Av ρ μ f.h w k (f.h.add B) w'→K x w':=c
   rw [hs.dst]at c
   exact c _ _ _ (F.put hg.le hg.rel hs.small (A _ hg.le (Ap.BM _ _ _))) hg
  ·rename_i q C
   rw [C]at y
   obtain ⟨res,D,j⟩:=Ac j
   obtain ⟨out,H,rfl⟩:=Nj j
   refine Tv hc F.heap (LG F.heap F.tmps y D) H ?_
   cases out with
   |val v h'=>
    have c:∀k x w',CX ρ k nt (⟨Ea f.tm s.dst v,h',f.df⟩:Fr) x w'→Av ρ μ f.h w k h' w'→K x w':=c
    rw [hs.dst]at c
    exact fun k u w' hg hv=>c k _ w' (F.put hg.le hg.rel hs.small hv) hg
   |panic v h'=>exact fun k u w' hg hv=>c k u w' ⟨F.tmps.mono hg.le,F.size,hg.rel,F.defs.mono hg.le⟩ hg hv
   |defer g args=>
    have c:∀k x w',CX ρ k nt (⟨Ea f.tm s.dst .any,f.h,(g,args)::f.df⟩:Fr) x w'→Av ρ μ f.h w k f.h w'→K x w':=c
    rw [hs.dst]at c
    refine fun d hd=>c μ _ w ?_ (Av.refl F.heap)
    have N:CX ρ μ nt ⟨f.tm,f.h,(g,args)::f.df⟩ {a with defers:=d::a.defers} w:=⟨F.tmps,F.size,F.heap,d,a.defers,rfl,hd,F.defs⟩
    exact N.put μ.le_refl F.heap hs.small trivial
theorem U1 (c:Γ.AG ρ) (hc:BH P ρ call) {f:Fr} (F:CX ρ μ nt f a w) {o:Oper} {s:Step} {i:Nat} (g:ops[i]?=some o) (hs:Om P pl nt ops o s) {r:Co} (j:IN Γ call s f=some r) {K:Act→World→Prop} {Q:Exit→Act→World→Prop}
  (d:Wy ρ nt μ f.h a w K Q r):wpOp P ops Q i K a w:=
 K1 g (Pk c hc F hs j d)
theorem Dx {α:Type}:∀{l:List (Option α)} {r:List α},BD l=some r→l=r.map some
 |[],r,h=>by simp only [BD,oI]at h;subst h;rfl
 |some a::l,r,h=>by
  simp only [BD]at h
  obtain ⟨d,c,e⟩:=mS h
  subst e
  simp [Dx c]
 |none::l,r,h=>by simp [BD]at h
theorem Pr (s:Step) (r:List Step) (f:Fr):UQ Γ call (s::r) f=AB (IN Γ call s f) fun x=>goes x fun c=>UQ Γ call r c:=rfl
theorem Pq (D:Γ.AG ρ) (hc:BH P ρ call) {Q:Exit→Act→World→Prop}:∀(l:List Oper) (c:List Step) (k:Nat) {μ:Ap} {a:Act} {w:World} {f:Fr} {r:Co},(∀j,l[j]?=ops[k+j]?)→BD (l.map fun o=>stepOf P pl nt ops o 0)=some c→
  UQ Γ call c f=some r→CX ρ μ nt f a w→D6 ρ nt μ f.h w Q (Gc r)→wpOps P ops Q (List.range' k l.length) a w
 |[],c,k,μ,a,w,f,r,hl,hs,d,F,L=>by
  simp only [List.map_nil,BD,oI]at hs
  subst hs
  have d:some (Co.go f)=some r:=d
  simp only [oI]at d
  subst d
  exact L μ a w .normal F (Av.refl F.heap) rfl
 |o::l,c,k,μ,a,w,f,r,hl,hs,d,F,L=>by
  have y:=Dx hs
  cases c with
  |nil=>simp at y
  |cons s c=>
   simp only [List.map_cons,List.cons.injEq]at y
   obtain ⟨M,C⟩:=y
   have A:BD (l.map fun o=>stepOf P pl nt ops o 0)=some c:=by
    rw [C]
    clear C d hs
    induction c with
    |nil=>rfl
    |cons x r ih=>simp only [List.map_cons,BD,ih,Option.map_some]
   rw [Pr]at d
   obtain ⟨x,N,d⟩:=Ac d
   have J:ops[k]?=some o:=by simpa using (hl 0).symm
   rw [lC,List.range'_succ,wpOps_cons]
   refine U1 D hc F J (FH M) N ?_
   cases x with
   |go f'=>exact fun H O w' z g=>Pq D hc l c (k+1) (fun j=>by simpa [Nat.add_assoc,Nat.add_comm 1 j]using hl (j+1)) A d z (L.grow g)
   |panic v f'=>
    simp only [goes,oI]at d
    subst d
    exact fun H u w' z g hv=>L H a w' _ z g ⟨u,rfl,hv⟩
end
end Go.AM
end
section
namespace Go.AM
section
variable {Γ:An} {tm tm':Tr Aa} {h h':Ak}
def DR (tm tm':Tr Aa) (l:List CB):Prop:=∀x∈l,ev tm x=ev tm' x
theorem Fo:∀{l:List CB},DR tm tm' l→So tm l=So tm' l
 |[],_=>rfl
 |x::r,h=>by
  show ev tm x::So tm r=ev tm' x::So tm' r
  rw [h x (by simp),Fo fun y c=>h y (by simp [c])]
theorem HZ:∀{ps:List (Nat×Nat×CB)} {cs:List Aa},DR tm tm' (ps.map (·.2.2))→Ia tm ps cs=Ia tm' ps cs
 |[],_,_=>rfl
 |p::r,cs,h=>by
  show (AB (FR cs (ev tm p.2.2) p.1 p.2.1) fun cs=>Ia tm r cs)=AB (FR cs (ev tm' p.2.2) p.1 p.2.1) fun cs=>Ia tm' r cs
  rw [h p.2.2 (by simp)]
  congr 1
  funext cs
  exact HZ fun y c=>h y (by simp only [List.map_cons,List.mem_cons];exact .inr c)
theorem Fb {d:Nat} {o:Option CB} (h:DR tm tm' o.toList):Ct tm d o=Ct tm' d o:=by
 cases o with
 |none=>rfl
 |some x=>simp only [Ct];rw [h x (by simp)]
theorem Vg {o:Option CB} (h:DR tm tm' o.toList):Ae6 tm o=Ae6 tm' o:=by
 cases o with
 |none=>rfl
 |some x=>simp only [Ae6];rw [h x (by simp)]
theorem Ng {o:Option CB} (h:DR tm tm' o.toList):Ml tm o=Ml tm' o:=by
 cases o with
 |none=>rfl
 |some x=>simp only [Ml];rw [h x (by simp)]
theorem DR.app {l d:List CB} (h:DR tm tm' (l++d)):DR tm tm' l∧DR tm tm' d:=⟨fun x c=>h x (by simp [c]),fun x c=>h x (by simp [c])⟩
theorem DR.cons {x:CB} {l:List CB} (h:DR tm tm' (x::l)):ev tm x=ev tm' x∧DR tm tm' l:=⟨h x (by simp),fun x c=>h x (by simp [c])⟩
theorem Tj {o:POp} (h:DR tm tm' o.Cg):IU Γ tm o=IU Γ tm' o:=by
 cases o<;>simp only [POp.Cg]at h<;>simp only [IU]
 case build zero parts=>rw [HZ h]
 case func f a c=>rw [Fo h.app.1,Fo h.app.2]
 case big m xs=>rw [Fo h]
 case subs x lo hi=>
  obtain ⟨k,g⟩:=h.cons
  obtain ⟨g,j⟩:=g.app
  rw [k,Fb g]
  congr 1
  funext d
  exact Fb j
 case reslice n x lo hi mx=>
  obtain ⟨k,g⟩:=h.cons
  obtain ⟨g,j⟩:=g.app
  obtain ⟨j,u⟩:=j.app
  have e:(fun d=>Ct tm d hi)=fun d=>Ct tm' d hi:=funext fun d=>Fb j
  rw [k]
  unfold Gn
  rw [Fb g,Vg u,e,Ng g,Ng j]
 case pick c a b=>rw [h.cons.1,h.cons.2.cons.1,h.cons.2.cons.2.cons.1]
 all_goals first
  |(rw [h.cons.1,h.cons.2.cons.1];done)
  |(rw [h.cons.1];done)
theorem FJ {o:Ow} (c:DR tm tm' o.Cg):Dz Γ tm h o=Dz Γ tm' h o:=by
 cases o<;>simp only [Ow.Cg]at c<;>simp only [Dz]
 case load n x=>rw [c.cons.1]
 case lenM x=>rw [c.cons.1]
 case uptr ok x=>rw [c.cons.1]
 case bstr x=>rw [c.cons.1]
 case lookup kk z ok x k=>rw [c.cons.1,c.cons.2.cons.1]
theorem Vm {id:Nat} {o:AOp} (d:DR tm tm' o.Cg):YX tm id o=YX tm' id o:=by
 cases o<;>simp only [AOp.Cg]at d<;>simp only [YX]
 case box t x=>rw [d.cons.1]
 case bslice len z ps=>rw [HZ d]
 case mkSlice z l c=>rw [d.cons.1,d.cons.2.cons.1]
theorem QY {o:MOp} (c:DR tm tm' o.Cg):KI tm h o=KI tm' h o:=by
 cases o<;>simp only [MOp.Cg]at c<;>simp only [KI]
 case call f args=>rw [c.cons.1,Fo c.cons.2]
 case defer f args=>rw [c.cons.1,Fo c.cons.2]
 case mapUp kk m k v=>rw [c.cons.1,c.cons.2.cons.1,c.cons.2.cons.2.cons.1]
 all_goals first
  |(rw [c.cons.1,c.cons.2.cons.1];done)
  |(rw [c.cons.1];done)
theorem F9 {l:List CB} (h:∀t∈l.flatMap CB.names,tm.get t=tm'.get t):DR tm tm' l:=fun x c=>by
 cases x with
 |con v=>rfl
 |tmp t=>
  simp only [ev]
  rw [h t (List.mem_flatMap.2 ⟨.tmp t,c,by simp [CB.names]⟩)]
end
theorem AaW {P:Program} {pl:List C5} {o:Oper} {q:Ow} (hc:D8 P pl o=some (.r q)):∀x∈q.Cg,∃y:Operand,x=AF y:=by
 cases hop:o.op<;>simp only [D8,hop,reduceCtorEq,oI]at hc
 case load t x=>
  obtain ⟨n,A,e⟩:=mS hc
  simp only [DS.r.injEq]at e
  subst e
  intro y g
  simp only [Ow.Cg,List.mem_singleton]at g
  exact ⟨_,g⟩
 case lookup t x k ok=>
  split at hc
  ·split at hc
   ·obtain ⟨z,C,e⟩:=mS hc
    simp only [DS.r.injEq]at e
    subst e
    intro y g
    simp only [Ow.Cg,List.mem_cons,List.not_mem_nil,or_false]at g
    rcases g with g|g
    ·exact ⟨_,g⟩
    ·exact ⟨_,g⟩
   ·cases hc
  ·cases hc
 case call c=>
  unfold F6 at hc
  split at hc
  ·split at hc
   ·split at hc
    ·simp at hc
    ·split at hc
     ·split at hc<;>simp at hc
     ·split at hc
      ·split at hc<;>simp at hc
      ·cases hc
   ·cases hc
  ·simp at hc
  ·cases hc
  ·rename_i b hb
   split at hc
   ·split at hc
    ·simp at hc
    ·simp at hc
    ·simp at hc
    ·simp only [oI,DS.r.injEq]at hc
     subst hc
     intro y g
     simp only [Ow.Cg,List.mem_singleton]at g
     exact ⟨_,g⟩
    ·cases hc
   ·exfalso
    unfold Fg at hc
    split at hc<;>first|cases hc|skip
    all_goals (split at hc<;>first|(cases hc;done) |(split at hc<;>simp at hc))
   ·exfalso
    split at hc<;>first|(cases hc;done) |(obtain ⟨_,_,e⟩:=mS hc;cases e)
   ·simp at hc
   ·simp at hc
   ·simp at hc
   ·simp at hc
   ·exfalso
    split at hc
    ·split at hc<;>simp at hc
    ·cases hc
   ·cases hc
 case convert s d x=>
  rcases CV hc with ⟨k0,k,hs,hd,e⟩|⟨hs,hd,e⟩|⟨t,n,hs,hd,A,e⟩|⟨u,n,hs,hd,A,e⟩|⟨el,hs,he,hd,e⟩
  ·cases e
  ·cases e
  all_goals
   simp only [DS.r.injEq]at e
   subst e
   intro y g
   simp only [Ow.Cg,List.mem_singleton]at g
   exact ⟨_,g⟩
 case typeAssert x xt t ok=>
  obtain ⟨d,i,z,J,hd,D,C,e⟩:=Cu hc
  cases e
 case defer c=>
  obtain ⟨j,args,H⟩:=c
  cases j<;>simp at hc
 case makeFunc fn x c=>cases fn<;>simp at hc
 case binOp op t x y yt=>obtain ⟨_,_,e⟩:=mS hc;cases e
 case slice t x lo D mx=>
  exfalso
  split at hc
  ·simp at hc
  ·obtain ⟨_,_,e⟩:=mS hc;cases e
  ·split at hc
   ·obtain ⟨_,_,e⟩:=mS hc;cases e
   ·cases hc
  ·cases hc
 case build t parts=>
  exfalso
  split at hc
  ·split at hc
   ·obtain ⟨_,_,e⟩:=mS hc;cases e
   ·cases hc
  ·obtain ⟨_,_,hc⟩:=Option.bind_eq_some_iff.1 hc
   obtain ⟨_,_,e⟩:=mS hc;cases e
  ·cases hc
 case fieldAddr t x f=>
  exfalso
  split at hc
  ·obtain ⟨_,_,hc⟩:=Option.bind_eq_some_iff.1 hc
   split at hc<;>simp at hc
  ·cases hc
 case field t x f=>
  exfalso
  split at hc
  ·obtain ⟨_,_,hc⟩:=Option.bind_eq_some_iff.1 hc
   obtain ⟨_,_,e⟩:=mS hc;cases e
  ·cases hc
 all_goals
  exfalso
  first
   |(cases hc;done)
   |(split at hc<;>first|(cases hc;done) |(simp at hc;done) |(obtain ⟨_,_,e⟩:=mS hc;cases e;done) |(split at hc<;>first|(cases hc;done) |(simp at hc;done) |(obtain ⟨_,_,e⟩:=mS hc;cases e;done) |(split at hc<;>first|(cases hc;done) |(simp at hc;done) |(obtain ⟨_,_,e⟩:=mS hc;cases e;done))))
   |(obtain ⟨_,_,e⟩:=mS hc;cases e;done)
section
variable {P:Program} {ρ:Env} {μ:Ap} {tm:Tr Aa} {a:Act} {h h':Ak}
theorem UX {Γ:An} (Z:Ba ρ μ tm a) {o:Oper} {pl:List C5} {q:Ow} (hc:D8 P pl o=some (.r q)) (H:∀b B,μ b≠none→h.get b=some B→h'.get b=some B) {v:Aa} (hv:Dz Γ tm h q=some v):Dz Γ tm h' q=some v:=by
 have cells:∀{b:Nat} {vs:List Aa},μ b≠none→cellsOf (h.get b)=some vs→cellsOf (h'.get b)=some vs:=fun {b vs} hb d=>by
  rcases Fh d with e|⟨t,e⟩<;>rw [H _ _ hb e]<;>rfl
 have O:∀{b:Nat} {vs:List Entry×Nat},μ b≠none→mapOf (h.get b)=some vs→mapOf (h'.get b)=some vs:=fun {b vs} hb d=>by
  rw [H _ _ hb (DI d)];rfl
 have Q:∀x∈q.Cg,∃u,Ag ρ μ (ev tm x) u:=fun x hx=>by
  obtain ⟨y,rfl⟩:=AaW hc x hx
  exact ⟨_,Aq Z y⟩
 cases q with
 |load n x=>
  obtain ⟨u,g⟩:=Q x (by simp [Ow.Cg])
  simp only [Dz]at hv⊢
  unfold Nr at hv⊢
  split at hv
  ·rename_i b R j D C
   rw [C]at g
   obtain ⟨r,m,A,_⟩:=g.vptr
   obtain ⟨vs,d,ac⟩:=Ac hv
   obtain ⟨l,hl,_⟩:=Ac d
   have hb:=H _ _ (by rw [A];simp) (Di hl)
   have X:elemV Γ (h'.get b) R j=elemV Γ (h.get b) R j:=by rw [hb,Di hl]
   simp only [X]
   exact hv
  ·exact hv
  ·rename_i b D C
   rw [C]at g
   obtain ⟨r,δ,m,A,_⟩:=g.ptr
   obtain ⟨vs,d,hv⟩:=Ac hv
   simp only [cells (by rw [A];simp) d]
   exact hv
  ·cases hv
 |lookup kk z ok x k=>
  obtain ⟨u,g⟩:=Q x (by simp [Ow.Cg])
  simp only [Dz]at hv⊢
  unfold XV at hv⊢
  split at hv
  ·exact hv
  ·rename_i b C
   rw [C]at g
   obtain ⟨r,A,_⟩:=g.O6
   unfold Vu at hv⊢
   split at hv
   ·rename_i i hi
    have J:Jj (h'.get b)=some i:=by rw [H _ _ (by rw [A];simp) (EB hi)];rfl
    simp only [J]
    exact hv
   ·obtain ⟨vs,d,hv⟩:=Ac hv
    have J:Jj (h'.get b)=none:=by rw [H _ _ (by rw [A];simp) (DI d)];rfl
    simp only [J,O (by rw [A];simp) d]
    exact hv
  ·cases hv
 |lenM x=>
  obtain ⟨u,g⟩:=Q x (by simp [Ow.Cg])
  simp only [Dz]at hv⊢
  unfold XW at hv⊢
  split at hv
  ·exact hv
  ·rename_i b C
   rw [C]at g
   obtain ⟨r,A,_⟩:=g.O6
   obtain ⟨vs,d,hv⟩:=Ac hv
   simp only [O (by rw [A];simp) d]
   exact hv
  ·cases hv
 |bstr x=>
  obtain ⟨u,g⟩:=Q x (by simp [Ow.Cg])
  simp only [Dz]at hv⊢
  have key:∀b D len,μ b≠none→Ob h b D len=some v→Ob h' b D len=some v:=fun b D len hb N=>by
   unfold Ob at N⊢
   cases hl:Nat.beq len 0 with
   |true=>rw [hl]at N;exact N
   |false=>
    rw [hl]at N
    obtain ⟨vs,d,U⟩:=Ac N
    simp only [cond_false,cells hb d]
    exact U
  unfold Yt at hv⊢
  split at hv
  ·exact hv
  ·rename_i b D len c C
   rw [C]at g
   obtain ⟨r,δ,m,A,_⟩:=g.slice
   exact key _ _ _ (by rw [A];simp) hv
  ·rename_i b D len c C
   rw [C]at g
   obtain ⟨r,δ,m,_,A,_⟩:=g.gslice
   exact key _ _ _ (by rw [A];simp) hv
  ·cases hv
 |uptr ok x=>
  obtain ⟨u,g⟩:=Q x (by simp [Ow.Cg])
  simp only [Dz]at hv⊢
  unfold OU at hv⊢
  split at hv
  ·rename_i b C
   rw [C]at g
   obtain ⟨r,δ,m,A,_⟩:=g.ptr
   have M:=hv
   unfold ZN at M
   split at M
   ·rename_i e vs hb
    rw [hb]at hv
    rw [H _ _ (by rw [A];simp) hb]
    exact hv
   ·cases M
  ·cases hv
end
end Go.AM
end
section
namespace Go.AM
structure Item where
 i:Nat
 s:Step
 e:Option (Aa×Option Block)
def Item.pair (x:Item):Nat×Step:=(x.i,x.s)
def GP:List Item→(Nat→Option Aa)→Nat→Option Aa
 |[],g,t=>g t
 |x::r,g,t=>match x.e with
  |some u=>if x.s.dst=some t then some u.1 else GP r g t
  |none=>GP r g t
def EJ:List Item→Nat→(Nat→Option Block)→Nat→Option Block
 |[],_,g,b=>g b
 |x::r,id,g,b=>match x.e with
  |some (_,some B)=>if b=id then some B else EJ r (id+1) g b
  |_=>EJ r (id+1) g b
def Clo (W:Nat→Nat→Bool):List Item→Prop
 |[]=>True
 |x::r=>(x.e=none→∀z∈r,z.e≠none→W x.i z.i=false)∧Clo W r
def ZC (Γ:An) (call:C3):List Item→Nat→Fr→Prop
 |[],_,_=>True
 |x::r,id,f=>(∀u,x.e=some u→HX Γ f.tm f.h id x.s=some u)∧
  ((∃c,IM Γ call x.s id f=some (.go c)∧ZC Γ call r (id+1) c)∨∀y∈r,y.e=none)
structure Y6 (W:Nat→Nat→Bool) (x y:Nat×Step):Prop where
 ne:x.1≠y.1
 chg:BY y.2.op=true→W x.1 y.1=true
 dst:∀d,x.2.dst=some d→y.2.dst≠some d
 reads:∀d,x.2.dst=some d→d∈y.2.names→W x.1 y.1=true
 writes:∀d,y.2.dst=some d→d∈x.2.names→W x.1 y.1=true
section
variable {W:Nat→Nat→Bool}
theorem any_beq {l:List Nat} {d:Nat}:l.any (Nat.beq d)=true↔d∈l:=by
 rw [List.any_eq_true]
 constructor
 ·rintro ⟨x,hx,e⟩
  rw [Al.1 e];exact hx
 ·intro h
  exact ⟨d,h,Al.2 rfl⟩
theorem Ui {x y:Nat×Step} (h:Ws W x y=true):Y6 W x y:=by
 unfold Ws at h
 rw [aT,aT,aT]at h
 obtain ⟨⟨⟨k,o⟩,c⟩,g⟩:=h
 refine ⟨fun e=>?_,fun u=>?_,fun d hd z=>?_,fun d hd j=>?_,fun d hd j=>?_⟩
 ·rw [Al.2 e]at k;cases k
 ·rw [u]at o;simpa using o
 ·rw [hd,z]at c
  simp only [aT]at c
  rw [Al.2 rfl]at c
  simp at c
 ·rw [hd]at c
  simp only [aT,Bool.or_eq_true]at c
  rcases c.2 with h|h
  ·rw [any_beq.2 j]at h;cases h
  ·exact h
 ·rw [hd]at g
  simp only [Bool.or_eq_true]at g
  rcases g with h|h
  ·rw [any_beq.2 j]at h;cases h
  ·exact h
structure OkD (W:Nat→Nat→Bool) (x:Nat×Step) (r:List (Nat×Step)):Prop where
 self:∀d,x.2.dst=some d→d∉x.2.names
 apart:∀y∈r,Y6 W x y
 back:BY x.2.op=true→Of W x.1 r 0=true
 rest:okD W r=true
theorem Fy {x:Nat×Step} {r:List (Nat×Step)} (h:okD W (x::r)=true):OkD W x r:=by
 simp only [okD,aT]at h
 obtain ⟨c,o,g,j⟩:=h
 refine ⟨fun d hd k=>?_,fun y z=>Ui (List.all_eq_true.1 o y z),fun u=>?_,j⟩
 ·unfold Afv at c
  rw [hd]at c
  simp only at c
  rw [any_beq.2 k]at c
  cases c
 ·rw [u]at g;simpa using g
def muts (l:List (Nat×Step)):Nat:=l.countP fun x=>BY x.2.op
theorem J5 {x:Nat}:∀{pre post:List (Nat×Step)} {y:Nat×Step} {k:Nat},Of W x (pre++y::post) k=true→BY y.2.op=false→W x y.1=false→k+muts pre<y.2.back
 |[],post,y,k,h,hm,hw=>by
  simp only [List.nil_append,Of,hm,Bool.false_eq_true,if_false,aT,Bool.or_eq_true,hw,or_false]at h
  have:=AR.1 h.1
  simp only [muts,List.countP_nil]
  omega
 |z::pre,post,y,k,h,hm,hw=>by
  simp only [List.cons_append,Of]at h
  cases hz:BY z.2.op with
  |true=>
   rw [hz]at h
   simp only [if_true]at h
   have:=J5 h hm hw
   simp only [muts,List.countP_cons,hz,if_true]at this⊢
   omega
  |false=>
   rw [hz]at h
   simp only [Bool.false_eq_true,if_false,aT]at h
   have:=J5 h.2 hm hw
   simp only [muts,List.countP_cons,hz]at this⊢
   simpa using this
theorem LW (s:Step) (r:List Step) (k:Nat):Ln (s::r) k=bif BY s.op then Ln r (k+1)else Nat.ble s.back k&&Ln r k:=rfl
theorem Ij:∀{pre post:List (Nat×Step)} {y:Nat×Step} {k:Nat},Ln ((pre++y::post).map (·.2)) k=true→BY y.2.op=false→y.2.back≤k+muts pre
 |[],post,y,k,h,hm=>by
  simp only [List.nil_append,List.map_cons,LW,hm,cond_false,aT]at h
  have:=AR.1 h.1
  simp only [muts,List.countP_nil]
  omega
 |z::pre,post,y,k,h,hm=>by
  simp only [List.cons_append,List.map_cons,LW]at h
  cases hz:BY z.2.op with
  |true=>
   rw [hz]at h
   simp only [cond_true]at h
   have:=Ij h hm
   simp only [muts,List.countP_cons,hz,if_true]at this⊢
   omega
  |false=>
   rw [hz]at h
   simp only [cond_false,aT]at h
   have:=Ij h.2 hm
   simp only [muts,List.countP_cons,hz]at this⊢
   simpa using this
end
theorem E3:∀{r:List Item} {g c:Nat→Option Aa} {t:Nat},g t=c t→GP r g t=GP r c t
 |[],_,_,_,h=>h
 |x::r,g,c,t,h=>by
  simp only [GP]
  cases x.e with
  |none=>exact E3 h
  |some u=>
   dsimp only
   split
   ·rfl
   ·exact E3 h
theorem DO:∀{r:List Item} {g:Nat→Option Aa} {t:Nat},(∀z∈r,z.e≠none→z.s.dst≠some t)→GP r g t=g t
 |[],_,_,_=>rfl
 |x::r,g,t,h=>by
  simp only [GP]
  have ih:=DO (g:=g) fun z c=>h z (List.mem_cons_of_mem _ c)
  cases hx:x.e with
  |none=>exact ih
  |some u=>
   dsimp only
   rw [if_neg (h x List.mem_cons_self (by rw [hx];simp))]
   exact ih
theorem DZ (tm:Tr Aa) (d:Option Nat) (v:Aa) (t:Nat):(Ea tm d v).get t=if d=some t then some v else tm.get t:=by
 cases d with
 |none=>simp [Ea]
 |some d=>
  simp only [Ea,Tr.Bk,oI]
  by_cases h:t=d
  ·rw [if_pos h,if_pos h.symm]
  ·rw [if_neg h,if_neg (Ne.symm h)]
theorem ED (h:Ak) (id:Nat) (B:Option Block) (b:Nat):(GG h id B).get b=match B with|some B=>if b=id then some B else h.get b|none=>h.get b:=by
 cases B with
 |none=>rfl
 |some B=>exact Tr.Bk _ _ _ _
theorem Fl (h:Ak) (id:Nat) (B:Option Block):(GG h id B).next=h.next:=by cases B<;>rfl
theorem GQ:∀{r:List Item} {id:Nat} {g c:Nat→Option Block} {b:Nat},g b=c b→EJ r id g b=EJ r id c b
 |[],_,_,_,_,h=>h
 |x::r,id,g,c,b,h=>by
  simp only [EJ]
  split
  ·split
   ·rfl
   ·exact GQ h
  ·exact GQ h
theorem Jv:∀{r:List Item} {id:Nat} {g:Nat→Option Block} {b:Nat},b<id→EJ r id g b=g b
 |[],_,_,_,_=>rfl
 |x::r,id,g,b,h=>by
  simp only [EJ]
  split
  ·rw [if_neg (by omega)]
   exact Jv (by omega)
  ·exact Jv (by omega)
theorem Ju:∀{r:List Item} {id:Nat} {g:Nat→Option Block} {b:Nat} {B:Block},EJ r id g b=some B→g b=some B∨∃k x v,r[k]?=some x∧x.e=some (v,some B)∧b=id+k
 |[],_,_,_,_,h=>.inl h
 |x::r,id,g,b,B,h=>by
  simp only [EJ]at h
  split at h
  ·rename_i v d c
   split at h
   ·rename_i e
    simp only [oI]at h
    subst h
    exact .inr ⟨0,x,v,rfl,c,e⟩
   ·rcases Ju h with h|⟨k,y,v,h1,h2,h3⟩
    ·exact .inl h
    ·exact .inr ⟨k+1,y,v,by simpa using h1,h2,by omega⟩
  ·rcases Ju h with h|⟨k,y,v,h1,h2,h3⟩
   ·exact .inl h
   ·exact .inr ⟨k+1,y,v,by simpa using h1,h2,by omega⟩
theorem RK:∀{r:List Item} {id:Nat} {g:Nat→Option Block} {k:Nat} {x:Item} {v:Aa} {B:Block},r[k]?=some x→x.e=some (v,some B)→EJ r id g (id+k)=some B
 |[],_,_,_,_,_,_,h,_=>by simp at h
 |y::r,id,g,0,x,v,B,h,hx=>by
  simp only [List.getElem?_cons_zero,oI]at h
  subst h
  simp [EJ,hx]
 |y::r,id,g,k+1,x,v,B,h,hx=>by
  have ih:=RK (id:=id+1) (g:=g) (by simpa using h) hx
  rw [show id+1+k=id+(k+1)from by omega]at ih
  simp only [EJ]
  split
  ·rw [if_neg (by omega)];exact ih
  ·exact ih
theorem N9:∀{r:List Item} {id:Nat} {g:Nat→Option Block} {b:Nat},(∀k x v B,r[k]?=some x→x.e=some (v,some B)→b≠id+k)→EJ r id g b=g b:=fun {r id g b} h=>by
 induction r generalizing id with
 |nil=>rfl
 |cons x r ih=>
  have ih:=ih (id:=id+1) fun k y v B d j=>by
   have:=h (k+1) y v B (by simpa using d) j
   omega
  simp only [EJ]
  split
  ·rename_i v B c
   rw [if_neg (by simpa using h 0 x v B rfl c)]
   exact ih
  ·exact ih
section
variable {Γ:An} {call:C3} {all:List Step}
theorem GU (s:Step) (r:List Step) (id:Nat) (f:Fr) (hs:List Ak):LU Γ call all (s::r) id f hs=
  bif Ms Γ s f hs then AB (IM Γ call s id f) fun x=>T7 all r x fun c=>LU Γ call all r (id+1) c (bif BY s.op then f.h::hs else ML id (LL f.h c.h id) hs)else none:=rfl
theorem YJ {id:Nat} {B:Option Block}:∀{hs:List Ak} {n:Nat} {c:Ak},hs[n]?=some c→(ML id B hs)[n]?=some (GG c id B):=by
 cases B with
 |none=>intro hs n c h;exact h
 |some B=>
  intro hs
  induction hs with
  |nil=>intro n c h;simp at h
  |cons x r ih=>
   intro n c h
   have e:ML id (some B) (x::r)=GG x id (some B)::ML id (some B) r:=rfl
   rw [e]
   cases n with
   |zero=>simp only [List.getElem?_cons_zero,oI]at h⊢;rw [h]
   |succ n=>rw [List.getElem?_cons_succ]at h⊢;exact ih h
theorem Iv {s:Step} {id:Nat} {f:Fr} (d:BY s.op=false) {x:Co} (h:IM Γ call s id f=some x):∃u,HX Γ f.tm f.h id s=some u∧x=.go ⟨Ea f.tm s.dst u.1,GG f.h id u.2,f.df⟩:=by
 unfold IM at h
 rw [d]at h
 obtain ⟨u,c,h⟩:=Ac h
 simp only [oI]at h
 exact ⟨u,c,h.symm⟩
theorem JH {s:Step} {id:Nat} {f:Fr} (c:BY s.op=false) {u:Aa×Option Block} (h:HX Γ f.tm f.h id s=some u):IM Γ call s id f=some (.go ⟨Ea f.tm s.dst u.1,GG f.h id u.2,f.df⟩):=by
 unfold IM
 rw [c,h]
 rfl
theorem Pm {s:Step} {id:Nat} {f:Fr} (c:BY s.op=true):IM Γ call s id f=IN Γ call s f:=by
 unfold IM
 rw [c]
 rfl
theorem Aae {s:Step} {f c:Fr} (h:IN Γ call s f=some (.go c)):∃v,c.tm=Ea f.tm s.dst v:=by
 unfold IN at h
 obtain ⟨b,hb,h⟩:=Ac h
 cases b with
 |false=>
  simp only [cond_false,Zg,oI,Co.go.injEq]at h
  exact ⟨_,by subst h;rfl⟩
 |true=>
  simp only [cond_true]at h
  unfold XC at h
  split at h
  ·obtain ⟨v,_,h⟩:=Ac h
   simp only [Zg,oI,Co.go.injEq]at h
   exact ⟨_,by subst h;rfl⟩
  ·obtain ⟨v,_,h⟩:=Ac h
   simp only [Zg,oI,Co.go.injEq]at h
   exact ⟨_,by subst h;rfl⟩
  ·obtain ⟨v,_,h⟩:=Ac h
   simp only [Lb,oI,Co.go.injEq]at h
   exact ⟨_,by subst h;rfl⟩
  ·obtain ⟨r,_,h⟩:=Ac h
   obtain ⟨o,_,h⟩:=Nj h
   cases o with
   |val v h'=>
    simp only [Ae5,Lb,Co.go.injEq]at h
    exact ⟨_,by subst h;rfl⟩
   |panic v h'=>simp only [Ae5,reduceCtorEq]at h
   |defer g args=>
    simp only [Ae5,Co.go.injEq]at h
    exact ⟨_,by subst h;rfl⟩
theorem Aad {s:Step} {id:Nat} {f c:Fr} (h:IM Γ call s id f=some (.go c)):∃v,c.tm=Ea f.tm s.dst v:=by
 cases hm:BY s.op with
 |true=>rw [Pm hm]at h;exact Aae h
 |false=>
  obtain ⟨u,_,h⟩:=Iv hm h
  simp only [Co.go.injEq]at h
  exact ⟨_,by subst h;rfl⟩
theorem VS {tm c:Tr Aa} {h:Ak} {id:Nat} {s:Step} (k:∀t∈s.names,tm.get t=c.get t):HX Γ tm h id s=HX Γ c h id s:=by
 have u:Dn tm s.guard=Dn c s.guard:=by
  unfold Dn
  cases hg:s.guard with
  |none=>rfl
  |some g=>
   dsimp only
   rw [k g.1 (by simp [Step.names,hg])]
 have d:DR tm c s.op.Cg:=F9 fun t j=>k t (by
  unfold Step.names
  split
  ·exact List.mem_cons_of_mem _ j
  ·exact j)
 unfold HX
 rw [u]
 congr 1
 funext w
 cases w with
 |false=>rfl
 |true=>
  simp only [cond_true]
  unfold VT
  cases ho:s.op with
  |p o=>rw [ho]at d;simp only;rw [Tj d]
  |r o=>rw [ho]at d;simp only;rw [FJ d]
  |a o=>rw [ho]at d;simp only;rw [Vm d]
  |m o=>rfl
end
end Go.AM
end
section
namespace Go.AM
theorem Aa.Ac2 {x y:Aa} (h:x.eqs y=true):x=y:=by
 unfold Aa.eqs at h
 split at h
 ·rw [Aa.Dk h]
 ·rw [Aa.Dk h]
 ·exact Aa.Dw h
section
variable {Γ:An} {call:C3} {all:List Step} {W:Nat→Nat→Bool}
theorem Mf {Γ:An} {tm:Tr Aa} {o:Ow} {v:Aa}:∀{k n:Nat} {hs:List Ak} {h:Ak},Wt Γ tm o v k hs=true→n<k→hs[n]?=some h→Dz Γ tm h o=some v
 |0,_,_,_,_,hn,_=>by omega
 |k+1,n,[],h,ha,hn,hh=>by simp at hh
 |k+1,n,g::hs,h,ha,hn,hh=>by
  have ha:(AaU v (Dz Γ tm g o)&&Wt Γ tm o v k hs)=true:=ha
  rw [aT]at ha
  cases n with
  |zero=>
   simp only [List.getElem?_cons_zero,oI]at hh
   subst hh
   have c:=ha.1
   unfold AaU at c
   split at c
   ·rename_i u d
    rw [d,Aa.Ac2 c]
   ·cases c
  |succ n=>exact Mf (k:=k) (n:=n) ha.2 (Nat.lt_of_succ_lt_succ hn) (by simpa using hh)
theorem Qs {Γ:An} {s:Step} {f:Fr} {hs:List Ak} {o:Ow} (u:s.op=.r o) (h:Ms Γ s f hs=true) (j:Dn f.tm s.guard=some true) {v:Aa} (hv:Dz Γ f.tm f.h o=some v) {n:Nat} {d:Ak} (c:n<s.back) (g:hs[n]?=some d):Dz Γ f.tm d o=some v:=by
 unfold Ms at h
 cases hb:s.back with
 |zero=>omega
 |succ m=>
  rw [u,hb]at h
  simp only at h
  unfold Xj at h
  rw [j]at h
  simp only [hv]at h
  exact Mf (k:=m+1) h (by rw [hb]at c;exact c) g
def Adb (μ:Ap) (h:Ak) (f:Fr) (hs:List Ak) (pre:List Item) (back:Nat):Prop:=
 (∀b B,μ b≠none→f.h.get b=some B→h.get b=some B)∨
 ∃n c,hs[n]?=some c∧(∀b B,μ b≠none→c.get b=some B→h.get b=some B)∧n+muts (pre.map Item.pair)<back
theorem I3:∀{l:List Item} {id:Nat} {f:Fr},(∀y∈l,y.e=none)→ZC Γ call l id f
 |[],_,_,_=>trivial
 |z::_,_,_,h=>⟨fun _ e=>(by rw [h z (by simp)]at e;cases e),.inr fun w c=>h w (by simp [c])⟩
theorem early {μ:Ap} {tm:Tr Aa} {h:Ak} {res:Co} {y:Item} {post:List Item} (hy:y.e=none) (D:BY y.s.op=false)
  (H:∀o,y.s.op=.r o→∀J:Ak,(∀b B,μ b≠none→J.get b=some B→h.get b=some B)→∀v,Dz Γ tm J o=some v→Dz Γ tm h o=some v):
  ∀(pre:List Item) {id:Nat} {f:Fr} {hs:List Ak},okD W ((pre++y::post).map Item.pair)=true→Clo W (pre++y::post)→(∀x∈pre++y::post,x.e≠none→BY x.s.op=false)→
   (∀x∈pre,x.e=none→W x.i y.i=false)→LU Γ call all ((pre++y::post).map (·.s)) id f hs=some res→ZC Γ call (pre++y::post) id f→
   (∀t∈y.s.names,tm.get t=GP (pre++y::post) f.tm.get t)→Adb μ h f hs pre y.s.back→
   (∀(k:Nat) (x:Item) (v:Aa) (B:Block),pre[k]?=some x→x.e=some (v,some B)→h.get (id+k)=some B)→(∀(k:Nat) (x:Item),pre[k]?=some x→x.e=none→μ (id+k)=none)→
   ∃u,HX Γ tm h (id+pre.length) y.s=some u∧ZC Γ call (pre++{y with e:=some u}::post) id f
 |[],id,f,hs,hok,hclo,hflo,_,hd,hfut,ht,hsee,_,_=>by
  have X:=Fy (x:=y.pair) (r:=post.map Item.pair) hok
  simp only [List.nil_append,List.map_cons,GU]at hd
  obtain ⟨af,hd⟩:=Ao hd
  obtain ⟨x,hx,hd⟩:=Ac hd
  obtain ⟨u,j,rfl⟩:=Iv D hx
  have Q:∀t∈y.s.names,tm.get t=f.tm.get t:=fun t N=>by
   rw [ht t N]
   simp only [List.nil_append,GP,hy]
   refine DO fun z C an aa=>?_
   have U:=(X.apart z.pair (List.mem_map_of_mem C)).writes t aa N
   have R:=hclo.1 hy z C an
   simp only [Item.pair]at U
   rw [U]at R
   cases R
  refine ⟨u,?_,?_⟩
  ·rw [VS Q]at*
   simp only [lN,Nat.add_zero]
   cases hop:y.s.op with
   |m o=>rw [hop]at D;cases D
   |p o=>
    have:HX Γ f.tm h id y.s=HX Γ f.tm f.h id y.s:=by unfold HX VT;rw [hop]
    rw [this];exact j
   |a o=>
    have:HX Γ f.tm h id y.s=HX Γ f.tm f.h id y.s:=by unfold HX VT;rw [hop]
    rw [this];exact j
   |r o=>
    have aA:=j
    unfold HX at j⊢
    obtain ⟨b,hb,j⟩:=Ac j
    rw [hb]
    show (bif b then VT Γ f.tm h id y.s.op else some (Jc,none))=some u
    cases b with
    |false=>exact j
    |true=>
     simp only [cond_true]at j⊢
     rw [hop]at j⊢
     simp only [VT]at j⊢
     obtain ⟨v,hv,j⟩:=Ac j
     simp only [oI]at j
     subst j
     have ac:DR tm f.tm o.Cg:=F9 fun t N=>Q t (by
      unfold Step.names
      rw [hop]
      split
      ·exact List.mem_cons_of_mem _ N
      ·exact N)
     have ah:Dz Γ f.tm h o=some v:=by
      rw [←FJ ac]
      rcases hsee with A|⟨n,J,hh,hs2,hlt⟩
      ·exact H o hop f.h A v (by rw [FJ ac];exact hv)
      ·refine H o hop J hs2 v ?_
       rw [FJ ac]
       exact Qs hop af hb hv (n:=n) (by omega) hh
     rw [ah]
     rfl
  ·refine ⟨fun u' e=>?_,hfut.2⟩
   simp only [oI]at e
   subst e
   exact j
 |x::pre,id,f,hs,hok,hclo,hflo,hW,hd,hfut,ht,hsee,hE,hN=>by
  have X:=Fy (x:=x.pair) (r:=(pre++y::post).map Item.pair) hok
  have ai:y.pair∈(pre++y::post).map Item.pair:=List.mem_map_of_mem (by simp)
  have hA:=X.apart y.pair ai
  have ab:(pre++y::post).map Item.pair=pre.map Item.pair++y.pair::post.map Item.pair:=by simp
  simp only [List.cons_append,List.map_cons,GU]at hd
  obtain ⟨af,hd⟩:=Ao hd
  obtain ⟨r,P,hd⟩:=Ac hd
  have ag:x.e=none→BY x.s.op=true→muts (pre.map Item.pair)<y.s.back:=fun d c=>by
   have hb:=X.back c
   rw [ab]at hb
   have:=J5 hb D (hW x (by simp) d)
   simp only [Item.pair]at this⊢
   omega
  have M:x.e≠none→BY x.s.op=false:=fun d=>hflo x (by simp) d
  cases r with
  |panic v f1=>
   exfalso
   have c:BY x.s.op=true:=by
    cases hb:BY x.s.op with
    |true=>rfl
    |false=>
     obtain ⟨u,_,e⟩:=Iv hb P
     cases e
   have d:x.e=none:=by
    cases hb:x.e with
    |none=>rfl
    |some u=>rw [M (by rw [hb];simp)]at c;cases c
   simp only [T7]at hd
   obtain ⟨ap,_⟩:=Ao hd
   have ak:Ln ((pre.map Item.pair++y.pair::post.map Item.pair).map (·.2)) 0=true:=by
    rw [←ab]
    rw [List.map_map]
    exact ap
   have U:=Ij ak D
   have R:=ag d c
   simp only [Item.pair]at U R
   omega
  |go f'=>
   simp only [T7]at hd
   obtain ⟨v,hv⟩:=Aad P
   have ad:ZC Γ call (pre++y::post) (id+1) f':=by
    rcases hfut.2 with ⟨g,hg,hf⟩|hf
    ·rw [P]at hg
     simp only [oI,Co.go.injEq]at hg
     subst hg
     exact hf
    ·exact I3 hf
   have aq:∀t∈y.s.names,tm.get t=GP (pre++y::post) f'.tm.get t:=fun t N=>by
    rw [ht t N]
    simp only [List.cons_append,GP]
    cases d:x.e with
    |none=>
     simp only
     refine E3 ?_
     rw [hv,DZ]
     rw [if_neg]
     intro hd
     have U:=hA.reads t hd N
     have R:=hW x (by simp) d
     simp only [Item.pair]at U
     rw [U]at R
     cases R
    |some u=>
     simp only
     have c:=M (by rw [d];simp)
     have O:=hfut.1 u d
     rw [JH c O]at P
     simp only [oI,Co.go.injEq]at P
     subst P
     by_cases hd:x.s.dst=some t
     ·rw [if_pos hd,DO,DZ,if_pos hd]
      intro z C _ aa
      exact (X.apart z.pair (List.mem_map_of_mem C)).dst t hd aa
     ·rw [if_neg hd]
      exact E3 (by rw [DZ,if_neg hd])
   have ae:Adb μ h f' (bif BY x.s.op then f.h::hs else ML id (LL f.h f'.h id) hs) pre y.s.back:=by
    cases c:BY x.s.op with
    |true=>
     have d:x.e=none:=by
      cases hb:x.e with
      |none=>rfl
      |some u=>rw [M (by rw [hb];simp)]at c;cases c
     rcases hsee with A|⟨n,J,hh,hs2,hlt⟩
     ·exact .inr ⟨0,f.h,rfl,A,by have:=ag d c;omega⟩
     ·refine .inr ⟨n+1,J,by simpa using hh,hs2,?_⟩
      have:muts ((x::pre).map Item.pair)=muts (pre.map Item.pair)+1:=by
       simp only [muts,List.map_cons,List.countP_cons]
       simp only [Item.pair,c,if_true]
      omega
    |false=>
     simp only [cond_false]
     obtain ⟨u,j,e⟩:=Iv c P
     simp only [Co.go.injEq]at e
     have Z:∀g:Ak,(∀b B,μ b≠none→g.get b=some B→h.get b=some B)→∀b B,μ b≠none→(GG g id u.2).get b=some B→h.get b=some B:=fun g A b B hb hB=>by
      simp only [ED]at hB
      split at hB
      ·rename_i B' eB
       split at hB
       ·rename_i eb
        simp only [oI]at hB
        subst hB
        cases d:x.e with
        |none=>
         have:=hN 0 x rfl d
         rw [Nat.add_zero]at this
         rw [eb]at hb
         exact absurd this hb
        |some u'=>
         have O:=hfut.1 u' d
         rw [j]at O
         simp only [oI]at O
         subst O
         have:=hE 0 x u.1 B' rfl (by rw [d,←eB])
         rw [eb];simpa using this
       ·exact A b B hb hB
      ·exact A b B hb hB
     have az:muts ((x::pre).map Item.pair)=muts (pre.map Item.pair):=by
      simp only [muts,List.map_cons,List.countP_cons]
      simp only [Item.pair,c]
      simp
     rcases hsee with A|⟨n,J,hh,hs2,hlt⟩
     ·left
      rw [e]
      exact Z f.h A
     ·have al:(GG f.h id u.2).get id=match u.2 with|some B=>some B|none=>f.h.get id:=by rw [ED];cases u.2<;>simp
      cases hg:f.h.get id with
      |some B0=>
       have D:LL f.h f'.h id=none:=by unfold LL;rw [hg]
       rw [D]
       exact .inr ⟨n,J,hh,hs2,by omega⟩
      |none=>
       have D:LL f.h f'.h id=u.2:=by
        unfold LL;rw [hg,e];show (GG f.h id u.2).get id=u.2
        rw [al,hg];cases u.2<;>rfl
       rw [D]
       exact .inr ⟨n,_,YJ hh,Z J hs2,by omega⟩
   obtain ⟨u,j,hF⟩:=early hy D H pre X.rest hclo.2 (fun z C=>hflo z (by simp only [List.cons_append,List.mem_cons];exact .inr C)) (fun z C=>hW z (by simp [C])) hd ad aq ae
    (fun k z v B C d=>by have:=hE (k+1) z v B (by simpa using C) d;rw [show id+(k+1)=id+1+k from by omega]at this;exact this)
    (fun k z C d=>by have:=hN (k+1) z (by simpa using C) d;rw [show id+(k+1)=id+1+k from by omega]at this;exact this)
   refine ⟨u,?_,hfut.1,.inl ⟨f',P,hF⟩⟩
   rw [lC,show id+(pre.length+1)=id+1+pre.length from by omega]
   exact j
end
end Go.AM
end
section
namespace Go.AM
section
variable {ρ:Env} {μ μ' μ0:Ap} {h h' h0 h1:Ak} {w w' w0:World}
theorem Av.sub (H:AH ρ μ h w) (g:h'.next=h.next) (d:h'.fx=h.fx) (hs:∀b B,h'.get b=some B→h.get b=some B):Av ρ μ h w μ h' w:=
 ⟨μ.le_refl,H.drop _ g d hs,Nat.le_refl _,fun r _ j=>⟨rfl,fun ⟨c,B,δ,hc,hm⟩=>j ⟨c,B,δ,hs c B hc,hm⟩⟩,rfl,rfl,Nat.le_of_eq g.symm,fun _ _=>rfl,fun _ _ h=>.inl h,d⟩
theorem Av.under (H:AH ρ μ h w) (hn:h0.next=h.next) (hs:∀b B,h0.get b=some B→h.get b=some B) (g:Av ρ μ h0 w μ' h1 w') (aj:h'.next=h1.next) (Q:h'.fx=h1.fx) (X:h0.fx=h.fx)
  (N:∀b B,h'.get b=some B→h1.get b=some B∨(h.get b=some B∧h0.get b=none)):Av ρ μ h w μ' h' w':=by
 have un:∀{b B r δ},h.get b=some B→h0.get b=none→μ b=some (r,δ)→¬AP μ h0 r:=fun {b B r δ} hb h0b d ⟨c,C,M,hc,hmc⟩=>by
  have:=H.inj _ _ _ _ _ _ _ (hs c C hc) hb hmc d
  subst this
  rw [h0b]at hc
  cases hc
 have old:∀{b B},h.get b=some B→h0.get b=none→∃r δ,μ b=some (r,δ)∧μ' b=some (r,δ)∧w'.heap[r]?=w.heap[r]?∧¬AP μ' h1 r∧CM ρ μ B w.heap[r]? δ:=fun {b B} hb h0b=>by
  obtain ⟨r,δ,d,hB⟩:=H.blk b B hb
  obtain ⟨Z,k2⟩:=g.kept r (H.lt hb d) (un hb h0b d)
  exact ⟨r,δ,d,g.le.to _ _ d,Z,k2,hB⟩
 have J:∀r,r<w.heap.size→¬AP μ h r→w'.heap[r]?=w.heap[r]?∧¬AP μ' h' r:=fun r hr ho=>by
  have z:¬AP μ h0 r:=fun ⟨c,C,δ,hc,d⟩=>ho ⟨c,C,δ,hs c C hc,d⟩
  obtain ⟨Z,k2⟩:=g.kept r hr z
  refine ⟨Z,?_⟩
  rintro ⟨b,B,δ,hb,d⟩
  rcases N b B hb with h1b|⟨hb',h0b⟩
  ·exact k2 ⟨b,B,δ,h1b,d⟩
  ·obtain ⟨r',M,j,u,_⟩:=old hb' h0b
   rw [u]at d
   simp only [oI,Prod.mk.injEq]at d
   obtain ⟨rfl,_⟩:=d
   exact ho ⟨b,B,M,hb',j⟩
 have ac:∀k o,μ'.Bb k=some o→μ.Bb k=some o∨AP μ h k∨w.heap.size≤k:=fun k o y=>by
  rcases g.icy k o y with h1|⟨c,C,δ,hc,d⟩|h1
  ·exact .inl h1
  ·exact .inr (.inl ⟨c,C,δ,hs c C hc,d⟩)
  ·exact .inr (.inr h1)
 have O:ZD ρ μ' h' w':=by
  refine ⟨fun k o y=>?_,fun k o y=>?_,Q▸g.rel.AS.facts⟩
  ·obtain ⟨P,R⟩:=H.AS.AS k o y
   obtain ⟨q3,q4⟩:=J k (Array.getElem?_eq_some_iff.1 P).1 R
   exact ⟨q3.trans P,q4⟩
  ·obtain ⟨P,R⟩:=g.rel.AS.Bb k o y
   refine ⟨P,?_⟩
   rintro ⟨b,B,δ,hb,d⟩
   rcases N b B hb with h1b|⟨hb',h0b⟩
   ·exact R ⟨b,B,δ,h1b,d⟩
   ·obtain ⟨r',M,j,u,_⟩:=old hb' h0b
    rw [u]at d
    simp only [oI,Prod.mk.injEq]at d
    obtain ⟨rfl,_⟩:=d
    rcases g.icy _ o y with i1|i1|i1
    ·exact (H.AS.Bb _ o i1).2 ⟨b,B,M,hb',j⟩
    ·exact un hb' h0b j i1
    ·have:=H.lt hb' j;omega
 refine ⟨g.le,⟨fun b hb=>g.rel.fresh b (by omega),fun b B hb=>?_,fun b c B C r δ M hb hc D A=>?_,O⟩,g.size,J,g.os,g.output,by have:=g.next;omega,fun b hb=>g.old b (by omega),ac,by rw [Q,g.fx,X]⟩
 ·rcases N b B hb with h1b|⟨hb',h0b⟩
  ·exact g.rel.blk b B h1b
  ·obtain ⟨r,δ,_,x,y,_,hB⟩:=old hb' h0b
   exact ⟨r,δ,x,by rw [y];exact hB.mono g.le⟩
 ·rcases N b B hb with h1b|⟨hb',h0b⟩<;>rcases N c C hc with h1c|⟨hc',h0c⟩
  ·exact g.rel.inj _ _ _ _ _ _ _ h1b h1c D A
  ·obtain ⟨r',δ2,_,x,_,z,_⟩:=old hc' h0c
   rw [x]at A
   simp only [oI,Prod.mk.injEq]at A
   obtain ⟨rfl,_⟩:=A
   exact absurd ⟨b,B,δ,h1b,D⟩ z
  ·obtain ⟨r',δ2,_,x,_,z,_⟩:=old hb' h0b
   rw [x]at D
   simp only [oI,Prod.mk.injEq]at D
   obtain ⟨rfl,_⟩:=D
   exact absurd ⟨c,C,M,h1c,A⟩ z
  ·obtain ⟨r1,δ1,j,u,_⟩:=old hb' h0b
   obtain ⟨r2,δ2,ae,U,_⟩:=old hc' h0c
   rw [u]at D
   rw [U]at A
   simp only [oI,Prod.mk.injEq]at D A
   obtain ⟨rfl,rfl⟩:=D
   obtain ⟨rfl,rfl⟩:=A
   exact H.inj _ _ _ _ _ _ _ hb' hc' j ae
theorem Av.AmE (g:Av ρ μ0 h0 w0 μ h w) {id:Nat} (R:h0.next≤id) (A:μ id=none) (P:id<h.next) (B:Block) (o:Obj) (δ:Nat×Nat)
  (hB:∀μ':Ap,μ.le μ'→CM ρ μ' B (some o) δ):Av ρ μ0 h0 w0 (μ.put id (w.heap.size,δ)) (GG h id (some B)) (w.alloc o):=by
 have H:=g.rel
 have y:μ.le (μ.put id (w.heap.size,δ)):=Ap.Rq A
 have u:∀b d r j,(GG h id (some B)).get b=some d→μ.put id (w.heap.size,δ) b=some (r,j)→(b=id∧r=w.heap.size)∨(h.get b=some d∧μ b=some (r,j)∧r<w.heap.size):=fun b d r j hb c=>by
  rw [ED]at hb
  by_cases e:b=id
  ·subst e
   rw [Ap.BM]at c
   simp only [oI,Prod.mk.injEq]at c
   exact .inl ⟨rfl,c.1.symm⟩
  ·simp only [if_neg e]at hb
   rw [Ap.Cl _ _ e]at c
   exact .inr ⟨hb,c,H.lt hb c⟩
 have Q:(w.alloc o).heap.size=w.heap.size+1:=by show (w.heap.push o).size=_;simp
 refine ⟨Ap.le_trans g.le y,⟨fun b hb=>?_,fun b d hb=>?_,fun b Z U B2 r X δ2 h1 C D J=>?_,H.GB (fun r x z=>⟨World.DD _ _ x,?_⟩)⟩,by have:=g.size;omega,fun r x z=>?_,g.os,g.output,by rw [Fl];exact g.next,fun b hb=>?_,fun k o M=>g.icy k o M,g.fx⟩
 ·rw [Fl]at hb
  rw [Ap.Cl _ _ (by omega)]
  exact H.fresh b hb
 ·rw [ED]at hb
  by_cases e:b=id
  ·subst e
   simp only [if_true,oI]at hb
   subst hb
   exact ⟨_,_,Ap.BM _ _ _,by rw [World.heap_alloc_new];exact hB _ y⟩
  ·simp only [if_neg e]at hb
   obtain ⟨r,j,c,x⟩:=H.blk b d hb
   exact ⟨r,j,by rw [Ap.Cl _ _ e];exact c,by rw [World.DD _ _ (H.lt hb c)];exact x.mono y⟩
 ·rcases u _ _ _ _ h1 D with ⟨e1,e2⟩|⟨g1,n1,l1⟩<;>rcases u _ _ _ _ C J with ⟨e3,e4⟩|⟨g2,n2,l2⟩
  ·rw [e1,e3]
  ·omega
  ·omega
  ·exact H.inj _ _ _ _ _ _ _ g1 g2 n1 n2
 ·rintro ⟨b,d,j,hb,c⟩
  rcases u _ _ _ _ hb c with ⟨_,e⟩|⟨g1,n1,_⟩
  ·omega
  ·exact z ⟨b,d,j,g1,n1⟩
 ·obtain ⟨N,O⟩:=g.kept r x z
  have:=g.size
  refine ⟨by rw [World.DD _ _ (by omega)];exact N,?_⟩
  rintro ⟨b,d,j,hb,c⟩
  rcases u _ _ _ _ hb c with ⟨_,e⟩|⟨g1,n1,_⟩
  ·omega
  ·exact O ⟨b,d,j,g1,n1⟩
 ·rw [Ap.Cl _ _ (by omega)]
  exact g.old b hb
theorem Av.reserve (H:AH ρ μ h w) (n:Nat):Av ρ μ h w μ ⟨h.DT,h.next+n,h.fx⟩ w:=
 ⟨μ.le_refl,⟨fun b hb=>H.fresh b (by have:h.next+n≤b:=hb;omega),H.blk,H.inj,H.AS.of (fun _ _ c=>⟨rfl,c⟩) rfl rfl⟩,Nat.le_refl _,fun _ _ c=>⟨rfl,c⟩,rfl,rfl,Nat.le_add_right _ _,fun _ _=>rfl,fun _ _ h=>.inl h,rfl⟩
end
section
variable {P:Program} {Γ:An} {ρ:Env} {μ:Ap} {tm:Tr Aa} {a:Act} {w:World} {h:Ak} {pl:List C5} {nt:Nat} {ops:Array Oper} {call:C3}
theorem Zk (J:Γ.AG ρ) (z:Ba ρ μ tm a) (M:nt≤a.tmps.size) (H:AH ρ μ h w) {o:Oper} {s:Step} {i:Nat} (N:ops[i]?=some o) (hs:Om P pl nt ops o s) {id:Nat} {u:Aa×Option Block}
  (c:HX Γ tm h id s=some u) {K:Act→World→Prop} {Q:Exit→Act→World→Prop} (y:u.2=none→∀v,Ag ρ μ u.1 v→K (a.put s.dst v) w)
  (C:∀B,u.2=some B→∀A m v,(∀μ':Ap,μ.le μ'→CM ρ μ' B (some A) (0,m))→(∀μ':Ap,μ.le μ'→μ' id=some (w.heap.size,0,m)→Ag ρ μ' u.1 v)→K (a.put s.dst v) (w.alloc A)):wpOp P ops Q i K a w:=by
 refine K1 N ?_
 unfold HX at c
 obtain ⟨b,hb,c⟩:=Ac c
 rw [EZ z hs.guard (fun d b e=>Nat.lt_of_lt_of_le (hs.seen d b e) M) hb]
 rw [hs.dst]at y C
 cases b with
 |false=>
  simp only [cond_false,oI]at c
  subst c
  simp only [Bool.false_eq_true,if_false]
  exact y rfl _ Jb
 |true=>
  simp only [cond_true]at c
  simp only [if_true]
  have j:=hs.op
  unfold VT at c
  split at c
  ·rename_i q x
   rw [x]at j
   obtain ⟨v,hv,c⟩:=Ac c
   simp only [oI]at c
   subst c
   obtain ⟨D,g,k⟩:=MY (w:=w) J z j hv
   unfold Oper.wp
   rw [g]
   exact y rfl _ k
  ·rename_i q x
   rw [x]at j
   obtain ⟨v,hv,c⟩:=Ac c
   simp only [oI]at c
   subst c
   obtain ⟨D,g,k⟩:=MU J H z j hv
   unfold Oper.wp
   rw [g]
   exact y rfl _ k
  ·rename_i q x
   rw [x]at j
   obtain ⟨⟨B,v⟩,hv,c⟩:=Ac c
   simp only [oI]at c
   subst c
   obtain ⟨A,D,g,m,hB,k⟩:=P7 (w:=w) z j hv
   unfold Oper.wp
   rw [g]
   exact C B rfl A m D hB k
  ·cases c
theorem Ih {c:Array Bool} {j:Nat} (k:j∈Region.ready .any ops c):∀e∈Db ops j,c.getD e false=true:=fun e d=>by
 obtain ⟨_,o,y,g⟩:=mem_ready.1 k
 unfold Db at d
 rw [y]at d
 simp only [List.mem_map,List.mem_filter]at d
 obtain ⟨x,⟨u,hb⟩,rfl⟩:=d
 exact g x (Array.mem_toList_iff.1 u) hb
theorem MT {c:Array Bool} {j:Nat} {o:Oper} (d:ops[j]?=some o) (hl:c.getD j true=false) (h:∀e∈Db ops j,c.getD e false=true):j∈Region.ready .any ops c:=
 mem_ready.2 ⟨hl,o,d,fun e g hb=>h e.on (by
  unfold Db
  rw [d]
  simp only [List.mem_map,List.mem_filter]
  exact ⟨e,⟨Array.mem_toList_iff.2 g,hb⟩,rfl⟩)⟩
theorem JB {before:List Nat} (hv:Ja ops before=true) {c:Array Bool} (hc:∀j,c.getD j false=true→∀e∈Db ops j,c.getD e false=true):
  ∀(n j:Nat),j<n→j<ops.size→(∀e∈Db ops j,c.getD e false=true)→∀i,i<ops.size→waits before i j=true→c.getD i false=true
 |0,_,hj,_,_,_,_,_=>by omega
 |n+1,j,hj,hjs,hl,i,hi,hw=>by
  unfold Ja at hv
  have h1:=List.all_eq_true.1 hv j (List.mem_range.2 hjs)
  have o:=List.all_eq_true.1 h1 i (List.mem_range.2 hi)
  rw [hw]at o
  simp only [Bool.not_true,Bool.false_or,List.any_eq_true,aT,Bool.or_eq_true]at o
  obtain ⟨e,u,g,d⟩:=o
  have g:e<j:=AR.1 g
  have k:=hl e u
  rcases d with d|d
  ·rw [←Al.1 d];exact k
  ·exact JB hv hc n e (by omega) (by omega) (hc e k) i hi d
end
end Go.AM
end
section
namespace Go.AM
section
variable {P:Program} {Γ:An} {ρ:Env} {μ:Ap} {tm:Tr Aa} {a:Act} {w:World} {h:Ak} {pl:List C5} {nt:Nat} {ops:Array Oper} {call:C3} {all:List Step} {W:Nat→Nat→Bool} {before:List Nat}
 {res:Co} {μ0:Ap} {h0:Ak} {w0:World}
structure Hz (P:Program) (Γ:An) (ρ:Env) (call:C3) (pl:List C5) (nt:Nat) (ops:Array Oper) (W:Nat→Nat→Bool) (all:List Step) (res:Co) (μ0:Ap) (h0:Ak) (w0:World)
  (q:List Item) (id:Nat) (f:Fr) (hs:List Ak) (listed:Array Bool) (μ:Ap) (tm:Tr Aa) (h:Ak) (a:Act) (w:World):Prop where
 ok:okD W (q.map Item.pair)=true
 src:∀x∈q,∃o,ops[x.i]?=some o∧Om P pl nt ops o x.s
 sub:∀x∈q,x.s∈all
 clo:Clo W q
 flo:∀x∈q,x.e≠none→BY x.s.op=false
 run:LU Γ call all (q.map (·.s)) id f hs=some res
 fut:ZC Γ call q id f
 tmps:∀t,tm.get t=GP q f.tm.get t
 tr:Ba ρ μ tm a
 size:nt≤a.tmps.size
 mem:∀b,h.get b=EJ q id f.h.get b
 next:h.next=f.h.next
 FQ:Av ρ μ0 h0 w0 μ h w
 low:h0.next≤id
 high:id+q.length≤f.h.next
 free:∀k,k<q.length→f.h.get (id+k)=none
 unb:∀k x,q[k]?=some x→(∀v B,x.e≠some (v,some B))→μ (id+k)=none
 defs:CL ρ μ f.df a.defers
 lsize:listed.size=ops.size
 lst:∀i,i<ops.size→(listed.getD i true=false↔∃x∈q,x.i=i∧x.e=none)
 closed:∀j,listed.getD j false=true→∀e∈Db ops j,listed.getD e false=true
 lin:Zb ops (q.map (·.i))=true
 fx:h.fx=f.h.fx
theorem XL (h:Ak) (id:Nat) (b:Option Block):(GG h id b).fx=h.fx:=by cases b<;>rfl
theorem KQ {i:Nat} {r:List Nat} (h:Zb ops (i::r)=true):(∀e∈Db ops i,e<i∧e∉r)∧Zb ops r=true:=by
 simp only [Zb,aT,List.all_eq_true]at h
 refine ⟨fun e d=>?_,h.2⟩
 have c:=h.1 e d
 refine ⟨AR.1 c.1,fun g=>?_⟩
 have:r.any (Nat.beq e)=true:=any_beq.2 g
 rw [this]at c;simp at c
theorem Hz.skip {x:Item} {r:List Item} {id:Nat} {f:Fr} {hs:List Ak} {j:Array Bool} (D:Hz P Γ ρ call pl nt ops W all res μ0 h0 w0 (x::r) id f hs j μ tm h a w) {u:Aa×Option Block} (y:x.e=some u):
  ∃U M,Hz P Γ ρ call pl nt ops W all res μ0 h0 w0 r (id+1) U M j μ tm h a w:=by
 have N:=Fy (x:=x.pair) (r:=r.map Item.pair) D.ok
 have J:=D.flo x (by simp) (by rw [y];simp)
 have Q:=D.fut.1 u y
 have A:=JH (call:=call) J Q
 have c:=D.run
 simp only [List.map_cons,GU]at c
 obtain ⟨_,c⟩:=Ao c
 rw [A]at c
 have c:LU Γ call all (r.map (·.s)) (id+1) ⟨Ea f.tm x.s.dst u.1,GG f.h id u.2,f.df⟩ (bif BY x.s.op then f.h::hs else ML id (LL f.h (GG f.h id u.2) id) hs)=some res:=c
 rw [J]at c
 have o:∀b,b≠id→(GG f.h id u.2).get b=f.h.get b:=fun b hb=>by
  rw [ED]
  split
  ·rw [if_neg hb]
  ·rfl
 have H:=D.high
 simp only [lC]at H
 refine ⟨_,_,⟨N.rest,fun z d=>D.src z (by simp [d]),fun z d=>D.sub z (by simp [d]),D.clo.2,fun z d=>D.flo z (by simp [d]),c,?_,fun t=>?_,D.tr,D.size,fun b=>?_,?_,D.FQ,?_,?_,fun k X=>?_,fun k z d O=>?_,D.defs,D.lsize,fun i R=>?_,D.closed,(KQ D.lin).2,by rw [D.fx];exact (XL _ _ _).symm⟩⟩
 ·rcases D.fut.2 with ⟨g,hg,hf⟩|hf
  ·rw [A]at hg
   simp only [oI,Co.go.injEq]at hg
   subst hg
   exact hf
  ·exact I3 hf
 ·rw [D.tmps t]
  simp only [GP,y]
  by_cases hd:x.s.dst=some t
  ·rw [if_pos hd,DO,DZ,if_pos hd]
   intro z d _ C
   exact (N.apart z.pair (List.mem_map_of_mem d)).dst t hd C
  ·rw [if_neg hd]
   exact E3 (by rw [DZ,if_neg hd])
 ·rw [D.mem b]
  obtain ⟨v,B⟩:=u
  simp only [EJ,y]
  cases B with
  |none=>simp only;exact GQ rfl
  |some B=>
   simp only
   by_cases hb:b=id
   ·rw [if_pos hb,Jv (by omega),ED]
    simp [hb]
   ·rw [if_neg hb]
    exact GQ (o b hb).symm
 ·rw [D.next];exact (Fl _ _ _).symm
 ·have:=D.low;omega
 ·show id+1+r.length≤(GG f.h id u.2).next
  rw [Fl];omega
 ·show (GG f.h id u.2).get (id+1+k)=none
  rw [o _ (by omega)]
  have:=D.free (k+1) (by simp;omega)
  rw [show id+1+k=id+(k+1)from by omega];exact this
 ·have:=D.unb (k+1) z (by simpa using d) O
  rw [show id+1+k=id+(k+1)from by omega];exact this
 ·rw [D.lst i R]
  constructor
  ·rintro ⟨z,d,e1,e2⟩
   simp only [List.mem_cons]at d
   rcases d with rfl|d
   ·rw [y]at e2;cases e2
   ·exact ⟨z,d,e1,e2⟩
  ·rintro ⟨z,d,e1,e2⟩
   exact ⟨z,by simp [d],e1,e2⟩
theorem XP:∀{pre:List Item} {y:Item} {post:List Item},okD W ((pre++y::post).map Item.pair)=true→(∀x∈pre,Y6 W x.pair y.pair)∧∀z∈post,Y6 W y.pair z.pair
 |[],y,post,h=>⟨fun _ k=>(by cases k),fun z c=>(Fy (x:=y.pair) (r:=post.map Item.pair) h).apart z.pair (List.mem_map_of_mem c)⟩
 |x::pre,y,post,h=>by
  have d:=Fy (x:=x.pair) (r:=(pre++y::post).map Item.pair) h
  obtain ⟨g,j⟩:=XP (pre:=pre) d.rest
  refine ⟨fun z c=>?_,j⟩
  simp only [List.mem_cons]at c
  rcases c with rfl|c
  ·exact d.apart y.pair (List.mem_map_of_mem (by simp))
  ·exact g z c
theorem TH {g:Nat→Option Aa} {u:Aa×Option Block} {y:Item} {post:List Item} (c:y.e=none) {t:Nat}:∀{pre:List Item},(∀x∈pre,x.e≠none→x.s.dst=some t→y.s.dst≠some t)→
  GP (pre++{y with e:=some u}::post) g t=if y.s.dst=some t then some u.1 else GP (pre++y::post) g t
 |[],_=>by simp [GP,c]
 |x::pre,h=>by
  have ih:=TH (g:=g) (u:=u) (y:=y) (post:=post) c (t:=t) (pre:=pre) fun z d=>h z (by simp [d])
  simp only [List.cons_append,GP]
  cases hx:x.e with
  |none=>exact ih
  |some v=>
   simp only
   rw [ih]
   by_cases h1:x.s.dst=some t
   ·rw [if_pos h1,if_pos h1,if_neg (h x (by simp) (by rw [hx];simp) h1)]
   ·rw [if_neg h1,if_neg h1]
theorem NA {g:Nat→Option Block} {v:Aa} {oB:Option Block} {y:Item} {post:List Item} (c:y.e=none) {b:Nat}:∀{pre:List Item} {id:Nat},
  EJ (pre++{y with e:=some (v,oB)}::post) id g b=match oB with|some B=>if b=id+pre.length then some B else EJ (pre++y::post) id g b|none=>EJ (pre++y::post) id g b
 |[],id=>by cases oB<;>simp [EJ,c]
 |x::pre,id=>by
  have ih:=NA (g:=g) (v:=v) (oB:=oB) (y:=y) (post:=post) c (b:=b) (pre:=pre) (id:=id+1)
  simp only [List.cons_append,EJ,lC]
  rw [ih]
  cases oB with
  |none=>rfl
  |some B=>
   simp only
   rw [show id+1+pre.length=id+(pre.length+1)from by omega]
   by_cases hb:b=id+(pre.length+1)
   ·rw [if_pos hb,if_pos hb]
    split
    ·rw [if_neg (by omega)]
    ·rfl
   ·rw [if_neg hb,if_neg hb]
theorem Ym {y:Item} {post:List Item} {u:Aa×Option Block}:∀{pre:List Item},Clo W (pre++y::post)→(∀x∈pre,x.e=none→W x.i y.i=false)→Clo W (pre++{y with e:=some u}::post)
 |[],h,_=>⟨fun e=>(by cases e),h.2⟩
 |x::pre,h,hW=>by
  refine ⟨fun g z c d=>?_,Ym h.2 fun z c=>hW z (by simp [c])⟩
  have c:z∈pre++{y with e:=some u}::post:=c
  simp only [List.mem_append,List.mem_cons]at c
  rcases c with c|rfl|c
  ·exact h.1 g z (by simp [c]) d
  ·exact hW x (by simp) g
  ·exact h.1 g z (by simp [c]) d
theorem Hz.lt {q:List Item} {id:Nat} {f:Fr} {hs:List Ak} {c:Array Bool} (D:Hz P Γ ρ call pl nt ops W all res μ0 h0 w0 q id f hs c μ tm h a w) {x:Item} (g:x∈q):x.i<ops.size:=by
 obtain ⟨o,d,_⟩:=D.src x g
 exact (Array.getElem?_eq_some_iff.1 d).1
theorem Acl {c:Array Bool} {i:Nat} (h:c.getD i true=false):c.getD i false=false:=by
 rcases Nat.lt_or_ge i c.size with h'|h'
 ·simp [h']at h⊢;exact h
 ·simp [Array.getElem?_eq_none h']at h
theorem Hz.apart {q:List Item} {id:Nat} {f:Fr} {hs:List Ak} {c:Array Bool} (D:Hz P Γ ρ call pl nt ops (waits before) all res μ0 h0 w0 q id f hs c μ tm h a w) (hv:Ja ops before=true) {x:Item} (d:x∈q) (u:x.e=none)
  {j:Nat} (o:j<ops.size) (y:∀e∈Db ops j,c.getD e false=true):waits before x.i j=false:=by
 cases hw:waits before x.i j with
 |false=>rfl
 |true=>
  have k:=JB hv D.closed (j+1) j (by omega) o y x.i (D.lt d) hw
  have g:=Acl ((D.lst x.i (D.lt d)).2 ⟨x,d,rfl,u⟩)
  rw [k]at g
  cases g
theorem NW {c:Array Bool} (hc:∀j,c.getD j false=true→∀e∈Db ops j,c.getD e false=true) {i:Nat} (k:∀e∈Db ops i,c.getD e false=true):
  ∀j,(c.setIfInBounds i true).getD j false=true→∀e∈Db ops j,(c.setIfInBounds i true).getD e false=true:=fun j d e g=>by
 refine getD_set_true ?_
 by_cases hij:i=j
 ·exact k e (hij▸g)
 ·rw [getD_set_ne false hij]at d
  exact hc j d e g
theorem IW {c:Array Bool} {i:Nat} (h:i<c.size):(c.setIfInBounds i true).getD i true=true:=by
 simp [h]
theorem RC {y:Item} {pre post:List Item} {z:Item} (k:Nat):(pre++z::post)[k]?=if k=pre.length then some z else (pre++y::post)[k]?:=by
 by_cases hk:k=pre.length
 ·subst hk
  simp
 ·rw [if_neg hk]
  by_cases hlt:k<pre.length
  ·rw [List.getElem?_append_left hlt,List.getElem?_append_left hlt]
  ·rw [List.getElem?_append_right (by omega),List.getElem?_append_right (by omega)]
   have:k-pre.length=(k-pre.length-1)+1:=by omega
   rw [this,List.getElem?_cons_succ,List.getElem?_cons_succ]
theorem Hz.AeW {pre:List Item} {y:Item} {post:List Item} {id:Nat} {f:Fr} {hs:List Ak} {g:Array Bool} (D:Hz P Γ ρ call pl nt ops (waits before) all res μ0 h0 w0 (pre++y::post) id f hs g μ tm h a w)
  (hΓ:Γ.AG ρ) (hv:Ja ops before=true) (R:y.e=none) (hm:BY y.s.op=false) (hr:y.i∈Region.ready .any ops g) {K:Act→World→Prop} {Q:Exit→Act→World→Prop}
  (hK:∀u C am J a' w',Hz P Γ ρ call pl nt ops (waits before) all res μ0 h0 w0 (pre++{y with e:=some u}::post) id f hs (g.setIfInBounds y.i true) C am J a' w'→K a' w'):wpOp P ops Q y.i K a w:=by
 have N:y∈pre++y::post:=by simp
 obtain ⟨o,ho,O⟩:=D.src y N
 have ac:=D.lt N
 have ad:=Ih hr
 have hW:∀x∈pre++y::post,x.e=none→waits before x.i y.i=false:=fun x c M=>D.apart hv c M ac ad
 obtain ⟨ab,an⟩:=XP D.ok
 have av:(pre++y::post)[pre.length]?=some y:=by simp
 have U:μ (id+pre.length)=none:=D.unb _ _ av fun v B e=>by rw [R]at e;cases e
 have ai:=D.high
 simp only [lA,lC]at ai
 obtain ⟨u,hu,ag⟩:=early (Γ:=Γ) (call:=call) (all:=all) (W:=waits before) (μ:=μ) (tm:=tm) (h:=h) (res:=res) (y:=y) (post:=post) R hm
  (fun q hq d hh v z=>UX D.tr (by rw [←hq];exact O.op) hh z) pre D.ok D.clo D.flo (fun x c M=>hW x (by simp [c]) M) D.run D.fut (fun t _=>D.tmps t)
  (.inl fun b B hb hB=>by
   rw [D.mem b]
   rw [N9]
   ·exact hB
   ·intro k x v B' d c e
    have aw:=(List.getElem?_eq_some_iff.1 d).1
    have:=D.free k aw
    rw [←e,hB]at this
    cases this)
  (fun k x v B d c=>by
   rw [D.mem]
   exact RK (by rw [List.getElem?_append_left (List.getElem?_eq_some_iff.1 d).1];exact d) c)
  (fun k x d c=>D.unb k x (by rw [List.getElem?_append_left (List.getElem?_eq_some_iff.1 d).1];exact d) fun v B e=>by rw [c]at e;cases e)
 have fin:∀(C:Ap) (J:Ak) (w':World) (v:Value),μ.le C→Ag ρ C u.1 v→Av ρ μ0 h0 w0 C J w'→J.next=h.next→(∀b,J.get b=EJ (pre++{y with e:=some u}::post) id f.h.get b)→(∀b,b≠id+pre.length→C b=μ b)→(u.2=none→C=μ)→
   Hz P Γ ρ call pl nt ops (waits before) all res μ0 h0 w0 (pre++{y with e:=some u}::post) id f hs (g.setIfInBounds y.i true) C (Ea tm y.s.dst u.1) J (a.put y.s.dst v) w':=fun C J w' v H z hg X ae hμ al=>by
  have j:∀{x:Item},x∈pre++{y with e:=some u}::post→x∈pre++y::post∨x={y with e:=some u}:=fun {x} c=>by
   simp only [List.mem_append,List.mem_cons]at c⊢
   rcases c with c|rfl|c
   ·exact .inl (.inl c)
   ·exact .inr rfl
   ·exact .inl (.inr (.inr c))
  have aa:(pre++{y with e:=some u}::post).map Item.pair=(pre++y::post).map Item.pair:=by simp [Item.pair]
  have Z:(pre++{y with e:=some u}::post).map (·.s)=(pre++y::post).map (·.s):=by simp
  have ah:(pre++{y with e:=some u}::post).map (·.i)=(pre++y::post).map (·.i):=by simp
  refine ⟨by rw [aa];exact D.ok,fun x c=>?_,fun x c=>?_,Ym D.clo fun x c M=>hW x (by simp [c]) M,fun x c M=>?_,by rw [Z];exact D.run,ag,fun t=>?_,(D.tr.mono H).put (fun t e=>?_) z,by rw [Act.MH];exact D.size,ae,by rw [X];exact D.next,hg,D.low,?_,fun k d=>?_,fun k x d c=>?_,?_,by simp [D.lsize],fun i hi=>?_,NW D.closed ad,by rw [ah];exact D.lin,by rw [hg.fx,←D.FQ.fx];exact D.fx⟩
  ·rcases j c with c|rfl
   ·exact D.src x c
   ·exact D.src y N
  ·rcases j c with c|rfl
   ·exact D.sub x c
   ·exact D.sub y N
  ·rcases j c with c|rfl
   ·exact D.flo x c M
   ·exact hm
  ·rw [TH R,DZ,D.tmps t]
   intro x c _ hd
   exact (ab x c).dst t hd
  ·rw [O.dst]at e
   exact Nat.lt_of_lt_of_le (O.small t e) D.size
  ·have:=D.high
   simp only [lA,lC]at this⊢
   exact this
  ·refine D.free k ?_
   simp only [lA,lC]at d⊢
   exact d
  ·rw [RC (y:=y)]at d
   split at d
   ·rename_i e
    simp only [oI]at d
    subst d
    have aq:u.2=none:=by
     obtain ⟨v1,B1⟩:=u
     cases B1 with
     |none=>rfl
     |some B1=>exact absurd rfl (c v1 B1)
    rw [al aq,e]
    exact U
   ·rename_i e
    rw [hμ _ (by omega)]
    exact D.unb k x d c
  ·have:(a.put y.s.dst v).defers=a.defers:=by cases y.s.dst<;>rfl
   rw [this]
   exact D.defs.mono H
  ·by_cases e:y.i=i
   ·subst e
    rw [IW (by rw [D.lsize];exact ac)]
    constructor
    ·intro A;cases A
    ·rintro ⟨x,c,e1,A⟩
     exfalso
     simp only [List.mem_append,List.mem_cons]at c
     rcases c with c|rfl|c
     ·exact (ab x c).ne e1
     ·cases A
     ·exact (an x c).ne e1.symm
   ·rw [getD_set_ne true e,D.lst i hi]
    constructor
    ·rintro ⟨x,c,e1,A⟩
     simp only [List.mem_append,List.mem_cons]at c
     rcases c with c|rfl|c
     ·exact ⟨x,by simp [c],e1,A⟩
     ·exact absurd e1 e
     ·exact ⟨x,by simp [c],e1,A⟩
    ·rintro ⟨x,c,e1,A⟩
     rcases j c with c|rfl
     ·exact ⟨x,c,e1,A⟩
     ·cases A
 refine Zk hΓ D.tr D.size D.FQ.rel ho O hu (fun X v z=>?_) (fun B hB ob m v au z=>?_)
 ·refine hK u μ (Ea tm y.s.dst u.1) h _ _ (fin μ h w v μ.le_refl z D.FQ rfl (fun b=>?_) (fun _ _=>rfl) fun _=>rfl)
  obtain ⟨u1,u2⟩:=u
  simp only at X
  subst X
  rw [NA R,D.mem b]
 ·have ax:=D.low
  have hg:=D.FQ.AmE (id:=id+pre.length) (by omega) U (by rw [D.next];omega) B ob (0,m) au
  have H:μ.le (μ.put (id+pre.length) (w.heap.size,0,m)):=Ap.Rq U
  refine hK u _ _ _ _ _ (fin _ _ _ v H (z _ H (Ap.BM _ _ _)) hg (Fl _ _ _) (fun b=>?_) (fun b hb=>Ap.Cl _ _ hb) fun e=>by rw [hB]at e;cases e)
  obtain ⟨u1,u2⟩:=u
  simp only at hB
  subst hB
  rw [NA R,ED,D.mem b]
end
end Go.AM
end
section
namespace Go.AM
noncomputable def OT:List Item→Nat→Ak→Ak
 |[],_,h=>h
 |x::r,id,h=>match x.e with
  |some (_,some B)=>GG (OT r (id+1) h) id (some B)
  |_=>OT r (id+1) h
theorem Oi:∀{q:List Item} {id:Nat} {h:Ak} {b:Nat},(OT q id h).get b=EJ q id h.get b
 |[],_,_,_=>rfl
 |x::r,id,h,b=>by
  have ih:=Oi (q:=r) (id:=id+1) (h:=h) (b:=b)
  simp only [OT,EJ]
  cases hx:x.e with
  |none=>exact ih
  |some u=>
   obtain ⟨v,B⟩:=u
   cases B with
   |none=>exact ih
   |some B=>
    simp only
    rw [ED]
    simp only
    rw [ih]
theorem My:∀{q:List Item} {id:Nat} {h:Ak},(OT q id h).fx=h.fx
 |[],_,_=>rfl
 |x::r,id,h=>by
  simp only [OT]
  split
  ·rw [XL];exact My
  ·exact My
theorem IA:∀{q:List Item} {id:Nat} {h:Ak},(OT q id h).next=h.next
 |[],_,_=>rfl
 |x::r,id,h=>by
  simp only [OT]
  split
  ·rw [Fl];exact IA
  ·exact IA
theorem N5:∀{l:List Step} {tm:Tr Aa} {t:Nat},(forget l tm).get t=none∨((forget l tm).get t=tm.get t∧∀s∈l,s.dst≠some t)
 |[],tm,t=>.inr ⟨rfl,fun _ h=>(by cases h)⟩
 |s::r,tm,t=>by
  have j:forget (s::r) tm=forget r (match s.dst with|some d=>Tr.set tm d none|none=>tm):=rfl
  rw [j]
  rcases N5 (l:=r) (tm:=match s.dst with|some d=>Tr.set tm d none|none=>tm) (t:=t)with h|⟨h1,h2⟩
  ·exact .inl h
  ·cases hd:s.dst with
   |none=>
    rw [hd]at h1
    refine .inr ⟨h1,fun z c=>?_⟩
    simp only [List.mem_cons]at c
    rcases c with rfl|c
    ·rw [hd];simp
    ·exact h2 z c
   |some d=>
    rw [hd]at h1
    simp only [Tr.Bk]at h1
    by_cases e3:t=d
    ·rw [if_pos e3]at h1
     exact .inl h1
    ·rw [if_neg e3]at h1
     refine .inr ⟨h1,fun z c=>?_⟩
     simp only [List.mem_cons]at c
     rcases c with rfl|c
     ·rw [hd]
      intro g
      exact e3 (Option.some.inj g).symm
     ·exact h2 z c
section
variable {P:Program} {Γ:An} {ρ:Env} {μ:Ap} {tm:Tr Aa} {a:Act} {w:World} {h:Ak} {pl:List C5} {nt:Nat} {ops:Array Oper} {call:C3} {all:List Step} {W:Nat→Nat→Bool} {before:List Nat}
 {res:Co} {μ0:Ap} {h0:Ak} {w0:World}
theorem Hz.part {q:List Item} {id:Nat} {f:Fr} {hs:List Ak} {c:Array Bool} (D:Hz P Γ ρ call pl nt ops W all res μ0 h0 w0 q id f hs c μ tm h a w):∀b B,f.h.get b=some B→h.get b=some B:=fun b B hB=>by
 rw [D.mem b,N9]
 ·exact hB
 ·intro k x v g d j e
  have:=D.free k (List.getElem?_eq_some_iff.1 d).1
  rw [←e,hB]at this
  cases this
theorem T0 {x:Item} {r:List Item} {id:Nat} {f:Fr} {hs:List Ak} {c:Array Bool} (D:Hz P Γ ρ call pl nt ops W all res μ0 h0 w0 (x::r) id f hs c μ tm h a w) {v:Aa} {k:Ak} {d:Ap} {w':World} (hg:Av ρ μ f.h w d k w')
  (g:res=.panic v ⟨forget all f.tm,k,f.df⟩) {Q:Exit→Act→World→Prop} (L:D6 ρ nt μ0 h0 w0 Q (Gc res)) {u:Value} (hv:Ag ρ d v u):Q (.panic (Iz u)) a w':=by
 subst g
 refine L d a w' _ ⟨fun t=>?_,D.size,hg.rel,D.defs.mono hg.le⟩ ((D.FQ.trans (Av.sub D.FQ.rel D.next.symm D.fx.symm D.part)).trans hg) ⟨u,rfl,hv⟩
 show Ag ρ d (EF ((forget all f.tm).get t)) _
 rcases N5 (l:=all) (tm:=f.tm) (t:=t)with h1|⟨h1,h2⟩
 ·rw [h1];trivial
 ·rw [h1]
  have j:=(D.tr t).mono hg.le
  rw [D.tmps t,DO]at j
  ·exact j
  ·exact fun z o _=>h2 z.s (D.sub z o)
theorem Hz.change {x:Item} {r:List Item} {id:Nat} {f:Fr} {hs:List Ak} {X:Array Bool} (D:Hz P Γ ρ call pl nt ops (waits before) all res μ0 h0 w0 (x::r) id f hs X μ tm h a w)
  (hc:BH P ρ call) (hv:Ja ops before=true) (hx:x.e=none) (hm:BY x.s.op=true) (hr:x.i∈Region.ready .any ops X) {K:Act→World→Prop} {Q:Exit→Act→World→Prop} (L:D6 ρ nt μ0 h0 w0 Q (Gc res))
  (hK:∀f' M aH h' a' w',Hz P Γ ρ call pl nt ops (waits before) all res μ0 h0 w0 r (id+1) f' (f.h::hs) (X.setIfInBounds x.i true) M aH h' a' w'→K a' w'):wpOp P ops Q x.i K a w:=by
 have hO:=Fy (x:=x.pair) (r:=r.map Item.pair) D.ok
 obtain ⟨o,ho,R⟩:=D.src x (by simp)
 have aM:=D.lt (x:=x) (by simp)
 have aK:=Ih hr
 have y:=D.run
 simp only [List.map_cons,GU]at y
 obtain ⟨_,y⟩:=Ao y
 obtain ⟨xr,A,y⟩:=Ac y
 have aE:=A
 rw [Pm hm]at A
 rw [hm]at y
 have ae:∀t∈x.s.names,tm.get t=f.tm.get t:=fun t hn=>by
  rw [D.tmps t]
  simp only [GP,hx]
  refine DO fun z j aL am=>?_
  have N:=(hO.apart z.pair (List.mem_map_of_mem j)).writes t am hn
  have h2:=D.clo.1 hx z j aL
  simp only [Item.pair]at N
  rw [N]at h2
  cases h2
 have au:Dn tm x.s.guard=Dn f.tm x.s.guard:=by
  unfold Dn
  cases hg:x.s.guard with
  |none=>rfl
  |some g=>
   dsimp only
   rw [ae g.1 (by simp [Step.names,hg])]
 have Hf:AH ρ μ f.h w:=D.FQ.rel.drop _ D.next.symm D.fx.symm D.part
 have aF:=D.high
 simp only [lC]at aF
 have aC:∀(Z:Act) (u:Value),(Z.put x.s.dst u).defers=Z.defers:=fun Z u=>by cases x.s.dst<;>rfl
 have fin:∀(v:Aa) (u:Value) (M:Ap) (N:Ak) (w':World) (af:List (FuncId×List Aa)) (Z:Act),xr=.go ⟨Ea f.tm x.s.dst v,N,af⟩→Z.tmps=a.tmps→CL ρ M af Z.defers→Av ρ μ f.h w M N w'→Ag ρ M v u→K (Z.put x.s.dst u) w':=fun v u M N w' af Z O ha aJ g ac=>by
  subst O
  have y:LU Γ call all (r.map (·.s)) (id+1) ⟨Ea f.tm x.s.dst v,N,af⟩ (f.h::hs)=some res:=y
  have al:∀k z,r[k]?=some z→∀J B,z.e=some (J,some B)→h.get (id+1+k)=some B:=fun k z j J B he=>by
   rw [D.mem]
   have:=RK (r:=x::r) (id:=id) (g:=f.h.get) (k:=k+1) (by simpa using j) he
   rw [show id+1+k=id+(k+1)from by omega];exact this
  have ah:∀k,k<r.length→f.h.get (id+1+k)=none:=fun k hk=>by
   have:=D.free (k+1) (by simp;omega)
   rw [show id+1+k=id+(k+1)from by omega];exact this
  have an:∀k z,r[k]?=some z→(∀J B,z.e≠some (J,some B))→μ (id+1+k)=none:=fun k z j he=>by
   have:=D.unb (k+1) z (by simpa using j) he
   rw [show id+1+k=id+(k+1)from by omega];exact this
  have ap:Av ρ μ h w M (OT r (id+1) N) w':=by
   refine Av.under D.FQ.rel D.next.symm D.part g IA My D.fx.symm fun b B hb=>?_
   rw [Oi]at hb
   rcases Ju hb with hb|⟨k,z,J,j,he,rfl⟩
   ·exact .inl hb
   ·exact .inr ⟨al k z j J B he,ah k (List.getElem?_eq_some_iff.1 j).1⟩
  have aP:Ba ρ M tm Z:=fun t=>by rw [ha];exact (D.tr t).mono g.le
  refine hK _ M (Ea tm x.s.dst v) (OT r (id+1) N) _ _ ⟨hO.rest,fun z j=>D.src z (by simp [j]),fun z j=>D.sub z (by simp [j]),D.clo.2,fun z j=>D.flo z (by simp [j]),y,?_,fun t=>?_,aP.put (fun t e=>?_) ac,by rw [Act.MH,ha];exact D.size,fun b=>Oi,IA,D.FQ.trans ap,?_,?_,fun k hk=>?_,fun k z j he=>?_,by rw [aC];exact aJ,by simp [D.lsize],fun i hi=>?_,NW D.closed aK,(KQ D.lin).2,My⟩
  ·rcases D.fut.2 with ⟨g',hg',hf⟩|hf
   ·rw [aE]at hg'
    simp only [oI,Co.go.injEq]at hg'
    subst hg'
    exact hf
   ·exact I3 hf
  ·rw [DZ,D.tmps t]
   simp only [GP,hx]
   by_cases hd:x.s.dst=some t
   ·rw [if_pos hd,DO,DZ,if_pos hd]
    intro z j _ am
    exact (hO.apart z.pair (List.mem_map_of_mem j)).dst t hd am
   ·rw [if_neg hd]
    exact E3 (by rw [DZ,if_neg hd])
  ·rw [R.dst]at e
   rw [ha]
   exact Nat.lt_of_lt_of_le (R.small t e) D.size
  ·have:=D.low;omega
  ·show id+1+r.length≤N.next
   have:=g.next;omega
  ·show N.get (id+1+k)=none
   cases hb:N.get (id+1+k)with
   |none=>rfl
   |some B=>
    exfalso
    obtain ⟨s,δ,ay,_⟩:=g.rel.blk _ _ hb
    have az:=g.old (id+1+k) (by omega)
    have U:=ay
    rw [az]at U
    have j:r[k]?=some r[k]:=List.getElem?_eq_getElem hk
    have ao:¬∀J B,(r[k]).e≠some (J,some B):=fun ab=>by
     rw [an k _ j ab]at U
     cases U
    have ao:∃J B',(r[k]).e=some (J,some B'):=Classical.byContradiction fun ab=>ao fun J B' e=>ab ⟨J,B',e⟩
    obtain ⟨J,B',he⟩:=ao
    have hh:=al k _ j J B' he
    have ab:¬AP μ f.h s:=fun ⟨c,C,δ',hc',hmc⟩=>by
     have:=D.FQ.rel.inj _ _ _ _ _ _ _ (D.part c C hc') hh hmc U
     subst this
     rw [ah k hk]at hc'
     cases hc'
    exact (g.kept s (D.FQ.rel.lt hh U) ab).2 ⟨_,B,δ,hb,ay⟩
  ·rw [g.old _ (by have:=(List.getElem?_eq_some_iff.1 j).1;omega)]
   exact an k z j he
  ·by_cases e:x.i=i
   ·subst e
    rw [IW (by rw [D.lsize];exact aM)]
    constructor
    ·intro e2;cases e2
    ·rintro ⟨z,j,H,_⟩
     exact absurd H.symm (hO.apart z.pair (List.mem_map_of_mem j)).ne
   ·rw [getD_set_ne true e,D.lst i hi]
    constructor
    ·rintro ⟨z,j,H,e2⟩
     simp only [List.mem_cons]at j
     rcases j with rfl|j
     ·exact absurd H e
     ·exact ⟨z,j,H,e2⟩
    ·rintro ⟨z,j,H,e2⟩
     exact ⟨z,by simp [j],H,e2⟩
 refine K1 ho ?_
 unfold IN at A
 obtain ⟨b,hb,A⟩:=Ac A
 rw [←au]at hb
 rw [EZ D.tr R.guard (fun d b e=>Nat.lt_of_lt_of_le (R.seen d b e) D.size) hb]
 cases b with
 |false=>
  simp only [cond_false,oI]at A
  simp only [Bool.false_eq_true,if_false]
  rw [←R.dst]
  exact fin Jc undef μ f.h w f.df a A.symm rfl D.defs (Av.refl Hf) Jb
 |true=>
  simp only [cond_true]at A
  simp only [if_true]
  have ax:=R.op
  unfold XC at A
  split at A
  ·rename_i q H;rw [H]at hm;cases hm
  ·rename_i q H;rw [H]at hm;cases hm
  ·rename_i q H;rw [H]at hm;cases hm
  ·rename_i q H
   rw [H]at ax
   obtain ⟨aR,ag,A⟩:=Ac A
   obtain ⟨out,aD,O⟩:=Nj A
   have aO:DR tm f.tm q.Cg:=F9 fun t hn=>ae t (by
    unfold Step.names
    rw [H]
    split
    ·exact List.mem_cons_of_mem _ hn
    ·exact hn)
   rw [←QY aO]at ag
   refine Tv hc Hf (LG Hf D.tr ax ag) aD ?_
   rw [←R.dst]
   cases out with
   |val v h'=>exact fun M u w' hg ac=>fin v u M h' w' f.df a O rfl (D.defs.mono hg.le) hg ac
   |panic v h'=>
    intro M u w' hg ac
    have O:xr=.panic v ⟨f.tm,h',f.df⟩:=O
    subst O
    simp only [T7]at y
    obtain ⟨_,y⟩:=Ao y
    simp only [oI]at y
    exact T0 D hg y.symm L ac
   |defer g args=>
    intro d hd
    exact fin .any undef μ f.h w ((g,args)::f.df) {a with defers:=d::a.defers} O rfl ⟨d,a.defers,rfl,hd,D.defs⟩ (Av.refl Hf) trivial
def left (q:List Item):Nat:=q.countP fun x=>x.e.isNone
theorem Zr (hΓ:Γ.AG ρ) (hc:BH P ρ call) (hv:Ja ops before=true) {Q:Exit→Act→World→Prop} (L:D6 ρ nt μ0 h0 w0 Q (Gc res)):
  ∀(n:Nat) (q:List Item) {id:Nat} {f:Fr} {hs:List Ak} {c:Array Bool} {μ:Ap} {tm:Tr Aa} {h:Ak} {a:Act} {w:World},left q=n→
   Hz P Γ ρ call pl nt ops (waits before) all res μ0 h0 w0 q id f hs c μ tm h a w→wpAny P .any ops Q n c a w:=by
 intro n
 induction n with
 |zero=>
  intro q
  induction q with
  |nil=>
   intro id f hs c μ tm h a w _ D
   have C:some (Co.go f)=some res:=D.run
   simp only [oI]at C
   refine ⟨?_,?_⟩
   ·apply List.eq_nil_iff_forall_not_mem.2
    intro j A
    obtain ⟨M,o,U,_⟩:=mem_ready.1 A
    obtain ⟨x,d,_⟩:=(D.lst j (Array.getElem?_eq_some_iff.1 U).1).1 M
    cases d
   ·have hg:=D.FQ.trans (Av.sub D.FQ.rel D.next.symm D.fx.symm D.part)
    rw [←C]at L
    refine L μ a w .normal ⟨fun t=>?_,D.size,hg.rel,D.defs⟩ hg rfl
    have:=D.tr t
    rw [D.tmps t]at this
    exact this
  |cons x r ih=>
   intro id f hs c μ tm h a w hl D
   cases d:x.e with
   |none=>simp [left,d]at hl
   |some u=>
    obtain ⟨f',_,g⟩:=D.skip d
    exact ih (by simpa [left,d]using hl) g
 |succ n ihn=>
  intro q
  induction q with
  |nil=>intro id f hs c μ tm h a w hl _;simp [left]at hl
  |cons x r ih=>
   intro id f hs c μ tm h a w hl D
   cases d:x.e with
   |some u=>
    obtain ⟨f',_,g⟩:=D.skip d
    exact ih (by simpa [left,d]using hl) g
   |none=>
    have ad:=D.lt (x:=x) (by simp)
    obtain ⟨o,U,_⟩:=D.src x (by simp)
    have Z:=KQ (i:=x.i) (r:=r.map (·.i)) D.lin
    have O:x.i∈Region.ready .any ops c:=by
     refine MT U ((D.lst x.i ad).2 ⟨x,by simp,rfl,d⟩) fun e he=>?_
     obtain ⟨M,J⟩:=Z.1 e he
     cases hle:c.getD e true with
     |false=>
      exfalso
      obtain ⟨z,N,e1,_⟩:=(D.lst e (by omega)).1 hle
      simp only [List.mem_cons]at N
      rcases N with rfl|N
      ·omega
      ·exact J (e1▸List.mem_map_of_mem N)
     |true=>
      have:e<c.size:=by rw [D.lsize];omega
      simp [this]at hle⊢
      exact hle
    refine ⟨fun X=>?_,fun j A=>?_⟩
    ·rw [X]at O;cases O
    ·obtain ⟨M,oj,R,_⟩:=mem_ready.1 A
     obtain ⟨y,k,rfl,H⟩:=(D.lst j (Array.getElem?_eq_some_iff.1 R).1).1 M
     cases hm:BY y.s.op with
     |false=>
      obtain ⟨pre,post,hq⟩:=List.append_of_mem k
      rw [hq]at D hl
      refine D.AeW hΓ hv H hm A fun u μ' ac h' a' w' g=>ihn _ ?_ g
      simp only [left,List.countP_append,List.countP_cons,H,Option.isNone_none,if_true]at hl⊢
      simp only [Option.isNone_some,Bool.false_eq_true,if_false]
      omega
     |true=>
      have ab:y=x:=by
       simp only [List.mem_cons]at k
       rcases k with k|k
       ·exact k
       ·exfalso
        have J:=((Fy (x:=x.pair) (r:=r.map Item.pair) D.ok).apart y.pair (List.mem_map_of_mem k)).chg hm
        have h3:=D.apart hv (x:=x) (by simp) d (Array.getElem?_eq_some_iff.1 R).1 (Ih A)
        simp only [Item.pair]at J
        rw [J]at h3
        cases h3
      subst ab
      refine D.change hc hv H hm A L fun f' μ' ac h' a' w' g=>ihn _ ?_ g
      simpa [left,d]using hl
theorem XB:∀l:List Step,BB l=l.length
 |[]=>rfl
 |_::r=>by show BB r+1=_;rw [XB r];rfl
theorem TZ:∀{l:List Item},(∀x∈l,x.e=none)→Clo W l
 |[],_=>trivial
 |x::r,h=>⟨fun _ z c d=>absurd (h z (by simp [c])) d,TZ fun z c=>h z (by simp [c])⟩
theorem PX:∀{l:List Item} {id:Nat} {g:Nat→Option Block} {b:Nat},(∀x∈l,x.e=none)→EJ l id g b=g b
 |[],_,_,_,_=>rfl
 |x::r,id,g,b,h=>by
  simp only [EJ,h x (by simp)]
  exact PX fun z c=>h z (by simp [c])
theorem Wc (hΓ:Γ.AG ρ) (hc:BH P ρ call) (ah:P.follows .mixedOrders=true) {y:List Step} (c:NT P pl nt ops=some y) {f:Fr} {r:Co} (hr:LU Γ call y y f.h.next (HL (BB y) f) []=some r)
  (F:CX ρ μ nt f a w) {Q:Exit→Act→World→Prop} (L:D6 ρ nt μ f.h w Q (Gc r)) {al:Nat}:(Code.region al ops true).wp P Q a w:=by
 unfold NT at c
 simp only at c
 split at c
 ·cases c
 ·rename_i J _
  split at c
  ·rename_i A H
   split at c
   ·rename_i D
    simp only [oI]at c
    subst c
    generalize hord:QZ (Region.before ops) ops.size ((List.range ops.size).filter fun i=>(J[i]?.map BY).getD false) []=order at H D
    generalize hbk:(fun i=>AcL (Region.before ops) ((List.range ops.size).filter fun i=>(J[i]?.map BY).getD false) order i)=bk at H
    have aj:=Dx H
    unfold Ac8 at D
    simp only [aT]at D
    obtain ⟨⟨C,Z⟩,ag,aB,ad,aa,ae⟩:=D
    have C:=Al.1 C
    have Z:=Al.1 Z
    refine wp_region_any ah ?_
    have hq:∀(l:List Nat) (m:List Step),l.length=m.length→((l.zip m).map fun x=>(⟨x.1,x.2,none⟩:Item)).map Item.pair=l.zip m∧((l.zip m).map fun x=>(⟨x.1,x.2,none⟩:Item)).map (·.s)=m∧((l.zip m).map fun x=>(⟨x.1,x.2,none⟩:Item)).map (·.i)=l:=fun l m h=>by
     refine ⟨?_,?_,?_⟩
     ·rw [List.map_map];exact List.map_id'' (fun _=>rfl) _
     ·rw [List.map_map];exact List.map_snd_zip (by omega)
     ·rw [List.map_map];exact List.map_fst_zip (by omega)
    obtain ⟨q1,q2,M⟩:=hq order A C
    generalize hqq:((order.zip A).map fun x=>(⟨x.1,x.2,none⟩:Item))=q at q1 q2 M
    have g:∀x∈q,x.e=none:=fun x u=>by
     rw [←hqq]at u
     obtain ⟨z,_,rfl⟩:=List.mem_map.1 u
     rfl
    have X:q.length=ops.size:=by
     have:=cL M
     rw [List.length_map]at this
     omega
    have R:left q=ops.size:=by
     rw [←X]
     unfold left
     rw [List.countP_eq_length]
     intro x u
     rw [g x u];rfl
    have N:∀i d,(Array.replicate ops.size false).getD i d=true→d=true∧ops.size≤i:=fun i d h=>by
     rcases Nat.lt_or_ge i ops.size with h'|h'
     ·simp [h']at h
     ·simp [Array.getElem?_eq_none,h']at h
      exact ⟨h,h'⟩
    refine Zr (all:=A) (pl:=pl) hΓ hc aa (L.grow (Av.drew F.heap)) ops.size q (id:=f.h.next) (f:=HL (BB A) f) (hs:=[]) (μ:=μ) (tm:=f.tm) (h:=(HL (BB A) f).h) R ?_
    have ac:(HL (BB A) f).h.next=f.h.next+A.length:=by
     show f.h.next+BB A=_
     rw [XB]
    refine ⟨by rw [q1];exact ae,fun x u=>?_,fun x u=>?_,TZ g,fun x u U=>absurd (g x u) U,by rw [q2];exact hr,I3 g,fun t=>(DO fun z hz U=>absurd (g z hz) U).symm,F.tmps,F.size,fun b=>(PX g).symm,rfl,Av.reserve F.heap.drew _,Nat.le_refl _,?_,fun k O=>?_,fun k x O U=>?_,F.defs,by simp,fun i hi=>?_,fun j hj=>?_,by rw [M];exact ad,rfl⟩
    ·have an:x.pair∈order.zip A:=by rw [←q1];exact List.mem_map_of_mem u
     obtain ⟨k,O⟩:=List.mem_iff_getElem?.1 an
     rw [List.getElem?_zip_eq_some]at O
     obtain ⟨k1,k2⟩:=O
     have k3:(A.map some)[k]?=some (some x.s):=by rw [List.getElem?_map,k2];rfl
     rw [←aj,List.getElem?_map,k1]at k3
     simp only [Option.map_some,oI]at k3
     obtain ⟨o,ho,k4⟩:=Option.bind_eq_some_iff.1 k3
     exact ⟨o,ho,FH k4⟩
    ·rw [←q2];exact List.mem_map_of_mem u
    ·rw [ac];omega
    ·show f.h.get _=none
     cases hb:f.h.get (f.h.next+k)with
     |none=>rfl
     |some B=>
      have:=F.heap.FL hb
      omega
    ·exact F.heap.fresh _ (Nat.le_add_right _ _)
    ·constructor
     ·intro _
      have h1:=List.all_eq_true.1 ag i (List.mem_range.2 hi)
      have h2:=any_beq.1 h1
      rw [←M]at h2
      obtain ⟨x,u,e⟩:=List.mem_map.1 h2
      exact ⟨x,u,e,g x u⟩
     ·intro _
      simp [hi]
    ·exact absurd (N j false hj).1 (by simp)
   ·cases c
  ·cases c
end
end Go.AM
end
section
namespace Go.AM
theorem Tr.AbQ {α:Type} (g:α→α) (v:Option α) (l r:Tr α):Tr.map g (Tr.node v l r)=.node (v.map g) (Tr.map g l) (Tr.map g r):=rfl
theorem Tr.AbP {α:Type} (g:α→α) (n:Nat) (v:Option α) (t:Tr α):Tr.map g (Tr.over n v t)=.over n (v.map g) (Tr.map g t):=rfl
theorem Tr.get_map {α:Type} (g:α→α):∀(t:Tr α) (n:Nat),(Tr.map g t).get n=(t.get n).map g
 |.nil,n=>rfl
 |.node v l r,n=>by
  rw [Tr.AbQ,Tr.Ed,Tr.Ed,Tr.get_map g l,Tr.get_map g r]
  cases Nat.beq n 0 with
  |true=>rfl
  |false=>cases Nat.beq (n%2) 1<;>rfl
 |.over m v t,n=>by
  rw [Tr.AbP,Tr.F3,Tr.F3,Tr.get_map g t]
  cases Nat.beq n m<;>rfl
section
variable {ρ:Env} {μ:Ap} {w:World} {h:Ak} {b off len es j:Nat}
theorem Yc {r δ m:Nat} {c:Array Value} {e:TypeId} (F:Frz ρ μ b off len es j r δ m c e):∀{l:List Aa} {us:List Value},A7 ρ μ l us→A7 ρ μ (Mo b off len es j l) us
 |[],us,h=>h
 |v::l,us,h=>by
  rw [I4]
  simp only [A7]at h⊢
  obtain ⟨u,rest,rfl,g,d⟩:=h
  exact ⟨u,rest,rfl,(HU F g).1,Yc F d⟩
theorem Acp {r δ m:Nat} {c:Array Value} {e:TypeId} (F:Frz ρ μ b off len es j r δ m c e) {v:Aa} {u:Value} (hv:Ag ρ μ v u):Ag ρ μ (Aiz b off len es j v) u:=by
 unfold Aiz
 split
 ·obtain ⟨x,e,d⟩:=hv.agg
  subst e
  simp only [Ag]
  exact ⟨x,rfl,RH F d⟩
 ·obtain ⟨x,e,d⟩:=hv.tuple
  subst e
  simp only [Ag]
  exact ⟨x,rfl,Yc F d⟩
 ·exact (HU F hv).1
theorem Aco {r δ m:Nat} {c:Array Value} {e:TypeId} (F:Frz ρ μ b off len es j r δ m c e) {B:Block} {o:Option Obj} {x:Nat×Nat} (hB:CM ρ μ B o x):CM ρ μ (AlE b off len es j B) o x:=by
 cases B with
 |cells vs=>
  obtain ⟨d,t,C,A,hc⟩:=hB
  refine ⟨d,t,C,A,fun i a ha=>?_⟩
  rw [N3]at ha
  obtain ⟨D,g,rfl⟩:=mS ha
  obtain ⟨v,H,z,u⟩:=hc i D g
  obtain ⟨k,y⟩:=HU F u
  exact ⟨v,H,by rw [y];exact z,k⟩
 |typed t vs=>
  obtain ⟨d,C,⟨J,hs⟩,A,hc⟩:=hB
  have hl:(Mo b off len es j vs).length=vs.length:=by
   have:∀l:List Aa,(Mo b off len es j l).length=l.length:=fun l=>by
    induction l with
    |nil=>rfl
    |cons v l ih=>rw [I4];simp [ih]
   exact this vs
  refine ⟨d,C,⟨J,by rw [hl];exact hs⟩,A,fun i a ha=>?_⟩
  rw [N3]at ha
  obtain ⟨D,g,rfl⟩:=mS ha
  obtain ⟨v,H,z,u⟩:=hc i D g
  obtain ⟨k,y⟩:=HU F u
  exact ⟨v,H,by rw [y];exact z,k⟩
 |map es clock=>exact hB
 |bytes n e=>exact hB
 |sbytes n e=>exact hB
 |list i es=>exact hB
 |smap i=>exact hB
theorem Acn {i:Nat} {t:ST} {r m:Nat} {c:Array Value} {e:TypeId} (hs:μ b=some (r,0,m)) (x:μ.Bb r=some (.cells c e (0,0))) (C:BR μ.Bb es c 0 (ρ.lst i)) (z:t.den ρ=((ρ.lst i).length:Int)) {v:Aa} {u:Value} (hv:Ag ρ μ v u):Ag ρ μ (RE b i es t v) u∧(RE b i es t v).single=v.single:=by
 unfold RE
 split
 ·rename_i y j n
  cases hc:Nat.beq b y&&(Nat.beq es j&&n.eq t)with
  |false=>exact ⟨hv,rfl⟩
  |true=>
   rw [aT,aT,Al,Al]at hc
   obtain ⟨rfl,rfl,g⟩:=hc
   have g:=ST.Bg g
   subst g
   obtain ⟨H,M,k,d,o,D,J,N⟩:=hv.vec
   rw [hs]at d
   simp only [oI,Prod.mk.injEq,true_and]at d
   obtain ⟨rfl,rfl⟩:=d
   have A:(ρ.lst i).length=k:=by omega
   refine ⟨?_,rfl⟩
   simp only [cond_true,Ag,IG]
   exact ⟨⟨BZ m,by omega,.inr ⟨r,0,c,e,by rw [A];exact o,⟨_,x⟩,C⟩⟩,z,fun e=>by cases e⟩
 ·exact ⟨hv,rfl⟩
theorem GN (b i es:Nat) (t:ST) (v:Aa) (r:List Aa):HT b i es t (v::r)=RE b i es t v::HT b i es t r:=rfl
theorem Ld {i:Nat} {t:ST}:∀{l:List Aa} {k:Nat},(HT b i es t l)[k]?=(l[k]?).map (RE b i es t)
 |[],k=>by show ([]:List Aa)[k]?=_;simp
 |v::r,k=>by
  rw [GN]
  cases k with
  |zero=>simp
  |succ k=>simpa using Ld (l:=r) (k:=k)
theorem TD {nt:Nat} {f:Fr} {a:Act} (F:CX ρ μ nt f a w) {B0:Block} {r:Nat} {R:Nat×Nat} (hb:f.h.get b=some B0) (X:μ b=some (r,R)) (P:Aa→Aa) (y:Block→Block)
  (hA:∀v u,Ag ρ (μ.E5 r w.heap[r]?) v u→Ag ρ (μ.E5 r w.heap[r]?) (P v) u) (hB:∀B o x,CM ρ (μ.E5 r w.heap[r]?) B o x→CM ρ (μ.E5 r w.heap[r]?) (y B) o x):
  ∃μ',CX ρ μ' nt ⟨Tr.map P f.tm,⟨Tr.map y (Tr.set f.h.DT b none),f.h.next,f.h.fx⟩,f.df⟩ a w∧Av ρ μ f.h w μ' ⟨Tr.map y (Tr.set f.h.DT b none),f.h.next,f.h.fx⟩ w:=by
 have H:=F.heap
 have J:AP μ f.h r:=⟨b,_,R,hb,X⟩
 have Q:∀x,μ.Bb r=some x→w.heap[r]?=some x:=fun x N=>absurd J (H.AS.Bb r x N).2
 have A:μ.le (μ.E5 r w.heap[r]?):=Ap.Kb Q
 have k:∀d B,(⟨Tr.map y (Tr.set f.h.DT b none),f.h.next,f.h.fx⟩:Ak).get d=some B→∃j,f.h.get d=some j∧B=y j∧d≠b:=fun d B hd=>by
  have hd:(Tr.map y (Tr.set f.h.DT b none)).get d=some B:=hd
  rw [Tr.get_map,Tr.Bk]at hd
  obtain ⟨j,z,C⟩:=mS hd
  by_cases e:d=b
  ·rw [if_pos e]at z;cases z
  ·rw [if_neg e]at z;exact ⟨j,z,C.symm,e⟩
 have c:∀s,AP (μ.E5 r w.heap[r]?) ⟨Tr.map y (Tr.set f.h.DT b none),f.h.next,f.h.fx⟩ s→AP μ f.h s∧s≠r:=fun s ⟨d,B,x,z,C⟩=>by
  obtain ⟨j,D,U,Z⟩:=k d B z
  exact ⟨⟨d,j,x,D,C⟩,fun e=>Z (H.inj _ _ _ _ _ _ _ D hb C (e▸X))⟩
 have hH:AH ρ (μ.E5 r w.heap[r]?) ⟨Tr.map y (Tr.set f.h.DT b none),f.h.next,f.h.fx⟩ w:=by
  refine ⟨fun d hd=>H.fresh d hd,fun d B hd=>?_,fun d d' B j s x x' z C m1 m2=>?_,⟨fun g o hg=>?_,fun g o hg=>?_,H.AS.facts⟩⟩
  ·obtain ⟨j,D,rfl,Z⟩:=k d B hd
   obtain ⟨s,x,e1,e2⟩:=H.blk d j D
   exact ⟨s,x,e1,hB _ _ _ (e2.mono A)⟩
  ·obtain ⟨B1,D,_,_⟩:=k _ _ z
   obtain ⟨B2,U,_,_⟩:=k _ _ C
   exact H.inj _ _ _ _ _ _ _ D U m1 m2
  ·obtain ⟨O,M⟩:=H.AS.AS g o hg
   exact ⟨O,fun e=>M (c g e).1⟩
  ·have hg:(if g=r then w.heap[r]? else μ.Bb g)=some o:=hg
   by_cases e:g=r
   ·subst e
    rw [if_pos rfl]at hg
    exact ⟨hg,fun q=>(c _ q).2 rfl⟩
   ·rw [if_neg e]at hg
    obtain ⟨O,M⟩:=H.AS.Bb g o hg
    exact ⟨O,fun q=>M (c g q).1⟩
 refine ⟨μ.E5 r w.heap[r]?,⟨fun t=>?_,F.size,hH,F.defs.mono A⟩,⟨A,hH,Nat.le_refl _,fun s _ hs=>⟨rfl,fun q=>hs (c s q).1⟩,rfl,rfl,Nat.le_refl _,fun _ _=>rfl,fun g o hg=>?_,rfl⟩⟩
 ·show Ag _ _ (EF ((Tr.map P f.tm).get t)) _
  rw [Tr.get_map]
  have ht:=(F.tmps t).mono A
  cases N:f.tm.get t with
  |none=>trivial
  |some v=>
   rw [N]at ht
   exact hA _ _ ht
 ·have hg:(if g=r then w.heap[r]? else μ.Bb g)=some o:=hg
  by_cases e:g=r
  ·subst e;exact .inr (.inl J)
  ·rw [if_neg e]at hg;exact .inl hg
theorem RF {Γ:An} (hΓ:Γ.AG ρ) {nt:Nat} {f:Fr} {a:Act} (F:CX ρ μ nt f a w) (z:Nat×Nat×Nat×Nat×Nat):∃Q,CX ρ Q nt (RG Γ z f) a w∧Av ρ μ f.h w Q (RG Γ z f).h w:=by
 have same:∃Q,CX ρ Q nt f a w∧Av ρ μ f.h w Q f.h w:=⟨μ,F,Av.refl F.heap⟩
 have H:=F.heap
 unfold RG
 split
 case h_3=>exact same
 ·rename_i vs hb
  cases hk:PR Γ z.2.1 z.2.2.1 z.2.2.2.1 z.2.2.2.2 vs with
  |false=>exact same
  |true=>
  simp only [cond_true]
  obtain ⟨b,off,len,es,j⟩:=z
  simp only at hb hk⊢
  obtain ⟨cs,aa,af,ae,hd⟩:=N2 hΓ hk
  obtain ⟨r,⟨δ,m⟩,g,c,t,D,am,hc⟩:=H.blk b _ hb
  have C:AP μ f.h r:=⟨b,_,(δ,m),hb,g⟩
  have M:∀x,μ.Bb r=some x→w.heap[r]?=some x:=fun x J=>absurd C (H.AS.Bb r x J).2
  have U:μ.le (μ.E5 r w.heap[r]?):=Ap.Kb M
  have ad:AQ μ.Bb c (δ+off) (ρ.lst j).flatten:=NR hc aa hd
  have Z:Frz ρ (μ.E5 r w.heap[r]?) b off len es j r δ m c t:=by
   refine ⟨g,af,?_,?_⟩
   ·show (if r=r then w.heap[r]? else μ.Bb r)=_
    rw [if_pos rfl];exact D
   ·exact BR.mono U.Bb (B8.2 ⟨ae,ad⟩)
  exact TD F hb g _ _ (fun v u hv=>Acp Z hv) (fun B o x hB=>Aco Z hB)
 ·rename_i i es hb
  cases hk:Nat.beq i z.2.2.2.2 with
  |false=>exact same
  |true=>
  simp only [cond_true]
  split
  case h_2=>exact same
  rename_i t ht
  obtain ⟨r,⟨δ,m⟩,g,c,e,D,h0,N,A,y,h4,h5⟩:=H.blk z.1 _ hb
  subst h0
  have C:AP μ f.h r:=⟨z.1,_,(0,m),hb,g⟩
  have M:∀x,μ.Bb r=some x→w.heap[r]?=some x:=fun x J=>absurd C (H.AS.Bb r x J).2
  have U:μ.le (μ.E5 r w.heap[r]?):=Ap.Kb M
  have hi:(μ.E5 r w.heap[r]?).Bb r=some (.cells c e (0,0)):=by
   show (if r=r then w.heap[r]? else μ.Bb r)=_
   rw [if_pos rfl];exact D
  have ht:t.den ρ=((ρ.lst i).length:Int):=hΓ.Ad _ (CH ht)
  have hv:∀{v:Aa} {u:Value},Ag ρ (μ.E5 r w.heap[r]?) v u→Ag ρ (μ.E5 r w.heap[r]?) (RE z.1 i es t v) u∧(RE z.1 i es t v).single=v.single:=fun {v u} h=>Acn (μ:=μ.E5 r w.heap[r]?) (m:=m) g hi (BR.mono U.Bb h5) ht h
  have ai:∀{l:List Aa} {us:List Value},Aw ρ (μ.E5 r w.heap[r]?) l us→Aw ρ (μ.E5 r w.heap[r]?) (HT z.1 i es t l) us:=by
   intro l
   induction l with
   |nil=>intro us h;exact h
   |cons v l ih=>
    intro us h
    rw [GN]
    simp only [Aw]at h⊢
    obtain ⟨u,rest,rfl,⟨N,A⟩,y⟩:=h
    obtain ⟨O,P⟩:=hv A
    exact ⟨u,rest,rfl,⟨by rw [P];exact N,O⟩,ih y⟩
  have ah:∀{l:List Aa} {us:List Value},A7 ρ (μ.E5 r w.heap[r]?) l us→A7 ρ (μ.E5 r w.heap[r]?) (HT z.1 i es t l) us:=by
   intro l
   induction l with
   |nil=>intro us h;exact h
   |cons v l ih=>
    intro us h
    rw [GN]
    simp only [A7]at h⊢
    obtain ⟨u,rest,rfl,A,y⟩:=h
    exact ⟨u,rest,rfl,(hv A).1,ih y⟩
  refine TD F hb g _ _ (fun v u X=>?_) (fun B o x hB=>?_)
  ·unfold AgC
   split
   ·obtain ⟨x,e,J⟩:=X.agg
    subst e
    simp only [Ag]
    exact ⟨x,rfl,ai J⟩
   ·obtain ⟨x,e,J⟩:=X.tuple
    subst e
    simp only [Ag]
    exact ⟨x,rfl,ah J⟩
   ·exact (hv X).1
  ·cases B with
   |cells vs=>
    obtain ⟨d,t',D,g,hc⟩:=hB
    refine ⟨d,t',D,g,fun k a ha=>?_⟩
    rw [Ld]at ha
    obtain ⟨a',R,rfl⟩:=mS ha
    obtain ⟨v,N,A,y⟩:=hc k a' R
    obtain ⟨O,P⟩:=hv y
    exact ⟨v,N,by rw [P];exact A,O⟩
   |typed t' vs=>
    obtain ⟨d,D,⟨h0,hs⟩,g,hc⟩:=hB
    have hl:(HT z.1 i es t vs).length=vs.length:=by
     have:∀l:List Aa,(HT z.1 i es t l).length=l.length:=fun l=>by
      induction l with
      |nil=>rfl
      |cons v l ih=>rw [GN];simp [ih]
     exact this vs
    refine ⟨d,D,⟨h0,by rw [hl];exact hs⟩,g,fun k a ha=>?_⟩
    rw [Ld]at ha
    obtain ⟨a',R,rfl⟩:=mS ha
    obtain ⟨v,N,A,y⟩:=hc k a' R
    obtain ⟨O,P⟩:=hv y
    exact ⟨v,N,by rw [P];exact A,O⟩
   |map es clock=>exact hB
   |bytes n e=>exact hB
   |sbytes n e=>exact hB
   |list i es=>exact hB
   |smap i=>exact hB
theorem Kl {Γ:An} (c:Γ.AG ρ) {nt:Nat} {a:Act}:∀(l:List (Nat×Nat×Nat×Nat×Nat)) {μ:Ap} {f:Fr},CX ρ μ nt f a w→∃d,CX ρ d nt (VR Γ l f) a w∧Av ρ μ f.h w d (VR Γ l f).h w
 |[],μ,f,F=>⟨μ,F,Av.refl F.heap⟩
 |z::l,μ,f,F=>by
  obtain ⟨o,g,g1⟩:=RF c F z
  obtain ⟨k,j,g2⟩:=Kl c l g
  exact ⟨k,j,g1.trans g2⟩
theorem QG {Γ:An} (d:Γ.AG ρ) {nt:Nat} {h:Ak} {Q:Exit→Act→World→Prop} {r:Bi×Fr} (L:D6 ρ nt μ h w Q (QH Γ r)):D6 ρ nt μ h w Q r:=by
 unfold QH at L
 split at L
 ·rename_i z l k x
  intro y j w' e F g c
  obtain ⟨u,o,g2⟩:=Kl d (z::l) F
  rw [k]at c
  exact L u j w' e o (g.trans g2) c
 ·exact L
end
end Go.AM
end
section
namespace Go.AM
def empty (d:Nat) (fx:An:={}):Ak:=⟨Tr.full Block d,0,fx⟩
theorem I5 (d:Nat) (fx:An) (b:Nat):(empty d fx).get b=none:=Tr.Kg d b
theorem NN {ρ:Env} {T:Nat→Option Obj} (d:Nat) {fx:An} (w:World) (j:∀g o,ρ.AS g=some o→w.heap[g]?=some o) (c:∀g o,T g=some o→w.heap[g]?=some o) (hf:fx.AG ρ):AH ρ ⟨fun _=>none,T⟩ (empty d fx) w where
 AS:=⟨fun g o h=>⟨j g o h,by rintro ⟨_,_,_,_,e⟩;cases e⟩,fun g o h=>⟨c g o h,by rintro ⟨_,_,_,_,e⟩;cases e⟩,hf⟩
 fresh:=fun _ _=>rfl
 blk:=fun b B hb=>by rw [I5]at hb;cases hb
 inj:=fun b _ B _ _ _ _ hb=>by rw [I5]at hb;cases hb
theorem Zq {ρ:Env} (d:Nat) (w:World) (c:∀g o,ρ.AS g=some o→w.heap[g]?=some o):AH ρ Ap.none (empty d) w:=
 NN d w c (fun _ _ h=>by cases h) (An.AG.none ρ)
theorem AeF {σ:List Nat} {i b:Nat} (h:Cm σ i=some b):i<σ.length:=by
 rw [FK]at h
 exact (List.getElem?_eq_some_iff.1 h).1
theorem Tx {n:Nat}:∀{l:List Nat},AbO n l=true↔n∈l
 |[]=>by
  constructor
  ·intro h;cases h
  ·intro h;cases h
 |m::r=>by
  have e:AbO n (m::r)=(Nat.beq m n||AbO n r):=rfl
  rw [e,Bool.or_eq_true,Al,Tx,List.mem_cons]
  constructor
  ·rintro (h|h)
   ·exact .inl h.symm
   ·exact .inr h
  ·rintro (h|h)
   ·exact .inl h.symm
   ·exact .inr h
theorem Fz:∀{l:List Nat},Jm l=true→l.Nodup
 |[],_=>List.nodup_nil
 |n::r,h=>by
  have e:Jm (n::r)=(!(AbO n r)&&Jm r):=rfl
  rw [e,aT]at h
  refine List.nodup_cons.2 ⟨fun c=>?_,Fz h.2⟩
  rw [Tx.2 c]at h
  cases h.1
theorem Fj:∀l:List Block,He l=l.length
 |[]=>rfl
 |_::r=>by show He r+1=_;rw [Fj r];rfl
theorem GI:∀l:List (Option Block),Tq l=l.length
 |[]=>rfl
 |_::r=>by show Tq r+1=_;rw [GI r];rfl
theorem Tu {σ:List Nat} (o:σ.Nodup) {i j b:Nat} (c:Cm σ i=some b) (d:Cm σ j=some b):i=j:=by
 rw [FK]at c d
 obtain ⟨u,k⟩:=List.getElem?_eq_some_iff.1 c
 obtain ⟨x,g⟩:=List.getElem?_eq_some_iff.1 d
 exact (List.getElem_inj o).1 (k.trans g.symm)
theorem Gs:∀(l:List (Option Block)) (k n i:Nat),(LJ l k n)[i]?=if k+i<l.length then some (n+i)else none
 |[],k,n,i=>by rw [if_neg (by simp)];show ([]:List Nat)[i]?=none;simp
 |_::r,0,n,i=>by
  show (n::LJ r 0 (n+1))[i]?=_
  cases i with
  |zero=>simp
  |succ i=>
   rw [List.getElem?_cons_succ,Gs r 0 (n+1) i]
   simp only [lC,Nat.zero_add,Nat.add_lt_add_iff_right]
   rw [show n+1+i=n+(i+1) by omega]
 |_::r,k+1,n,i=>by
  show (LJ r k n)[i]?=_
  rw [Gs r k n i,lC]
  by_cases hc:k+i<r.length
  ·rw [if_pos hc,if_pos (by omega)]
  ·rw [if_neg hc,if_neg (by omega)]
theorem Ci:∀(l:List Block) (h:Ak),(Be l h).next=h.next+l.length∧(Be l h).fx=h.fx∧
  ∀b,(Be l h).get b=if h.next≤b∧b<h.next+l.length then l[b-h.next]? else h.get b
 |[],h=>⟨rfl,rfl,fun b=>by rw [if_neg (by simp only [lN];omega)];rfl⟩
 |B::r,h=>by
  have e:Be (B::r) h=Be r (h.add B):=rfl
  obtain ⟨d,hf,c⟩:=Ci r (h.add B)
  rw [e]
  refine ⟨by rw [d,Ak.JX,lC];omega,hf,fun b=>?_⟩
  rw [c b,Ak.JX,lC,Ak.Kh]
  by_cases hb:b=h.next
  ·subst hb
   rw [if_neg (by omega),if_pos rfl,if_pos (by omega)]
   simp
  ·by_cases hc:h.next+1≤b∧b<h.next+1+r.length
   ·rw [if_pos hc,if_pos (by omega)]
    have:b-h.next=(b-(h.next+1))+1:=by omega
    rw [this,List.getElem?_cons_succ]
   ·rw [if_neg hc,if_neg hb,if_neg (by omega)]
theorem CJ:∀(l:List (Option Block)) (h:Ak),(CD l h).next=h.next+l.length∧(CD l h).fx=h.fx∧
  ∀b,(CD l h).get b=if h.next≤b∧b<h.next+l.length then (l[b-h.next]?).join else h.get b
 |[],h=>⟨rfl,rfl,fun b=>by rw [if_neg (by simp only [lN];omega)];rfl⟩
 |B::r,h=>by
  have e:CD (B::r) h=CD r ⟨Tr.set h.DT h.next B,h.next+1,h.fx⟩:=rfl
  obtain ⟨d,hf,c⟩:=CJ r ⟨Tr.set h.DT h.next B,h.next+1,h.fx⟩
  rw [e]
  refine ⟨by rw [d,lC];show h.next+1+_=_;omega,hf,fun b=>?_⟩
  have hg:(⟨Tr.set h.DT h.next B,h.next+1,h.fx⟩:Ak).get b=if b=h.next then B else h.get b:=Tr.Bk _ _ _ _
  rw [c b,lC,hg]
  show (if h.next+1≤b∧b<h.next+1+r.length then (r[b-(h.next+1)]?).join else _)=_
  by_cases hb:b=h.next
  ·subst hb
   rw [if_neg (by omega),if_pos rfl,if_pos (by omega)]
   simp
  ·by_cases hc:h.next+1≤b∧b<h.next+1+r.length
   ·rw [if_pos hc,if_pos (by omega)]
    have:b-h.next=(b-(h.next+1))+1:=by omega
    rw [this,List.getElem?_cons_succ]
   ·rw [if_neg hc,if_neg hb,if_neg (by omega)]
theorem C9 {d:Nat} {fx:An} {l:List Block} {b:Nat}:(Be l (empty d fx)).get b=l[b]?:=by
 obtain ⟨_,_,h⟩:=Ci l (empty d fx)
 rw [h b]
 have e:(empty d fx).next=0:=rfl
 rw [e]
 by_cases hb:b<l.length
 ·rw [if_pos (by omega)];rfl
 ·rw [if_neg (by omega),I5,List.getElem?_eq_none (by omega)]
theorem DC {d:Nat} {fx:An} {l:List (Option Block)} {b:Nat}:(CD l (empty d fx)).get b=(l[b]?).join:=by
 obtain ⟨_,_,h⟩:=CJ l (empty d fx)
 rw [h b]
 have e:(empty d fx).next=0:=rfl
 rw [e]
 by_cases hb:b<l.length
 ·rw [if_pos (by omega)];rfl
 ·rw [if_neg (by omega),I5,List.getElem?_eq_none (by omega)];rfl
theorem Ce {d:Nat} {fx:An} {l:List Block}:(Be l (empty d fx)).next=l.length:=by
 have h:=(Ci l (empty d fx)).1
 rw [h];show 0+_=_;omega
theorem DM {d:Nat} {fx:An} {l:List (Option Block)}:(CD l (empty d fx)).next=l.length:=by
 have h:=(CJ l (empty d fx)).1
 rw [h];show 0+_=_;omega
section
variable {ρ:Env} {μ μ':Ap} {σ:List Nat}
structure Ren (μ' μ:Ap) (σ:List Nat):Prop where
 spot:∀i b,Cm σ i=some b→μ' i=μ b
 Bb:μ'.Bb=μ.Bb
theorem Tc (R:Ren μ' μ σ) {p a:Aa} (h:Abe σ p=some a) {u:Value}:(Ag ρ μ a u↔Ag ρ μ' p u)∧a.single=p.single:=by
 have d:=R.spot
 cases p<;>simp only [Abe,oI,reduceCtorEq]at h
 case ptr b o=>
  obtain ⟨c,hc,e⟩:=Ac h
  simp only [oI]at e
  subst e
  simp only [Ag,d _ _ hc,Aa.single,and_self]
 case slice b o l c=>
  obtain ⟨c,hc,e⟩:=Ac h
  simp only [oI]at e
  subst e
  simp only [Ag,d _ _ hc,Aa.single,and_self]
 case gslice b o l es=>
  obtain ⟨c,hc,e⟩:=Ac h
  simp only [oI]at e
  subst e
  simp only [Ag,d _ _ hc,Aa.single,and_self]
 case map b=>
  obtain ⟨c,hc,e⟩:=Ac h
  simp only [oI]at e
  subst e
  simp only [Ag,d _ _ hc,Aa.single,and_self]
 case vec b es n=>
  obtain ⟨c,hc,e⟩:=Ac h
  simp only [oI]at e
  subst e
  simp only [Ag,d _ _ hc,Aa.single,and_self]
 case vptr b es j o=>
  obtain ⟨c,hc,e⟩:=Ac h
  simp only [oI]at e
  subst e
  simp only [Ag,d _ _ hc,Aa.single,and_self]
 case gbytes b=>
  obtain ⟨c,hc,e⟩:=Ac h
  simp only [oI]at e
  subst e
  simp only [Ag,d _ _ hc,Aa.single,and_self]
 all_goals
  subst h
  simp only [Ag,R.Bb,Aa.single,and_self]
theorem KA (R:Ren μ' μ σ):∀{l r:List Aa} {us:List Value},XF σ l=some r→(A7 ρ μ r us↔A7 ρ μ' l us)
 |[],r,us,h=>by
  have h:some []=some r:=h
  simp only [oI]at h
  subst h
  simp only [A7]
 |v::l,r,us,h=>by
  have h:(AB (Abe σ v) fun u=>AB (XF σ l) fun us=>some (u::us))=some r:=h
  obtain ⟨u,d,h⟩:=Ac h
  obtain ⟨g,c,h⟩:=Ac h
  simp only [oI]at h
  subst h
  simp only [A7,(Tc R d).1,KA R c]
theorem Df (R:Ren μ' μ σ) {p a:Aa} (h:JT σ p=some a) {u:Value}:(Ag ρ μ a u↔Ag ρ μ' p u)∧a.single=p.single:=by
 unfold JT at h
 split at h
 ·obtain ⟨x,c,h⟩:=Ac h
  obtain ⟨y,d,h⟩:=Ac h
  simp only [oI]at h
  subst h
  simp only [Ag,KA R c,KA R d,Aa.single,and_self]
 ·exact Tc R h
theorem Za {a:Aa} {u:Value} (h:Ag ρ μ a u):Ag ρ μ (loose a) u∧(loose a).single=a.single:=by
 cases a<;>simp only [loose,and_true]<;>try exact h
 case lst f i es n=>
  obtain ⟨d,c,_⟩:=h.lst
  exact ⟨by simp only [Ag];exact ⟨d,c,fun e=>by cases e⟩,rfl⟩
theorem E4 {Γ:An} (x:Γ.AG ρ) (R:Ren μ' μ σ) {p a:Aa} (h:Ie Γ σ p a=true) {u:Value} (hv:Ag ρ μ a u):Ag ρ μ' p u∧p.single=a.single:=by
 unfold Ie at h
 split at h
 ·rename_i v o
  rw [Bool.or_eq_true,Bool.or_eq_true]at h
  rcases h with (h|h) |h
  ·have h:=Aa.Dw h
   subst h
   obtain ⟨c,d⟩:=Df (ρ:=ρ) R o (u:=u)
   exact ⟨c.1 hv,d.symm⟩
  ·have h:=Aa.Dw h
   subst h
   obtain ⟨c,d⟩:=Df (ρ:=ρ) R o (u:=u)
   obtain ⟨C,A⟩:=Za hv
   exact ⟨c.1 C,by rw [←d,A]⟩
  ·split at h
   ·rename_i j D n
    rw [aT,aT]at h
    obtain ⟨k,g,y⟩:=h
    have ha:a=.nilSlice:=by
     unfold Acg at k
     split at k
     ·rfl
     ·cases k
    subst ha
    have hl:(ρ.lst j).length=0:=by
     unfold Ac7 at g
     split at g
     ·rename_i e
      have:=x.Ad _ (CH e)
      have this:(0:Int)=((ρ.lst j).length:Int):=this
      omega
     ·cases g
    have z:ρ.lst j=[]:=List.eq_nil_of_length_eq_zero hl
    have e:u=.slice none 0 0:=by simpa only [Ag]using hv
    obtain ⟨c,d⟩:=Df (ρ:=ρ) R o (u:=u)
    refine ⟨c.1 ?_,by rw [←d];rfl⟩
    rw [ST.Bg y]
    simp only [Ag,IG]
    exact ⟨⟨0,by rw [hl];exact Nat.le_refl _,.inl ⟨z,none,e⟩⟩,by rw [hl];rfl,fun e=>by cases e⟩
   ·cases h
 ·cases h
theorem Ic {Γ:An} (p a:Aa) (ps as:List Aa):GR Γ σ (p::ps) (a::as)=(Ie Γ σ p a&&GR Γ σ ps as):=rfl
theorem Gd {Γ:An}:∀{ps as:List Aa},GR Γ σ ps as=true→ps.length=as.length
 |[],[],_=>rfl
 |[],_::_,h=>by cases h
 |_::_,[],h=>by cases h
 |p::ps,a::as,h=>by
  rw [Ic,aT]at h
  simp [Gd h.2]
theorem Jx {Γ:An}:∀{ps as:List Aa},GR Γ σ ps as=true→∀(i:Nat) (p a:Aa),ps[i]?=some p→as[i]?=some a→Ie Γ σ p a=true
 |[],[],_,i,p,a,h,_=>by simp at h
 |[],_::_,h,_,_,_,_,_=>by cases h
 |_::_,[],h,_,_,_,_,_=>by cases h
 |p::ps,a::as,h,i,q,b,h1,h2=>by
  rw [Ic,aT]at h
  cases i with
  |zero=>
   simp only [List.getElem?_cons_zero,oI]at h1 h2
   subst h1 h2
   exact h.1
  |succ i=>exact Jx h.2 i q b (by simpa using h1) (by simpa using h2)
theorem Lg {Γ:An} (c:Γ.AG ρ) (R:Ren μ' μ σ):∀{ps as:List Aa} {us:List Value},GR Γ σ ps as=true→Aw ρ μ as us→Aw ρ μ' ps us
 |[],[],us,_,h=>by simp only [Aw]at h⊢;exact h
 |[],_::_,_,h,_=>by cases h
 |_::_,[],_,h,_=>by cases h
 |p::ps,a::as,us,h,hr=>by
  rw [Ic,aT]at h
  simp only [Aw]at hr⊢
  obtain ⟨u,rest,e,⟨g,o⟩,j⟩:=hr
  obtain ⟨d,k⟩:=E4 c R h.1 o
  exact ⟨u,rest,e,⟨by rw [k];exact g,d⟩,Lg c R h.2 j⟩
theorem Ll {Γ:An} (c:Γ.AG ρ) (R:Ren μ' μ σ) {p a:Aa} (h:NM Γ σ p a=true) {u:Value} (d:Ag ρ μ a u):Ag ρ μ' p u:=by
 unfold NM at h
 split at h
 ·obtain ⟨x,e,g⟩:=d.agg
  subst e
  simp only [Ag]
  exact ⟨x,rfl,Lg c R h g⟩
 ·exact (E4 c R h d).1
theorem GS {Γ:An} (c:Γ.AG ρ) (R:Ren μ' μ σ):∀{ps as:List Aa} {us:List Value},Lj Γ σ ps as=true→A7 ρ μ as us→A7 ρ μ' ps us
 |[],[],us,_,h=>by simp only [A7]at h⊢;exact h
 |[],_::_,_,h,_=>by cases h
 |_::_,[],_,h,_=>by cases h
 |p::ps,a::as,us,h,hr=>by
  have e:Lj Γ σ (p::ps) (a::as)=(NM Γ σ p a&&Lj Γ σ ps as):=rfl
  rw [e,aT]at h
  simp only [A7]at hr⊢
  obtain ⟨u,rest,e,d,g⟩:=hr
  exact ⟨u,rest,e,Ll c R h.1 d,GS c R h.2 g⟩
theorem Np {i:Nat} {v:List (Aa×List Aa)}:∀{l:List (Nat×List (Aa×List Aa))},Vt i l=some v→(i,v)∈l
 |[],h=>by cases h
 |e::r,h=>by
  have h:(bif Nat.beq e.1 i then some e.2 else Vt i r)=some v:=h
  cases c:Nat.beq e.1 i with
  |true=>
   rw [c]at h
   simp only [cond_true,oI]at h
   rw [←h,←Nat.eq_of_beq_eq_true c]
   exact List.mem_cons_self
  |false=>rw [c]at h;exact List.mem_cons_of_mem _ (Np h)
theorem TO:∀{g:List Entry} {l:List (Aa×List Aa)} {ms:List MapEntry} {d:List (List Nat×List PV)},Ai4 g l=true→Adf ρ l d→Ca ρ μ g ms→J6 μ.Bb d ms
 |[],[],ms,d,_,hd,h=>by
  have hd:d=[]:=hd
  subst hd
  exact h
 |[],_::_,_,_,h,_,_=>by cases h
 |_::_,[],_,_,h,_,_=>by cases h
 |e::g,x::l,ms,d,h,hd,hr=>by
  have h:(e.key.eq x.1&&((match e.val with|.agg cs=>RY cs&&Aa.Qa (CW cs) x.2|_=>false)&&Ai4 g l))=true:=h
  rw [aT,aT]at h
  obtain ⟨N,c,A⟩:=h
  obtain ⟨s,ps,rest,rfl,y,d2,P⟩:=hd
  obtain ⟨m,j,rfl,⟨_,M,u,_⟩,J⟩:=hr
  rw [←Aa.Dw N]at y
  obtain ⟨b,z,C⟩:=BS y M
  split at c
  ·rename_i cs o
   rw [aT]at c
   rw [o]at u
   obtain ⟨a,D,ha⟩:=u.agg
   have k:a.size=ps.length:=by
    have O:=ha.length
    have Q:=d2.length
    have H:(CW cs).length=x.2.length:=by rw [Aa.Dk c.2]
    rw [Ga]at H
    simp at O
    omega
   refine ⟨m,j,rfl,⟨b,z,C⟩,⟨a,D,k,?_⟩,TO A P J⟩
   exact Aw.freeze (by rw [Aa.Dk c.2];exact d2) ha fun i v hv=>by simpa using hv
  ·cases c
theorem MZ {i j:Nat}:∀{l:List (Nat×List AL)},(∀x∈l,B6 ρ x.2 (ρ.lst x.1))→AbF i j l=true→∃n,ρ.lst i=(ρ.lst j).take n
 |[],_,h=>by cases h
 |x::r,hl,h=>by
  have h:((Nat.beq x.1 i&&(match x.2 with|[.take k _]=>Nat.beq k j|_=>false)) ||AbF i j r)=true:=h
  rw [Bool.or_eq_true]at h
  rcases h with h|h
  ·rw [aT,Al]at h
   obtain ⟨u,c⟩:=h
   have hd:=hl x List.mem_cons_self
   split at c
   ·rename_i k t e
    have c:=Al.1 c
    rw [e,u,c]at hd
    obtain ⟨A,B,g,⟨_,_,o⟩,d⟩:=hd
    have d:B=[]:=d
    subst d
    rw [List.append_nil]at g
    exact ⟨_,g.trans o⟩
   ·cases c
  ·exact MZ (fun y z=>hl y (List.mem_cons_of_mem _ z)) h
theorem LS {Γ:An} (c:Γ.AG ρ) (R:Ren μ' μ σ):∀{ps as:List Entry} {ms:List MapEntry},RN Γ σ ps as=true→Ca ρ μ as ms→Ca ρ μ' ps ms
 |[],[],ms,_,h=>h
 |[],_::_,ms,h,_=>by cases h
 |_::_,[],ms,h,_=>by cases h
 |p::ps,a::as,ms,h,he=>by
  have h:(Ie Γ σ p.key a.key&&(Ie Γ σ p.val a.val&&(Nat.beq p.born a.born&&RN Γ σ ps as)))=true:=h
  rw [aT,aT,aT,Al]at h
  obtain ⟨m,rest,rfl,⟨d,g,o,j⟩,x⟩:=he
  obtain ⟨k,u⟩:=E4 c R h.1 g
  exact ⟨m,rest,rfl,⟨by rw [u];exact d,k,(E4 c R h.2.1 o).1,by rw [j,h.2.2.1]⟩,LS c R h.2.2.2 x⟩
theorem Qb {Γ:An} (C:Γ.AG ρ) (R:Ren μ' μ σ) {B A:Block} (h:NL Γ σ B A=true) {o:Option Obj} {δ:Nat×Nat} (g:CM ρ μ A o δ):CM ρ μ' B o δ:=by
 unfold NL at h
 split at h
 ·rename_i ps as
  obtain ⟨c,e,k,X,hc⟩:=g
  have hl:=Gd h
  refine ⟨c,e,k,X,fun i p H=>?_⟩
  have hi:=(List.getElem?_eq_some_iff.1 H).1
  obtain ⟨a,ha⟩:∃a,as[i]?=some a:=⟨_,List.getElem?_eq_getElem (by omega)⟩
  obtain ⟨v,u,x,N⟩:=hc i a ha
  obtain ⟨P,Q⟩:=E4 C R (Jx h i p a H ha) N
  exact ⟨v,u,by rw [Q];exact x,P⟩
 ·rename_i e ps e' as
  rw [aT,Al]at h
  obtain ⟨rfl,h⟩:=h
  obtain ⟨c,k,⟨h0,hs⟩,X,hc⟩:=g
  have hl:=Gd h
  refine ⟨c,k,⟨h0,by rw [hl];exact hs⟩,X,fun i p H=>?_⟩
  have hi:=(List.getElem?_eq_some_iff.1 H).1
  obtain ⟨a,ha⟩:∃a,as[i]?=some a:=⟨_,List.getElem?_eq_getElem (by omega)⟩
  obtain ⟨v,u,x,N⟩:=hc i a ha
  obtain ⟨P,Q⟩:=E4 C R (Jx h i p a H ha) N
  exact ⟨v,u,by rw [Q];exact x,P⟩
 ·rename_i i es j ai
  rw [aT,Bool.or_eq_true,Al,Al]at h
  obtain ⟨h,rfl⟩:=h
  obtain ⟨c,e,z,y,U,O,x5,M,J⟩:=g
  rcases h with rfl|h
  ·exact ⟨c,e,z,y,U,O,x5,M,by rw [R.Bb];exact J⟩
  ·obtain ⟨n,hn⟩:=MZ C.defs h
   refine ⟨c,e,z,y,?_,O,x5,M,?_⟩
   ·rw [hn,lT'];omega
   ·rw [R.Bb,hn]
    rw [B8]at J⊢
    refine ⟨fun ps ad=>J.1 ps (List.mem_of_mem_take ad),?_⟩
    have:=J.2
    rw [←List.take_append_drop n (ρ.lst j),List.flatten_append,AQ.append_iff]at this
    exact this.1
 ·have h:=Al.1 h
  subst h
  obtain ⟨D,ms,c,z,y⟩:=g
  exact ⟨D,ms,c,z,by rw [R.Bb];exact y⟩
 ·rename_i ps c as d
  rw [aT,Al]at h
  obtain ⟨rfl,h⟩:=h
  obtain ⟨D,ms,k,Z⟩:=g
  exact ⟨D,ms,k,LS C R h Z⟩
 ·rename_i i es ac
  obtain ⟨l,hl,x⟩:=Ac (FN.1 h)
  simp only [oI]at x
  obtain ⟨D,ms,k,Z⟩:=g
  exact ⟨D,ms,ac,k,by rw [R.Bb];exact TO x (C.CO _ (Np hl)) Z⟩
 ·rw [aT,Al]at h
  obtain ⟨u,rfl⟩:=h
  rw [ST.Bg u]
  exact g
 ·rename_i t e n e'
  rw [aT,Al]at h
  obtain ⟨u,rfl⟩:=h
  rw [ST.Bg u]
  obtain ⟨c,z,y,U,O,x5,M⟩:=g
  refine ⟨c,z,y,U,?_,?_,M⟩
  ·show (BN _:Int)≤Int.ofNat n
   simp only [Int.ofNat_eq_natCast];omega
  ·show Int.ofNat n≤1048576
   simp only [Int.ofNat_eq_natCast];omega
 ·rw [aT,Al,Al]at h
  obtain ⟨rfl,rfl⟩:=h
  exact g
 ·cases h
theorem NK {Γ:An} {h:Ak}:∀{l:List Block} {k:Nat},Zp Γ h σ l k=true→∀i B,l[i]?=some B→∃b A,Cm σ (k+i)=some b∧h.get b=some A∧NL Γ σ B A=true
 |[],_,_,i,vs,hv=>by simp at hv
 |W::r,k,hb,i,B,hv=>by
  have e:Zp Γ h σ (W::r) k=(eqB Γ h σ k W&&Zp Γ h σ r (k+1)):=rfl
  rw [e,aT]at hb
  cases i with
  |zero=>
   simp only [List.getElem?_cons_zero,oI]at hv
   subst hv
   have c:=hb.1
   unfold eqB at c
   split at c
   ·rename_i b d
    split at c
    ·rename_i A hg
     exact ⟨b,A,d,hg,c⟩
    ·cases c
   ·cases c
  |succ i=>
   obtain ⟨b,A,c,j,g⟩:=NK hb.2 i B (by simpa using hv)
   exact ⟨b,A,by rw [←c];congr 1;omega,j,g⟩
theorem K9:∀{l r:List Aa},AK σ l=some r→l.length=r.length∧∀(i:Nat) (a:Aa),r[i]?=some a→∃p,l[i]?=some p∧JT σ p=some a
 |[],r,h=>by
  have h:some []=some r:=h
  simp only [oI]at h
  subst h
  exact ⟨rfl,fun i a ha=>by simp at ha⟩
 |v::l,r,h=>by
  have h:(AB (JT σ v) fun u=>AB (AK σ l) fun us=>some (u::us))=some r:=h
  obtain ⟨u,d,h⟩:=Ac h
  obtain ⟨us,c,h⟩:=Ac h
  simp only [oI]at h
  subst h
  obtain ⟨g,j⟩:=K9 c
  refine ⟨by simp [g],fun i a ha=>?_⟩
  cases i with
  |zero=>
   simp only [List.getElem?_cons_zero,oI]at ha
   subst ha
   exact ⟨v,rfl,d⟩
  |succ i=>simpa using j i a (by simpa using ha)
theorem QL (R:Ren μ' μ σ):∀{l r:List Aa} {us:List Value},AK σ l=some r→Aw ρ μ' l us→Aw ρ μ r us
 |[],r,us,h,hr=>by
  have h:some []=some r:=h
  simp only [oI]at h
  subst h
  exact hr
 |v::l,r,us,h,hr=>by
  have h:(AB (JT σ v) fun u=>AB (AK σ l) fun us=>some (u::us))=some r:=h
  obtain ⟨u,d,h⟩:=Ac h
  obtain ⟨z,c,h⟩:=Ac h
  simp only [oI]at h
  subst h
  simp only [Aw]at hr⊢
  obtain ⟨x,rest,rfl,⟨j,o⟩,k⟩:=hr
  obtain ⟨g,y⟩:=Df (ρ:=ρ) R d (u:=x)
  exact ⟨x,rest,rfl,⟨by rw [y];exact j,g.2 o⟩,QL R c k⟩
theorem XE (R:Ren μ' μ σ):∀{l r:List Aa} {us:List Value},AK σ l=some r→A7 ρ μ' l us→A7 ρ μ r us
 |[],r,us,h,hr=>by
  have h:some []=some r:=h
  simp only [oI]at h
  subst h
  exact hr
 |v::l,r,us,h,hr=>by
  have h:(AB (JT σ v) fun u=>AB (AK σ l) fun us=>some (u::us))=some r:=h
  obtain ⟨u,d,h⟩:=Ac h
  obtain ⟨o,c,h⟩:=Ac h
  simp only [oI]at h
  subst h
  simp only [A7]at hr⊢
  obtain ⟨x,rest,rfl,k,j⟩:=hr
  obtain ⟨g,y⟩:=Df (ρ:=ρ) R d (u:=x)
  exact ⟨x,rest,rfl,g.2 k,XE R c j⟩
theorem Aba (R:Ren μ' μ σ) {p a:Aa} (h:Ae0 σ p=some a) {u:Value} (hv:Ag ρ μ' p u):Ag ρ μ a u:=by
 unfold Ae0 at h
 split at h
 ·obtain ⟨cs,c,e⟩:=Ac h
  simp only [oI]at e
  subst e
  obtain ⟨x,rfl,d⟩:=hv.agg
  simp only [Ag]
  exact ⟨x,rfl,QL R c d⟩
 ·exact (Df R h).1.2 hv
theorem Tb (R:Ren μ' μ σ):∀{l r:List Aa} {us:List Value},Abb σ l=some r→A7 ρ μ' l us→A7 ρ μ r us
 |[],r,us,h,hr=>by
  have h:some []=some r:=h
  simp only [oI]at h
  subst h
  exact hr
 |v::l,r,us,h,hr=>by
  have h:(AB (Ae0 σ v) fun u=>AB (Abb σ l) fun us=>some (u::us))=some r:=h
  obtain ⟨a,ha,j⟩:=Ac h
  obtain ⟨as,d,c⟩:=Ac j
  simp only [oI]at c
  subst c
  simp only [A7]at hr⊢
  obtain ⟨u,rest,rfl,g,k⟩:=hr
  exact ⟨u,rest,rfl,Aba R ha g,Tb R d k⟩
theorem Td (R:Ren μ' μ σ) {p a:Aa} (h:UW σ p=some a) {u:Value} (hv:Ag ρ μ' p u):Ag ρ μ a u:=by
 unfold UW at h
 split at h
 ·obtain ⟨cs,c,e⟩:=Ac h
  simp only [oI]at e
  subst e
  obtain ⟨x,rfl,d⟩:=hv.agg
  simp only [Ag]
  exact ⟨x,rfl,QL R c d⟩
 ·obtain ⟨cs,c,e⟩:=Ac h
  simp only [oI]at e
  subst e
  obtain ⟨x,rfl,d⟩:=hv.tuple
  simp only [Ag]
  exact ⟨x,rfl,Tb R c d⟩
 ·exact (Df R h).1.2 hv
theorem Px (R:Ren μ' μ σ):∀{l r:List Entry} {ms:List MapEntry},Abc σ l=some r→Ca ρ μ' l ms→Ca ρ μ r ms
 |[],r,ms,h,he=>by
  have h:some []=some r:=h
  simp only [oI]at h
  subst h
  exact he
 |e::l,r,ms,h,he=>by
  have h:(AB (JT σ e.key) fun k=>AB (JT σ e.val) fun v=>AB (Abc σ l) fun d=>some (⟨k,v,e.born⟩::d))=some r:=h
  obtain ⟨k,A,h⟩:=Ac h
  obtain ⟨v,hv,h⟩:=Ac h
  obtain ⟨d,c,h⟩:=Ac h
  simp only [oI]at h
  subst h
  obtain ⟨m,rest,rfl,⟨g,j,x,o⟩,C⟩:=he
  obtain ⟨z,y⟩:=Df (ρ:=ρ) R A (u:=m.key)
  exact ⟨m,rest,rfl,⟨by rw [y];exact g,z.2 j,(Df R hv).1.2 x,o⟩,Px R c C⟩
theorem Abf (R:Ren μ' μ σ) {B C:Block} (h:YM σ B=some C) {o:Option Obj} {δ:Nat×Nat} (hB:CM ρ μ' B o δ):CM ρ μ C o δ:=by
 unfold YM at h
 split at h
 ·rename_i vs
  obtain ⟨us,g,e⟩:=Ac h
  simp only [oI]at e
  subst e
  obtain ⟨P,A⟩:=K9 g
  obtain ⟨c,e,d,D,hc⟩:=hB
  refine ⟨c,e,d,D,fun i a ha=>?_⟩
  obtain ⟨p,M,O⟩:=A i a ha
  obtain ⟨v,y,k,j⟩:=hc i p M
  obtain ⟨N,x⟩:=Df (ρ:=ρ) R O (u:=v)
  exact ⟨v,y,by rw [x];exact k,N.2 j⟩
 ·rename_i t vs
  obtain ⟨us,g,e⟩:=Ac h
  simp only [oI]at e
  subst e
  obtain ⟨P,A⟩:=K9 g
  obtain ⟨c,d,⟨X,hs⟩,D,hc⟩:=hB
  refine ⟨c,d,⟨X,by rw [←P];exact hs⟩,D,fun i a ha=>?_⟩
  obtain ⟨p,M,O⟩:=A i a ha
  obtain ⟨v,y,k,j⟩:=hc i p M
  obtain ⟨N,x⟩:=Df (ρ:=ρ) R O (u:=v)
  exact ⟨v,y,by rw [x];exact k,N.2 j⟩
 ·simp only [oI]at h
  subst h
  obtain ⟨c,e,H,z,x3,U,x5,x6,Z⟩:=hB
  exact ⟨c,e,H,z,x3,U,x5,x6,by rw [←R.Bb];exact Z⟩
 ·simp only [oI]at h
  subst h
  obtain ⟨J,ms,c,H,z⟩:=hB
  exact ⟨J,ms,c,H,by rw [←R.Bb];exact z⟩
 ·simp only [oI]at h
  subst h
  exact hB
 ·simp only [oI]at h
  subst h
  exact hB
 ·obtain ⟨es,Q,e⟩:=Ac h
  simp only [oI]at e
  subst e
  obtain ⟨J,ms,d,he⟩:=hB
  exact ⟨J,ms,d,Px R Q he⟩
theorem Ve (B:Option Block) (r:List (Option Block)) (i:Nat) (h:Ak):P4 σ (B::r) i h=AB (Ae4 σ i B h) fun c=>P4 σ r (i+1) c:=rfl
theorem YP {i:Nat} {B:Option Block} {h g:Ak} (c:Ae4 σ i B h=some g):g.next=h.next∧g.fx=h.fx∧∃b,Cm σ i=some b∧∃C,(match B with|some B=>∃D,YM σ B=some D∧C=some D|none=>C=none)∧∀d,g.get d=if d=b then C else h.get d:=by
 unfold Ae4 at c
 obtain ⟨b,hb,c⟩:=Ac c
 cases B with
 |none=>
  simp only [oI]at c
  subst c
  exact ⟨rfl,rfl,b,hb,none,rfl,fun d=>Ak.Bk _ _ _ _⟩
 |some B=>
  obtain ⟨D,j,c⟩:=Ac c
  simp only [oI]at c
  subst c
  exact ⟨rfl,rfl,b,hb,some D,⟨D,j,rfl⟩,fun d=>Ak.Bk _ _ _ _⟩
theorem MX (J:σ.Nodup):∀{l:List (Option Block)} {i:Nat} {h c:Ak},P4 σ l i h=some c→c.next=h.next∧c.fx=h.fx∧(∀b,(∀j,j<l.length→Cm σ (i+j)≠some b)→c.get b=h.get b)∧
  ∀j B,l[j]?=some B→∃b,Cm σ (i+j)=some b∧(match B with|some B=>∃D,YM σ B=some D∧c.get b=some D|none=>c.get b=none)
 |[],i,h,c,g=>by
  have g:some h=some c:=g
  simp only [oI]at g
  subst g
  exact ⟨rfl,rfl,fun _ _=>rfl,fun j B hB=>by simp at hB⟩
 |B::r,i,h,c,g=>by
  rw [Ve]at g
  obtain ⟨Q,A,z⟩:=Ac g
  obtain ⟨n1,N,b,hb,C,H,g1⟩:=YP A
  obtain ⟨n2,P,g2,g3⟩:=MX J z
  refine ⟨n2.trans n1,P.trans N,fun d hd=>?_,fun j D x=>?_⟩
  ·have y:∀j,j<r.length→Cm σ (i+1+j)≠some d:=fun j M=>by
    rw [show i+1+j=i+(j+1) by omega];exact hd (j+1) (by simp;omega)
   have O:d≠b:=fun e=>by
    subst e;exact hd 0 (by simp) (by simpa using hb)
   rw [g2 d y,g1 d,if_neg O]
  ·cases j with
   |zero=>
    simp only [List.getElem?_cons_zero,oI]at x
    subst x
    have k:c.get b=C:=by
     have y:∀j,j<r.length→Cm σ (i+1+j)≠some b:=fun j M e=>by
      have:=Tu J hb e
      omega
     rw [g2 b y,g1 b,if_pos rfl]
    refine ⟨b,by simpa using hb,?_⟩
    cases B with
    |none=>exact k.trans H
    |some B=>obtain ⟨D,o,u⟩:=H;exact ⟨D,o,k.trans u⟩
   |succ j=>
    obtain ⟨d,o,u⟩:=g3 j D (by simpa using x)
    exact ⟨d,by rw [←o];congr 1;omega,u⟩
end
noncomputable def FX (μ:Ap) (σ:List Nat):Ap:=⟨fun i=>(Cm σ i).bind μ.spot,μ.Bb⟩
structure Fits (Γ:An) (h:Ak) (σ:List Nat) (pre:List Block) (n:Nat):Prop where
 len:σ.length=pre.length
 ple:pre.length≤n
 nodup:σ.Nodup
 bs:Zp Γ h σ pre 0=true
section
variable {ρ:Env} {μ:Ap} {Γ:An} {h:Ak} {w:World} {σ:List Nat} {pre:List Block} {post:List (Option Block)}
theorem Fits.lt (F:Fits Γ h σ pre post.length) (H:AH ρ μ h w):∀i b,Cm σ i=some b→i<pre.length∧b<h.next:=fun i b e=>by
 have c:=AeF e
 rw [F.len]at c
 obtain ⟨j,A,d,g,_⟩:=NK F.bs i _ (List.getElem?_eq_getElem c)
 rw [Nat.zero_add,e]at d
 simp only [oI]at d
 subst d
 exact ⟨c,H.FL g⟩
theorem Fits.Cc:Ren (FX μ σ) μ σ:=⟨fun i b e=>by show (Cm σ i).bind μ.spot=_;rw [e];rfl,rfl⟩
theorem Fits.get (F:Fits Γ h σ pre post.length):∀b B,(Be pre (empty 0)).get b=some B→∃c A,pre[b]?=some B∧Cm σ b=some c∧h.get c=some A∧NL Γ σ B A=true:=fun b B e=>by
 rw [C9]at e
 obtain ⟨c,A,d,g,j⟩:=NK F.bs b B e
 rw [Nat.zero_add]at d
 exact ⟨c,A,e,d,g,j⟩
theorem Fits.own (F:Fits Γ h σ pre post.length):∀r,AP (FX μ σ) (Be pre (empty 0)) r→∃i b B δ,Cm σ i=some b∧h.get b=some B∧μ b=some (r,δ):=fun r ⟨b,B,δ,hb,hm⟩=>by
 obtain ⟨c,A,_,d,g,_⟩:=F.get b B hb
 rw [Fits.Cc.spot b c d]at hm
 exact ⟨b,c,A,δ,d,g,hm⟩
theorem Fits.before (M:Γ.AG ρ) (F:Fits Γ h σ pre post.length) (H:AH ρ μ h w):AH ρ (FX μ σ) (Be pre (empty 0)) w:=by
 have u:∀r,AP (FX μ σ) (Be pre (empty 0)) r→AP μ h r:=fun r k=>by
  obtain ⟨i,b,B,δ,_,d,j⟩:=F.own r k
  exact ⟨b,B,δ,d,j⟩
 refine ⟨fun b hb=>?_,fun b B hb=>?_,fun b D B O r δ R hb C x z=>?_,⟨fun g o e=>⟨(H.AS.AS g o e).1,fun k=>(H.AS.AS g o e).2 (u g k)⟩,fun g o e=>⟨(H.AS.Bb g o e).1,fun k=>(H.AS.Bb g o e).2 (u g k)⟩,?_⟩⟩
 ·rw [Ce]at hb
  show (Cm σ b).bind μ.spot=none
  cases e:Cm σ b with
  |none=>rfl
  |some c=>have:=(F.lt H b c e).1;omega
 ·obtain ⟨c,A,_,d,j,Q⟩:=F.get b B hb
  obtain ⟨r,δ,x,P⟩:=H.blk c A j
  exact ⟨r,δ,by rw [Fits.Cc.spot b c d];exact x,Qb M Fits.Cc Q P⟩
 ·obtain ⟨c,A,_,d,j,_⟩:=F.get b B hb
  obtain ⟨N,U,_,y,J,_⟩:=F.get D O C
  rw [Fits.Cc.spot b c d]at x
  rw [Fits.Cc.spot D N y]at z
  have:=H.inj _ _ _ _ _ _ _ j J x z
  subst this
  exact Tu F.nodup d y
 ·rw [(Ci pre (empty 0)).2.1]
  exact An.AG.none ρ
theorem Fits.after (F:Fits Γ h σ pre post.length) (H:AH ρ μ h w) {h1:Ak} (ap:P4 (σ++LJ post pre.length h.next) post 0 ⟨h.DT,h.next+(post.length-pre.length),h.fx⟩=some h1) {μ':Ap} {w':World} (M:Av ρ (FX μ σ) (Be pre (empty 0)) w μ' (CD post (empty 0)) w'):
  ∃z,Av ρ μ h w z h1 w'∧Ren μ' z (σ++LJ post pre.length h.next):=by
 have ay:=F.len
 have aG:=F.ple
 have aA:=F.nodup
 have X:=F.lt H
 have own:=F.own (μ:=μ)
 have ao:∀r,AP (FX μ σ) (Be pre (empty 0)) r→AP μ h r:=fun r ho=>by
  obtain ⟨i,b,B,δ,_,g,d⟩:=own r ho
  exact ⟨b,B,δ,g,d⟩
 generalize hσ':σ++LJ post pre.length h.next=σ' at ap⊢
 have hσ'get:∀i b,Cm σ' i=some b↔(i<pre.length∧Cm σ i=some b)∨(pre.length≤i∧i<post.length∧b=h.next+(i-pre.length)):=fun i b=>by
  rw [←hσ',FK,FK]
  by_cases N:i<pre.length
  ·rw [List.getElem?_append_left (by omega)]
   constructor
   ·intro e;exact .inl ⟨N,e⟩
   ·rintro (⟨_,e⟩|⟨e,_⟩)
    ·exact e
    ·omega
  ·rw [List.getElem?_append_right (by omega),Gs,ay]
   constructor
   ·intro e
    split at e
    ·simp only [oI]at e
     exact .inr ⟨by omega,by omega,e.symm⟩
    ·cases e
   ·rintro (⟨e,_⟩|⟨O,e2,e3⟩)
    ·omega
    ·rw [if_pos (by omega),e3]
 have ax:σ'.Nodup:=by
  rw [←hσ',List.nodup_append]
  refine ⟨aA,?_,fun a ha b hb e=>?_⟩
  ·rw [List.nodup_iff_pairwise_ne,List.pairwise_iff_getElem]
   intro i j N hj aI e
   have O:=List.getElem?_eq_getElem N
   have e2:=List.getElem?_eq_getElem hj
   rw [Gs]at O e2
   split at O<;>split at e2<;>simp at O e2
   omega
  ·subst e
   obtain ⟨i,N⟩:=List.mem_iff_getElem?.1 ha
   obtain ⟨j,hj⟩:=List.mem_iff_getElem?.1 hb
   rw [Gs]at hj
   split at hj
   ·simp only [oI]at hj
    have:=(X i a (by rw [FK];exact N)).2
    omega
   ·cases hj
 obtain ⟨n1,f1,g1,g2⟩:=MX ax ap
 have n1:h1.next=h.next+(post.length-pre.length):=n1
 let z:Ap:=⟨fun b=>if h.next≤b∧b<h.next+(post.length-pre.length)then μ' (pre.length+(b-h.next))else μ b,μ'.Bb⟩
 have u:∀b,b<h.next→z b=μ b:=fun b hb=>by
  show (if _ then _ else _)=_
  rw [if_neg (by omega)]
 have R1:Ren μ' z σ':=⟨fun i b e=>by
  rcases (hσ'get i b).1 e with ⟨N,e⟩|⟨hi1,hi2,rfl⟩
  ·rw [u b (X i b e).2,M.old i (by rw [Ce];exact N)]
   exact Fits.Cc.spot i b e
  ·show _=(if _ then _ else _)
   rw [if_pos (by omega)]
   congr 1;omega,rfl⟩
 have av:μ.le z:=⟨fun b y e=>by
  have hb:b<h.next:=by
   rcases Nat.lt_or_ge b h.next with hb|hb
   ·exact hb
   ·rw [H.fresh b hb]at e;cases e
  rw [u b hb];exact e,fun k o e=>M.le.Bb k o e⟩
 have af:∀b B,h1.get b=some B→(∃i Q,Cm σ' i=some b∧(CD post (empty 0)).get i=some Q∧YM σ' Q=some B)∨((∀i,Cm σ i≠some b)∧h.get b=some B):=fun b B hb=>by
  by_cases hex:∃i,Cm σ' i=some b
  ·obtain ⟨i,N⟩:=hex
   left
   have au:i<post.length:=by
    rcases (hσ'get i b).1 N with ⟨q,_⟩|⟨_,q,_⟩
    ·omega
    ·exact q
   obtain ⟨b',g,d⟩:=g2 i _ (List.getElem?_eq_getElem au)
   rw [Nat.zero_add,N]at g
   simp only [oI]at g
   subst g
   cases Z:post[i]with
   |none=>rw [Z]at d;simp only at d;rw [hb]at d;cases d
   |some Q=>
    rw [Z]at d
    obtain ⟨D,A,k4⟩:=d
    rw [hb]at k4
    simp only [oI]at k4
    subst k4
    refine ⟨i,Q,N,?_,A⟩
    rw [DC,List.getElem?_eq_getElem au,Z];rfl
  ·right
   have R:∀i,Cm σ' i≠some b:=fun i e=>hex ⟨i,e⟩
   refine ⟨fun i e=>R i ((hσ'get i b).2 (.inl ⟨(X i b e).1,e⟩)),?_⟩
   have:=g1 b fun j _=>by rw [Nat.zero_add];exact R j
   rw [this]at hb
   exact hb
 have ag:∀r,AP μ' (CD post (empty 0)) r→∀b B δ,(∀i,Cm σ i≠some b)→h.get b=some B→μ b=some (r,δ)→False:=fun r ho b B δ R hb x=>by
  have aD:=H.lt hb x
  refine (M.kept r aD fun Z=>?_).2 ho
  obtain ⟨i,c,C,δ',g,d,A⟩:=own r Z
  have:=H.inj _ _ _ _ _ _ _ hb d x A
  subst this
  exact R i g
 have am:∀r,AP z h1 r→AP μ' (CD post (empty 0)) r∨∃b B δ,(∀i,Cm σ i≠some b)∧h.get b=some B∧μ b=some (r,δ):=fun r ⟨b,B,δ,hb,x⟩=>by
  rcases af b B hb with ⟨i,Q,g,d,A⟩|⟨g,d⟩
  ·left
   rw [←R1.spot i b g]at x
   exact ⟨i,Q,δ,d,x⟩
  ·right
   rw [u b (H.FL d)]at x
   exact ⟨b,B,δ,g,d,x⟩
 have ah:∀r,r<w.heap.size→¬AP μ h r→w'.heap[r]?=w.heap[r]?∧¬AP z h1 r:=fun r hr ho=>by
  obtain ⟨P,U⟩:=M.kept r hr fun Z=>ho (ao r Z)
  refine ⟨P,fun hq=>?_⟩
  rcases am r hq with hq|⟨b,B,δ,_,d,A⟩
  ·exact U hq
  ·exact ho ⟨b,B,δ,d,A⟩
 have aq:∀k o,μ'.Bb k=some o→μ.Bb k=some o∨AP (FX μ σ) (Be pre (empty 0)) k∨w.heap.size≤k:=M.icy
 have H1:AH ρ z h1 w':=by
  refine ⟨fun b hb=>?_,fun b B hb=>?_,fun b b' B B' r δ δ' hb aB x J=>?_,⟨fun k o hk=>?_,fun k o hk=>?_,?_⟩⟩
  ·rw [n1]at hb
   show (if _ then _ else _)=none
   rw [if_neg (by omega)]
   exact H.fresh b (by omega)
  ·rcases af b B hb with ⟨i,Q,g,d,A⟩|⟨g,d⟩
   ·obtain ⟨r,δ,O,e2⟩:=M.rel.blk i Q d
    exact ⟨r,δ,by rw [←R1.spot i b g];exact O,Abf R1 A e2⟩
   ·obtain ⟨r,δ,O,e2⟩:=H.blk b B d
    refine ⟨r,δ,by rw [u b (H.FL d)];exact O,?_⟩
    have R:¬AP (FX μ σ) (Be pre (empty 0)) r:=fun Z=>by
     obtain ⟨i,c,C,δ',P,U,q3⟩:=own r Z
     have:=H.inj _ _ _ _ _ _ _ d U O q3
     subst this
     exact g i P
    rw [(M.kept r (H.lt d O) R).1]
    exact e2.mono av
  ·rcases af b B hb with ⟨i,Q,g,d,A⟩|⟨g,d⟩<;>rcases af b' B' aB with ⟨i',Bp',k1',k2',k3'⟩|⟨k1',k2'⟩
   ·rw [←R1.spot i b g]at x
    rw [←R1.spot i' b' k1']at J
    have:=M.rel.inj _ _ _ _ _ _ _ d k2' x J
    subst this
    rw [g]at k1'
    simpa using k1'
   ·rw [←R1.spot i b g]at x
    rw [u b' (H.FL k2')]at J
    exact (ag r ⟨i,Q,δ,d,x⟩ b' B' δ' k1' k2' J).elim
   ·rw [←R1.spot i' b' k1']at J
    rw [u b (H.FL d)]at x
    exact (ag r ⟨i',Bp',δ',k2',J⟩ b B δ g d x).elim
   ·rw [u b (H.FL d)]at x
    rw [u b' (H.FL k2')]at J
    exact H.inj _ _ _ _ _ _ _ d k2' x J
  ·obtain ⟨P,U⟩:=H.AS.AS k o hk
   obtain ⟨q3,q4⟩:=ah k (Array.getElem?_eq_some_iff.1 P).1 U
   exact ⟨q3.trans P,q4⟩
  ·obtain ⟨P,U⟩:=M.rel.AS.Bb k o hk
   refine ⟨P,fun hq=>?_⟩
   rcases am k hq with hq|⟨b,B,δ,g,d,A⟩
   ·exact U hq
   ·rcases aq k o hk with i1|i1|i1
    ·exact (H.AS.Bb k o i1).2 ⟨b,B,δ,d,A⟩
    ·obtain ⟨i,c,C,δ',P,U,q3⟩:=own k i1
     have:=H.inj _ _ _ _ _ _ _ d U A q3
     subst this
     exact g i P
    ·have:=H.lt d A;omega
  ·rw [f1];exact H.AS.facts
 refine ⟨z,⟨av,H1,M.size,ah,M.os,M.output,by rw [n1];omega,u,fun k o hk=>?_,f1⟩,R1⟩
 ·rcases aq k o hk with i1|i1|i1
  ·exact .inl i1
  ·exact .inr (.inl (ao k i1))
  ·exact .inr (.inr i1)
end
end Go.AM
end
section
namespace Go.AM
section
variable {P:Program} {Γ:An} {ρ:Env} {pl:List C5} {nt:Nat} {call:C3} {fuel:Nat}
theorem RL (d:Bool) (l:List Step) (k:Nat) (f:Fr):FT Γ call fuel (.region d l) k f=QM Γ call d l f:=rfl
theorem Zn (a b:IC) (k:Nat) (f:Fr):FT Γ call fuel (.seq a b) k f=AB (FT Γ call fuel a k f) fun r=>andThen r fun c=>FT Γ call fuel b k c:=rfl
theorem NF (c:CB) (a b:IC) (k:Nat) (f:Fr):FT Γ call fuel (.cond c a b) k f=AcC (ev f.tm c) (FT Γ call fuel a k f) (FT Γ call fuel b k f):=rfl
theorem TI (id:Nat) (b:IC) (k:Nat) (f:Fr):FT Γ call fuel (.block id b) k f=AB (FT Γ call fuel b id f) fun r=>some (GL id r):=rfl
theorem VX (b:IC) (k:Nat) (f:Fr):FT Γ call fuel (.loop b) k f=iter (fun f=>IV Γ k f Γ.loops) (fun f=>FT Γ call fuel b k f) fuel f:=rfl
def Dr:Nat→Code→List (Nat×Code)
 |k,.seq a b=>Dr k a++Dr k b
 |k,.cond _ a b=>Dr k a++Dr k b
 |_,.block id b=>Dr id b
 |k,.loop b=>(k,b)::Dr k b
 |_,_=>[]
def BE.PY (k:BE):Exit:=bif k.out then .ret else .exit k.id
theorem BE.Acs (k:BE) {ρ:Env} {μ:Ap}:Adr ρ μ k.NC k.PY:=by
 unfold BE.NC BE.PY
 cases k.out<;>exact rfl
theorem BE.AeQ {k:BE} {ρ:Env} {μ:Ap} {e:Exit} (h:Adr ρ μ k.NC e):e=k.PY:=by
 unfold BE.NC at h
 unfold BE.PY
 cases hk:k.out<;>rw [hk]at h<;>exact h
def Eh (P:Program) (ρ:Env) (nt:Nat) (x:Code) (k:BE):Prop:=
 ∃n,∀μ a w (Q:Exit→Act→World→Prop),CX ρ μ nt ⟨OW k.Y7 .nil,Be k.pre (empty 0),k.df⟩ a w→
  (∀d c w',CX ρ d nt ⟨OW k.Oz .nil,CD k.post (empty 0),k.df⟩ c w'→Av ρ μ (Be k.pre (empty 0)) w d (CD k.post (empty 0)) w'→Q k.PY c w')→Code.rounds P x Q n a w
def DH (P:Program) (ρ:Env) (nt:Nat) (l:List BE) (cur:Nat) (c:Code):Prop:=∀y∈Dr cur c,∀k∈l,k.id=y.1→Eh P ρ nt y.2 k
theorem DH.none {P:Program} {ρ:Env} {nt cur:Nat} {c:Code}:DH P ρ nt [] cur c:=fun _ _ k d=>by cases d
theorem Qp:∀(l:List (Nat×Aa)) (t:Tr Aa) (n:Nat) (v:Aa),(OW l t).get n=some v→(n,v)∈l∨t.get n=some v
 |[],t,n,v,e=>.inr e
 |x::l,t,n,v,e=>by
  have e:(OW l (t.set x.1 (some x.2))).get n=some v:=e
  rcases Qp l _ n v e with k|k
  ·exact .inl (List.mem_cons_of_mem _ k)
  ·rw [Tr.Bk]at k
   split at k
   ·rename_i hb
    simp only [oI]at k
    subst k
    rw [hb]
    exact .inl (List.mem_cons_self)
   ·exact .inr k
theorem Lf {σ:List Nat} {t:Tr Aa}:∀{l:List (Nat×Aa)},Ye Γ σ t l=true→∀i v,(i,v)∈l→NM Γ σ v (EF (t.get i))=true
 |[],_,b,B,hm=>by simp at hm
 |x::l,hf,b,B,hm=>by
  have hf:(NM Γ σ x.2 (EF (t.get x.1))&&Ye Γ σ t l)=true:=hf
  rw [aT]at hf
  rcases List.mem_cons.1 hm with e|hm
  ·subst e
   exact hf.1
  ·exact Lf hf.2 b B hm
theorem MR {σ:List Nat}:∀{l:List (Nat×Aa)} {t t' u:Tr Aa},UU σ l t=some t'→(∀n v,t.get n=some v→∃p,u.get n=some p∧UW σ p=some v)→∀n v,t'.get n=some v→∃p,(OW l u).get n=some p∧UW σ p=some v
 |[],t,t',u,h,ht,n,v,e=>by
  have h:some t=some t':=h
  simp only [oI]at h
  subst h
  exact ht n v e
 |x::l,t,t',u,h,ht,n,v,e=>by
  have h:(AB (UW σ x.2) fun v=>UU σ l (Tr.set t x.1 (some v)))=some t':=h
  obtain ⟨y,g,h⟩:=Ac h
  refine MR (u:=u.set x.1 (some x.2)) h (fun m z c=>?_) n v e
  rw [Tr.Bk]at c
  by_cases hm:m=x.1
  ·rw [if_pos hm]at c
   simp only [oI]at c
   subst c
   exact ⟨x.2,by rw [Tr.Bk,if_pos hm],g⟩
  ·rw [if_neg hm]at c
   obtain ⟨p,d,j⟩:=ht m z c
   exact ⟨p,by rw [Tr.Bk,if_neg hm];exact d,j⟩
theorem TP {μ d:Ap} {σ:List Nat} (j:Γ.AG ρ) (R:Ren d μ σ) {p q:List (FuncId×List Aa)} (h:AeR Γ σ p q=true) {ds:List Deferred} (hd:CL ρ μ q ds):CL ρ d p ds:=by
 unfold AeR at h
 split at h
 ·exact hd
 ·rw [aT]at h
  obtain ⟨c,rest,k,⟨cap,g,o⟩,u⟩:=hd
  exact ⟨c,rest,k,⟨cap,by rw [g,Al.1 h.1],GS j R h.2 o⟩,u⟩
 ·cases h
theorem YL {μ d:Ap} {σ:List Nat} (R:Ren d μ σ) {p q:List (FuncId×List Aa)} (h:Abd σ p=some q) {ds:List Deferred} (hd:CL ρ d p ds):CL ρ μ q ds:=by
 unfold Abd at h
 split at h
 ·simp only [oI]at h
  subst h
  exact hd
 ·obtain ⟨l,hl,h⟩:=Ac h
  simp only [oI]at h
  subst h
  obtain ⟨c,rest,j,⟨cap,g,k⟩,o⟩:=hd
  exact ⟨c,rest,j,⟨cap,g,XE R hl k⟩,o⟩
 ·cases h
theorem O8 {x:Code} {k:BE} (D:Eh P ρ nt x k) {f:Fr} {r:Bi×Fr} (c:Mv Γ k f=some r) (J:Γ.AG ρ):
  ∃n,∀{μ:Ap} {a:Act} {w:World} {Q:Exit→Act→World→Prop},CX ρ μ nt f a w→D6 ρ nt μ f.h w Q r→Code.rounds P x Q n a w:=by
 obtain ⟨n,D⟩:=D
 refine ⟨n,fun {μ a w Q} F L=>?_⟩
 unfold Mv at c
 obtain ⟨j,c⟩:=Ao c
 generalize Sq f.h k.pre 0 (ZI k.df f.df (Uu f.tm k.Y7 []))=σ at j c
 unfold AgE at j
 rw [aT,aT,aT,aT,aT]at j
 obtain ⟨X,g,d,R,M,U⟩:=j
 have g:=Al.1 g
 rw [Dq,Fj]at g
 have d:=AR.1 d
 rw [Fj,GI]at d
 unfold AcN at c
 obtain ⟨h1,o,c⟩:=Ac c
 obtain ⟨tm,z,c⟩:=Ac c
 obtain ⟨df,A,c⟩:=Ac c
 simp only [oI]at c
 subst c
 rw [Fj]at o z A
 rw [GI]at o
 have H:=F.heap
 have O:Fits Γ f.h σ k.pre k.post.length:=⟨g,d,Fz R,U⟩
 refine D (FX μ σ) a w Q ⟨fun t=>?_,F.size,Fits.before J O H,TP J Fits.Cc X F.defs⟩ fun μ' a' w' N g'=>?_
 ·show Ag ρ (FX μ σ) (EF ((OW k.Y7 .nil).get t)) _
  cases hg:(OW k.Y7 .nil).get t with
  |none=>trivial
  |some v=>
   rcases Qp _ _ _ _ hg with q|q
   ·exact Ll J Fits.Cc (Lf M t v q) (F.tmps t)
   ·cases q
 ·obtain ⟨y,C,Z⟩:=O.after H o g'
  refine L y a' w' k.PY ⟨fun t=>?_,N.size,C.rel,?_⟩ C k.Acs
  ·show Ag ρ y (EF (tm.get t)) _
   cases hg:tm.get t with
   |none=>trivial
   |some v=>
    obtain ⟨p,k1,k2⟩:=MR (u:=.nil) z (fun n v e=>by cases e) t v hg
    have:=N.tmps t
    rw [k1]at this
    exact Td Z k2 this
  ·exact YL Z A N.defs
theorem LM {x:Code} {cur:Nat} {f:Fr} {r:Bi×Fr} (d:Γ.AG ρ):∀{l:List BE},(∀k∈l,k.id=cur→Eh P ρ nt x k)→IV Γ cur f l=some r→
  ∃n,∀{μ:Ap} {a:Act} {w:World} {Q:Exit→Act→World→Prop},CX ρ μ nt f a w→D6 ρ nt μ f.h w Q r→Code.rounds P x Q n a w
 |[],_,h=>by cases h
 |k::l,hl,h=>by
  have h:(bif Nat.beq k.id cur then (match Mv Γ k f with|some x=>some x|none=>IV Γ cur f l)else IV Γ cur f l)=some r:=h
  have rest:IV Γ cur f l=some r→∃n,∀{μ:Ap} {a:Act} {w:World} {Q:Exit→Act→World→Prop},CX ρ μ nt f a w→D6 ρ nt μ f.h w Q r→Code.rounds P x Q n a w:=LM d fun y c=>hl y (List.mem_cons_of_mem _ c)
  rw [AI]at h
  split at h
  ·rename_i e
   split at h
   ·rename_i y c
    simp only [oI]at h
    subst h
    exact O8 (hl k List.mem_cons_self e) c d
   ·exact rest h
  ·exact rest h
theorem Jq {μ:Ap} {h:Ak} {w:World} {A r:Bi×Fr} {k:Fr→Option (Bi×Fr)} (c:andThen A k=some r) {K:Act→World→Prop} {Q:Exit→Act→World→Prop} (L:D6 ρ nt μ h w Q r)
  (C:∀j,A=(.normal,j)→k j=some r→∀y o w',CX ρ y nt j o w'→Av ρ μ h w y j.h w'→K o w'):D6 ρ nt μ h w (Exit.then K Q) A:=by
 intro y o w' e F g d
 obtain ⟨x,j⟩:=A
 cases x with
 |normal=>
  have d:e=.normal:=d
  subst d
  exact C j rfl c y o w' F g
 |exit i=>
  have c:some (Bi.exit i,j)=some r:=c
  simp only [oI]at c
  subst c
  have z:=L y o w' e F g d
  have d:e=.exit i:=d
  subst d
  exact z
 |ret=>
  have c:some (Bi.ret,j)=some r:=c
  simp only [oI]at c
  subst c
  have z:=L y o w' e F g d
  have d:e=.ret:=d
  subst d
  exact z
 |panic v=>
  have c:some (Bi.panic v,j)=some r:=c
  simp only [oI]at c
  subst c
  have z:=L y o w' e F g d
  obtain ⟨u,rfl,_⟩:=d
  exact z
theorem T1 {μ:Ap} {h:Ak} {w:World} {id:Nat} {r:Bi×Fr} {Q:Exit→Act→World→Prop} (L:D6 ρ nt μ h w Q (GL id r)):D6 ρ nt μ h w (Exit.inBlock id Q) r:=by
 intro j d w' e F g c
 obtain ⟨x,o⟩:=r
 cases x with
 |normal=>
  have k:=L j d w' e F g c
  have c:e=.normal:=c
  subst c
  exact k
 |ret=>
  have k:=L j d w' e F g c
  have c:e=.ret:=c
  subst c
  exact k
 |panic v=>
  have k:=L j d w' e F g c
  obtain ⟨u,rfl,_⟩:=c
  exact k
 |exit i=>
  have c:e=.exit i:=c
  subst c
  unfold GL at L
  simp only at L
  show if i=id then Q .normal d w' else Q (.exit i) d w'
  rw [AI]at L
  by_cases hi:i=id
  ·rw [if_pos hi]at L
   rw [if_pos hi]
   exact L j d w' .normal F g rfl
  ·rw [if_neg hi]at L
   rw [if_neg hi]
   exact L j d w' (.exit i) F g rfl
theorem Fu {x:Code} {cur:Nat} {body:Fr→Option (Bi×Fr)} (u:Γ.AG ρ) (o:∀k∈Γ.loops,k.id=cur→Eh P ρ nt x k)
  (hb:∀{μ:Ap} {f:Fr} {a:Act} {w:World} {r:Bi×Fr} {Q:Exit→Act→World→Prop},body f=some r→CX ρ μ nt f a w→D6 ρ nt μ f.h w Q r→x.wp P Q a w):
  ∀(n:Nat) {f:Fr} {r:Bi×Fr},iter (fun f=>IV Γ cur f Γ.loops) body n f=some r→∃m,∀{μ:Ap} {a:Act} {w:World} {Q:Exit→Act→World→Prop},CX ρ μ nt f a w→D6 ρ nt μ f.h w Q r→Code.rounds P x Q m a w
 |0,f,r,c=>by cases c
 |n+1,f,r,c=>by
  have c:(match IV Γ cur f Γ.loops with
   |some r=>some r
   |none=>AB (body f) fun r=>andThen r fun j=>iter (fun f=>IV Γ cur f Γ.loops) body n j)=some r:=c
  split at c
  ·rename_i y A
   simp only [oI]at c
   subst c
   exact LM u o A
  ·obtain ⟨C,d,c⟩:=Ac c
   obtain ⟨D,M⟩:=C
   cases D with
   |normal=>
    obtain ⟨m,H⟩:=Fu u o hb n c
    refine ⟨m+1,fun {μ a w Q} F L=>?_⟩
    rw [rounds_succ]
    refine hb d F (Jq c L fun j e z O N w' J g=>?_)
    simp only [Prod.mk.injEq,true_and]at e
    subst e
    exact H J (L.grow g)
   |_=>
    refine ⟨1,fun {μ a w Q} F L=>?_⟩
    rw [rounds_succ]
    exact hb d F (Jq c L fun j e z=>by simp at e)
theorem Ib (M:Γ.AG ρ) (hc:BH P ρ call) (Z:P.follows .mixedOrders=true):∀(c:Code) {cur:Nat} (_:DH P ρ nt Γ.loops cur c) {A:IC} {μ:Ap} {f:Fr} {a:Act} {w:World} {r:Bi×Fr} {Q:Exit→Act→World→Prop},
  AY P pl nt c=some A→FT Γ call fuel A cur f=some r→CX ρ μ nt f a w→D6 ρ nt μ f.h w Q r→c.wp P Q a w:=by
 intro c
 induction c with
 |skip=>
  intro cur u A μ f a w r Q d o F L
  simp only [AY,oI]at d
  subst d
  have o:some (Bi.normal,f)=some r:=o
  simp only [oI]at o
  subst o
  exact wp_skip (L μ a w .normal F (Av.refl F.heap) rfl)
 |exit id=>
  intro cur u A μ f a w r Q d o F L
  simp only [AY,oI]at d
  subst d
  have o:some (Bi.exit id,f)=some r:=o
  simp only [oI]at o
  subst o
  exact wp_exit (L μ a w (.exit id) F (Av.refl F.heap) rfl)
 |ret=>
  intro cur u A μ f a w r Q d o F L
  simp only [AY,oI]at d
  subst d
  have o:some (Bi.ret,f)=some r:=o
  simp only [oI]at o
  subst o
  exact wp_ret (L μ a w .ret F (Av.refl F.heap) rfl)
 |region id ops draw=>
  intro cur u A μ f a w r Q d o F L
  simp only [AY]at d
  obtain ⟨N,hs,e⟩:=mS d
  subst e
  rw [RL]at o
  unfold QM at o
  obtain ⟨x,O,e⟩:=Ac o
  simp only [oI]at e
  subst e
  clear o
  have L:=QG M L
  cases draw with
  |true=>
   simp only [GW,if_true]at hs
   exact Wc M hc Z hs O F L
  |false=>
   simp only [GW,Bool.false_eq_true,if_false]at hs
   refine wp_region ?_
   rw [List.range_eq_range',←Array.length_toList]
   exact Pq M hc ops.toList N 0 (fun j=>by simp) hs O F L
 |seq x y ihx ihy=>
  intro cur u A μ f a w r Q d o F L
  simp only [AY]at d
  split at d
  ·rename_i U i2 D R
   simp only [oI]at d
   subst d
   rw [Zn]at o
   obtain ⟨r1,C,o⟩:=Ac o
   have J:DH P ρ nt Γ.loops cur x:=fun y H=>u y (List.mem_append_left _ H)
   have ab:DH P ρ nt Γ.loops cur y:=fun z hz=>u z (List.mem_append_right _ hz)
   exact wp_seq (ihx J D C F (Jq o L fun f' _ X μ' a' w' F' g=>ihy ab R X F' (L.grow g)))
  ·cases d
 |cond c x y ihx ihy=>
  intro cur u A μ f a w r Q d o F L
  simp only [AY]at d
  split at d
  ·rename_i U i2 D R
   simp only [oI]at d
   subst d
   rw [NF]at o
   have hv:=Aq F.tmps c
   unfold AcC at o
   split at o
   ·rename_i b e1
    rw [e1]at hv
    have hv:=Ag.bool hv
    simp only [SB.den]at hv
    refine wp_cond hv ?_
    cases b with
    |true=>exact ihx (fun y H=>u y (List.mem_append_left _ H)) D o F L
    |false=>exact ihy (fun y H=>u y (List.mem_append_right _ H)) R o F L
   ·cases o
  ·cases d
 |block id x ih=>
  intro cur u A μ f a w r Q d o F L
  simp only [AY]at d
  obtain ⟨U,D,e⟩:=mS d
  subst e
  rw [TI]at o
  obtain ⟨r1,C,o⟩:=Ac o
  simp only [oI]at o
  subst o
  exact wp_block (ih u D C F (T1 L))
 |loop x ih=>
  intro cur u A μ f a w r Q d o F L
  simp only [AY]at d
  obtain ⟨U,D,e⟩:=mS d
  subst e
  rw [VX]at o
  have J:DH P ρ nt Γ.loops cur x:=fun y H=>u y (List.mem_cons_of_mem _ H)
  have aa:∀k∈Γ.loops,k.id=cur→Eh P ρ nt x k:=fun k X e=>u (cur,x) List.mem_cons_self k X e
  obtain ⟨m,key⟩:=Fu M aa (fun C F L=>ih J D C F L) fuel o
  exact wp_loop_rounds m (key F L)
 |refuse why=>
  intro cur u A μ f a w r Q d o F L
  simp only [AY,oI]at d
  subst d
  rw [NF]at o
  cases o
 |_=>
  intro cur u A μ f a w r Q d
  simp [AY]at d
theorem ND (j:Γ.AG ρ) (u:Γ.loops=[]) (hc:BH P ρ call) (d:P.follows .mixedOrders=true) (c:Code) {g:IC} {μ:Ap} {f:Fr} {a:Act} {w:World} {r:Bi×Fr} {Q:Exit→Act→World→Prop} (k:AY P pl nt c=some g) (o:exec Γ call fuel g f=some r) (F:CX ρ μ nt f a w) (L:D6 ρ nt μ f.h w Q r):c.wp P Q a w:=
 Ib j hc d c (cur:=0) (by rw [u];exact DH.none) k o F L
end
end Go.AM
end
section
namespace Go.AM
section
variable {P:Program} {Γ:An} {ρ:Env} {μ:Ap} {tm:Tr Aa} {a:Act} {w:World} {h:Ak} {pl:List C5} {call:C3} {fuel:Nat}
theorem Og:∀(l:List Aa) (i:Nat) (t:Tr Aa) (n:Nat),(Oh l i t).get n=if i≤n∧n<i+l.length then l[n-i]? else t.get n
 |[],i,t,n=>by
  show t.get n=_
  rw [if_neg (by simp)]
 |v::r,i,t,n=>by
  have e:Oh (v::r) i t=Oh r (i+1) (t.set i (some v)):=rfl
  rw [e,Og r,Tr.Bk]
  simp only [lC]
  by_cases h1:i+1≤n∧n<i+1+r.length
  ·rw [if_pos h1,if_pos (by omega)]
   rw [show n-i=(n-(i+1))+1 from by omega,List.getElem?_cons_succ]
  ·rw [if_neg h1]
   by_cases h2:n=i
   ·subst h2
    rw [if_pos rfl,if_pos (by omega)]
    simp
   ·rw [if_neg h2,if_neg (by omega)]
theorem AcM {F:EN} {args:List Aa} {c:Array Value} (hv:A7 ρ μ args c.toList) (k:Nat):Ba ρ μ (HF F args h).tm {tmps:=c++Array.replicate k undef,defers:=[]}:=by
 intro t
 show Ag ρ μ (EF ((Oh args 0 (Tr.full Aa F.depth)).get t)) _
 rw [Og]
 split
 ·rename_i j
  rw [Nat.sub_zero,List.getElem?_eq_getElem (by omega)]
  obtain ⟨v,d,g⟩:=hv.get (List.getElem?_eq_getElem (show t<args.length from by omega))
  have hs:t<c.size:=by
   have:=(List.getElem?_eq_some_iff.1 d).1
   simpa using this
  have:(c++Array.replicate k undef).getD t undef=v:=by
   rw [Array.getD_eq_getD_getElem?,Array.getElem?_append_left hs]
   rw [Array.getElem?_toList]at d
   rw [d];rfl
  simp only [this]
  exact g
 ·rw [Tr.Kg]
  trivial
theorem YK (x:Sl) (r:List Sl):AaX tm h (x::r)=AB (QK tm h x) fun v=>AB (AaX tm h r) fun vs=>some (v::vs):=rfl
def JP (tmps:Array Value):ResultVar→Sem Value
 |.tmp t=>pure (tmps.getD t undef)
 |.cell a t=>do loadVar t (←asAddr (tmps.getD a undef))
theorem QJ (H:AH ρ μ h w) (A:Ba ρ μ tm a) {x:ResultVar} {i:Sl} (hc:GV P x=some i) {v:Aa} (hv:QK tm h i=some v):∃u,(JP a.tmps x).run P w=.ok u w∧Ag ρ μ v u:=by
 cases x with
 |tmp t=>
  simp only [GV,oI]at hc
  subst hc
  simp only [QK,oI]at hv
  subst hv
  exact ⟨_,rfl,A t⟩
 |cell b t=>
  obtain ⟨n,C,e⟩:=mS hc
  subst e
  have hv:Nr h.fx h n (EF (tm.get b))=some v:=hv
  obtain ⟨u,g,z⟩:=Nq H.AS.facts H C (A b) hv
  have k:=A b
  unfold Nr at hv
  split at hv
  ·rename_i D J j y o
   rw [o]at k
   obtain ⟨r,m,_,d,_⟩:=k.vptr
   refine ⟨u,?_,z⟩
   rw [d]at g
   show (do loadVar t (←asAddr (a.tmps.getD b undef)):Sem Value).run P w=_
   rw [d]
   exact g
  ·rename_i c j y o
   rw [o]at k
   obtain ⟨r,δ,_,_,_,d,_⟩:=k.lptr
   refine ⟨u,?_,z⟩
   rw [d]at g
   show (do loadVar t (←asAddr (a.tmps.getD b undef)):Sem Value).run P w=_
   rw [d]
   exact g
  ·rename_i c y o
   rw [o]at k
   obtain ⟨r,δ,m,_,d⟩:=k.ptr
   refine ⟨u,?_,z⟩
   rw [d]at g
   show (do loadVar t (←asAddr (a.tmps.getD b undef)):Sem Value).run P w=_
   rw [d]
   exact g
  ·cases hv
theorem MQ (H:AH ρ μ h w) (g:Ba ρ μ tm a):∀{l:List ResultVar} {is:List Sl} {vs:List Aa},BD (l.map (GV P))=some is→AaX tm h is=some vs→∃us:List Value,(l.mapM (JP a.tmps)).run P w=.ok us w∧A7 ρ μ vs us
 |[],is,vs,hc,hv=>by
  simp only [List.map_nil,BD,oI]at hc
  subst hc
  have hv:some []=some vs:=hv
  simp only [oI]at hv
  subst hv
  exact ⟨[],by simp,by simp only [A7]⟩
 |x::l,is,vs,hc,hv=>by
  have c:=Dx hc
  cases is with
  |nil=>simp at c
  |cons i is=>
   simp only [List.map_cons,List.cons.injEq]at c
   obtain ⟨y,d⟩:=c
   have k:BD (l.map (GV P))=some is:=by
    rw [d]
    clear d hc hv
    induction is with
    |nil=>rfl
    |cons x r ih=>simp only [List.map_cons,BD,ih,Option.map_some]
   rw [YK]at hv
   obtain ⟨v,o,hv⟩:=Ac hv
   obtain ⟨J,j,hv⟩:=Ac hv
   simp only [oI]at hv
   subst hv
   obtain ⟨u,z,C⟩:=QJ H g y o
   obtain ⟨us,D,A⟩:=MQ H g k j
   refine ⟨u::us,?_,?_⟩
   ·rw [List.mapM_cons]
    simp [z,D]
   ·simp only [A7]
    exact ⟨_,_,rfl,C,A⟩
theorem FY (H:AH ρ μ h w) (k:Ba ρ μ tm a) {fn:Func} {is:List Sl} (hc:BD (fn.results.toList.map (GV P))=some is) {vs:List Aa} (hv:AaX tm h is=some vs):∃u,(results fn a.tmps).run P w=.ok u w∧Ag ρ μ (oneOf vs) u:=by
 obtain ⟨us,j,c⟩:=MQ H k hc hv
 have o:(fn.results.mapM (JP a.tmps)).run P w=.ok us.toArray w:=by
  rw [Array.mapM_eq_mapM_toList]
  simp [j]
 have e:results fn a.tmps=(do
   let vs←fn.results.mapM (JP a.tmps)
   pure (if h:vs.size=1 then vs[0]else .tuple vs)):=by
  unfold results
  congr 2
 rw [e]
 refine ⟨(if h:us.toArray.size=1 then us.toArray[0]else .tuple us.toArray),by simp only [Sem.run_bind,o,Result.andThen_ok,Sem.run_pure],?_⟩
 cases vs with
 |nil=>
  simp only [A7]at c
  subst c
  simp only [oneOf,Ag]
  exact ⟨#[],by simp,by simp only [A7]⟩
 |cons v vs=>
  cases vs with
  |nil=>
   simp only [A7]at c
   obtain ⟨u,_,rfl,g,rfl⟩:=c
   simpa [oneOf]using g
  |cons v' vs=>
   have d:=c
   simp only [A7]at d
   obtain ⟨u,_,rfl,_,x,r,rfl,_⟩:=d
   simp only [oneOf,Ag]
   exact ⟨(u::x::r).toArray,by simp,c⟩
end
end Go.AM
end
section
namespace Go.AM
section
variable {P:Program} {Γ:An} {ρ:Env} {μ:Ap} {tm:Tr Aa} {a:Act} {w:World} {h:Ak} {pl:List C5} {call:C3} {dcall:Sm} {fuel:Nat}
def FA (ρ:Env) (μ:Ap):CS→FrameMode→Prop
 |.returning,u=>u=.returning
 |.panicking v,u=>∃x,u=.panicking (Iz x)∧Ag ρ μ v x
theorem FA.mono {c:Ap} (hl:μ.le c) {m:CS} {u:FrameMode} (d:FA ρ μ m u):FA ρ c m u:=by
 cases m with
 |returning=>exact d
 |panicking v=>obtain ⟨x,e,hv⟩:=d;exact ⟨x,e,hv.mono hl⟩
theorem FA.settle {m:CS} {u:FrameMode} (c:FA ρ μ m u):settle u=u:=by
 cases m with
 |returning=>have c:u=.returning:=c;subst c;rfl
 |panicking v=>obtain ⟨x,rfl,hv⟩:=c;rfl
theorem FA.Aim {m:CS} {u:FrameMode} (c:FA ρ μ m u):u≠.run:=by
 cases m with
 |returning=>have c:u=.returning:=c;subst c;simp
 |panicking v=>obtain ⟨x,rfl,hv⟩:=c;simp
def ZE (ρ:Env) (μ:Ap) (h:Ak) (w:World) (d:CS) (g:Ak) (e:Ending) (j:FrameMode) (w':World):Prop:=
 ∃c,Av ρ μ h w c g w'∧FA ρ c d (Go.settle j)∧∃v,e=.returned v
def Wz (P:Program) (ρ:Env) (dcall:Sm):Prop:=
 ∀g args m h d j,dcall g args m h=some (d,j)→Ky P g∧∀μ w (c:Array Value) u,AH ρ μ h w→A7 ρ μ args c.toList→FA ρ μ m u→CallsD P g c u w (ZE ρ μ h w d j)
theorem Tz (d:FuncId×List Aa) (ds:List (FuncId×List Aa)) (m:CS) (h:Ak):Rp dcall (d::ds) m h=AB (dcall d.1 d.2 m h) fun r=>Rp dcall ds r.1 r.2:=rfl
theorem LO (hd:Wz P ρ dcall) {fn:Func} {tmps:Array Value} {R:Ending→World→Prop}:∀(ds:List (FuncId×List Aa)) {cs:List Deferred} {μ:Ap} {m:CS} {u:FrameMode} {h:Ak} {w:World} {r:CS×Ak},
  Rp dcall ds m h=some r→CL ρ μ ds cs→AH ρ μ h w→FA ρ μ m u→(∀z w' y,Av ρ μ h w z r.2 w'→FA ρ z r.1 y→Leaves P fn tmps R [] y w')→Leaves P fn tmps R cs u w
 |[],cs,μ,m,u,h,w,r,j,k,H,hm,hR=>by
  have j:some (m,h)=some r:=j
  simp only [oI]at j
  subst j
  have k:cs=[]:=k
  subst k
  exact hR μ w u (Av.refl H) hm
 |d::ds,cs,μ,m,u,h,w,r,j,k,H,hm,hR=>by
  rw [Tz]at j
  obtain ⟨⟨Z,h1⟩,Q,j⟩:=Ac j
  obtain ⟨c,rest,rfl,⟨cap,O,D⟩,x⟩:=k
  obtain ⟨hf,o⟩:=hd _ _ _ _ _ _ Q
  refine ⟨hm.Aim,.func d.1,cap,d.1,c.args++cap,O,?_,?_⟩
  ·rw [O]
   simp only [invoke]
   exact Ho hf _
  ·refine CallsD.mono (o μ w (c.args++cap) u H D hm) fun e y w' X=>?_
   obtain ⟨z,g,M,v,rfl⟩:=X
   exact LO hd ds j (x.mono g.le) g.rel M fun C N J U A=>hR C N J (g.trans U) A
theorem Ef {fn:Func} {F:EN} (hc:Ff P pl fn=some F):∃c,fn.body=some c∧AY P pl fn.ntmps c=some F.body∧BD (fn.results.toList.map (GV P))=some F.results:=by
 unfold Ff at hc
 split at hc
 ·cases hc
 ·rename_i c hb
  split at hc
  ·rename_i body results d g
   simp only [oI]at hc
   subst hc
   exact ⟨c,hb,d,g⟩
  ·cases hc
theorem K6 {F:EN} {args:List Aa} {c:Array Value} (H:AH ρ μ h w) (hv:A7 ρ μ args c.toList) (n:Nat):CX ρ μ n (HF F args h) {tmps:=c++Array.replicate (n-c.size) undef,defers:=[]} w:=
 ⟨AcM hv _,by simp;omega,H,rfl⟩
theorem Oc (hΓ:Γ.AG ρ) (hc:BH P ρ call) (hd:Wz P ρ dcall) (R:P.follows .mixedOrders=true) {g:FuncId} {fn:Func} (hf:P.funcs[g]?=some fn) {F:EN} (D:Ff P pl fn=some F) (hL:∀c,fn.body=some c→DH P ρ fn.ntmps Γ.loops 0 c) {args:List Aa} {r:Ot} {N:Ak}
  (d:Qi Γ call dcall fuel F args h=some (r,N)) {C:Array Value} (H:AH ρ μ h w) (hv:A7 ρ μ args C.toList):Calls P g C w fun e w'=>∃o,Av ρ μ h w o N w'∧Lq ρ o r e:=by
 obtain ⟨c,hb,ad,ac⟩:=Ef D
 unfold Qi at d
 obtain ⟨x,ae,d⟩:=Ac d
 obtain ⟨m,j,d⟩:=Ac d
 obtain ⟨y,aa,d⟩:=Ac d
 refine calls_of_wp_defers hf hb (Ib hΓ hc R c (hL c hb) ad ae (K6 H hv fn.ntmps) ?_)
 intro o a' w' e U J A
 have J:Av ρ μ h w o x.2.h w':=J
 have fin:∀u,FA ρ o m u→Leaves P fn a'.tmps (fun e w'=>∃o,Av ρ μ h w o N w'∧Lq ρ o r e) a'.defers u w':=fun u hm=>by
  refine LO hd x.2.df aa U.defs U.heap hm fun M al Z g2 k=>?_
  unfold Ag8 at d
  split at d
  ·rename_i O
   obtain ⟨vs,X,d⟩:=Ac d
   simp only [oI,Prod.mk.injEq]at d
   obtain ⟨rfl,rfl⟩:=d
   rw [O]at k
   have k:Z=.returning:=k
   subst k
   obtain ⟨v,h1,h2⟩:=FY g2.rel (U.tmps.mono g2.le) ac X
   exact ⟨v,h1,M,J.trans g2,h2⟩
  ·rename_i v O
   simp only [oI,Prod.mk.injEq]at d
   obtain ⟨rfl,rfl⟩:=d
   rw [O]at k
   obtain ⟨z,rfl,Q⟩:=k
   exact ⟨M,J.trans g2,z,rfl,Q⟩
 obtain ⟨x1,x2⟩:=x
 cases x1 with
 |normal=>
  have A:e=.normal:=A
  subst A
  simp only [Rh,oI]at j
  subst j
  exact fin .returning rfl
 |ret=>
  have A:e=.ret:=A
  subst A
  simp only [Rh,oI]at j
  subst j
  exact fin .returning rfl
 |exit i=>cases j
 |panic v=>
  obtain ⟨z,rfl,Q⟩:=A
  simp only [Rh,oI]at j
  subst j
  exact fin _ ⟨z,rfl,Q⟩
theorem Qe {m j:CS} {r:Bi×Fr} {k:Ak} (c:Gx m r=some (j,k)):j=m∧k=r.2.h∧r.2.df=[]∧(r.1=.normal∨r.1=.ret):=by
 unfold Gx at c
 split at c
 ·rename_i g d
  simp only [oI,Prod.mk.injEq]at c
  exact ⟨c.1.symm,c.2.symm,d,.inl g⟩
 ·rename_i g d
  simp only [oI,Prod.mk.injEq]at c
  exact ⟨c.1.symm,c.2.symm,d,.inr g⟩
 ·cases c
theorem TU (hΓ:Γ.AG ρ) (h0:Γ.loops=[]) (hc:BH P ρ call) (M:P.follows .mixedOrders=true) {g:FuncId} {fn:Func} (hf:P.funcs[g]?=some fn) {F:EN} (A:Ff P pl fn=some F) (D:F.results=[]) {args:List Aa} {m U:CS} {O:Ak} {x:Bi×Fr}
  (ab:exec Γ call fuel F.body (HF F args h)=some x) (hx:Gx m x=some (U,O)) {y:Array Value} {u:FrameMode} (H:AH ρ μ h w) (hv:A7 ρ μ args y.toList) (X:FA ρ μ m u):CallsD P g y u w (ZE ρ μ h w U O):=by
 obtain ⟨c,hb,aa,C⟩:=Ef A
 obtain ⟨rfl,rfl,Z,k⟩:=Qe hx
 refine CallsD.mono (callsD_of_wp (R:=fun e w'=>∃j,Av ρ μ h w j x.2.h w'∧∃v,e=.returned v) hf hb (ND hΓ h0 hc M c aa ab (K6 H hv fn.ntmps) ?_)) fun e u' w' d=>?_
 ·intro j J w' e N z d
  have z:Av ρ μ h w j x.2.h w':=z
  have o:=N.defs
  rw [Z]at o
  have o:J.defers=[]:=o
  rw [D]at C
  obtain ⟨v,h1,_⟩:=FY (vs:=[]) N.heap N.tmps C rfl
  have fin:J.defers=[]∧∃v,(results fn J.tmps).run P w'=.ok v w'∧∃j,Av ρ μ h w j x.2.h w'∧∃v',Ending.returned v=.returned v':=⟨o,v,h1,j,z,v,rfl⟩
  rcases k with k|k<;>rw [k]at d
  ·have d:e=.normal:=d
   subst d
   exact fin
  ·have d:e=.ret:=d
   subst d
   exact fin
 ·obtain ⟨rfl,j,z,Q⟩:=d
  exact ⟨j,z,by rw [X.settle];exact X.mono z.le,Q⟩
theorem Te {o:Oper} (hc:D8 P pl o=some (.m .recover)):(execOp a.eval o).run P w=.ok .recover w:=by
 cases hop:o.op<;>simp only [D8,hop,reduceCtorEq,oI]at hc
 case call c=>
  unfold F6 at hc
  split at hc
  ·split at hc
   ·split at hc
    ·simp at hc
    ·split at hc
     ·split at hc<;>simp at hc
     ·split at hc
      ·split at hc<;>simp at hc
      ·cases hc
   ·cases hc
  ·simp at hc
  ·cases hc
  ·rename_i b hb
   split at hc
   ·split at hc<;>simp at hc
   ·exfalso
    unfold Fg at hc
    split at hc<;>first|cases hc|skip
    all_goals (split at hc<;>first|(cases hc;done) |(split at hc<;>simp at hc))
   ·exfalso
    split at hc<;>first|(cases hc;done) |(obtain ⟨_,_,e⟩:=mS hc;cases e)
   ·simp at hc
   ·simp at hc
   ·rename_i A
    have C:c.args=#[]:=by rw [←Array.toList_inj];simpa using A
    simp [execOp,hop,resolve,hb,C,invoke,builtin]
   ·simp at hc
   ·exfalso
    split at hc
    ·split at hc<;>simp at hc
    ·cases hc
   ·cases hc
 case convert s d x=>
  rcases CV hc with ⟨k0,k,hs,hd,e⟩|⟨hs,hd,e⟩|⟨t,n,hs,hd,hn,e⟩|⟨u,n,hs,hd,hn,e⟩|⟨el,hs,he,hd,e⟩<;>cases e
 case typeAssert x xt t ok=>
  obtain ⟨d,i,z,H,hd,j,J,e⟩:=Cu hc
  cases e
 case defer c=>
  obtain ⟨g,args,D⟩:=c
  cases g<;>simp at hc
 case makeFunc fn x c=>cases fn<;>simp at hc
 case binOp op t x y yt=>obtain ⟨_,_,e⟩:=mS hc;cases e
 case slice t x lo j mx=>
  exfalso
  split at hc
  ·simp at hc
  ·obtain ⟨_,_,e⟩:=mS hc;cases e
  ·split at hc
   ·obtain ⟨_,_,e⟩:=mS hc;cases e
   ·cases hc
  ·cases hc
 case build t parts=>
  exfalso
  split at hc
  ·split at hc
   ·obtain ⟨_,_,e⟩:=mS hc;cases e
   ·cases hc
  ·obtain ⟨_,_,hc⟩:=Option.bind_eq_some_iff.1 hc
   obtain ⟨_,_,e⟩:=mS hc;cases e
  ·cases hc
 case fieldAddr t x f=>
  exfalso
  split at hc
  ·obtain ⟨_,_,hc⟩:=Option.bind_eq_some_iff.1 hc
   split at hc<;>simp at hc
  ·cases hc
 case field t x f=>
  exfalso
  split at hc
  ·obtain ⟨_,_,hc⟩:=Option.bind_eq_some_iff.1 hc
   obtain ⟨_,_,e⟩:=mS hc;cases e
  ·cases hc
 all_goals
  exfalso
  first
   |(cases hc;done)
   |(split at hc<;>first|(cases hc;done) |(simp at hc;done) |(obtain ⟨_,_,e⟩:=mS hc;cases e;done) |(split at hc<;>first|(cases hc;done) |(simp at hc;done) |(obtain ⟨_,_,e⟩:=mS hc;cases e;done) |(split at hc<;>first|(cases hc;done) |(simp at hc;done) |(obtain ⟨_,_,e⟩:=mS hc;cases e;done))))
   |(obtain ⟨_,_,e⟩:=mS hc;cases e;done)
theorem MK (U:Γ.AG ρ) (hc:BH P ρ call) {nt:Nat} {z:Array Oper} {cs:List Frame} {Q:Exit→Act→List Frame→World→Prop}:∀(l:List Oper) (c:List Step) (k:Nat) {μ:Ap} {a:Act} {w:World} {f:Fr} {r:Co},(∀j,l[j]?=z[k+j]?)→BD (l.map fun o=>stepOf P pl nt z o 0)=some c→
  UQ Γ call c f=some r→CX ρ μ nt f a w→D6 ρ nt μ f.h w (fun e A w'=>Q e A cs w') (Gc r)→wpOpsS P z Q (List.range' k l.length) a cs w
 |[],c,k,μ,a,w,f,r,hl,hs,y,F,L=>by
  simp only [List.map_nil,BD,oI]at hs
  subst hs
  have y:some (Co.go f)=some r:=y
  simp only [oI]at y
  subst y
  exact L μ a w .normal F (Av.refl F.heap) rfl
 |o::l,c,k,μ,a,w,f,r,hl,hs,y,F,L=>by
  have C:=Dx hs
  cases c with
  |nil=>simp at C
  |cons s c=>
   simp only [List.map_cons,List.cons.injEq]at C
   obtain ⟨h1,N⟩:=C
   have M:BD (l.map fun o=>stepOf P pl nt z o 0)=some c:=by
    rw [N]
    clear N y hs
    induction c with
    |nil=>rfl
    |cons x r ih=>simp only [List.map_cons,BD,ih,Option.map_some]
   rw [Pr]at y
   obtain ⟨x,hx,y⟩:=Ac y
   have Z:z[k]?=some o:=by simpa using (hl 0).symm
   have O:∀j,l[j]?=z[k+1+j]?:=fun j=>by simpa [Nat.add_assoc,Nat.add_comm 1 j]using hl (j+1)
   rw [lC,List.range'_succ]
   have R:Wy ρ nt μ f.h a w (fun A w'=>wpOpsS P z Q (List.range' (k+1) l.length) A cs w') (fun e A w'=>Q e A cs w') x:=by
    cases x with
    |go f'=>exact fun X A w' J g=>MK U hc l c (k+1) O M y J (L.grow g)
    |panic v f'=>
     simp only [goes,oI]at y
     subst y
     exact fun X u w' J g hv=>L X a w' _ J g ⟨u,rfl,hv⟩
   have d:=Pk U hc F (FH h1) hx R
   unfold wpOpsS
   rw [Z]
   simp only
   split
   ·rename_i H
    rw [if_pos H]at d
    unfold Oper.wp at d
    split
    ·rename_i w' D
     rw [D]at d
     exact d.elim
    ·exact d
   ·rename_i H
    rw [if_neg H]at d
    exact d
theorem QN {m:CS} {c₀:Frame} {cs:List Frame} (c:FA ρ μ m c₀.mode):
  ∃v d,(match recoverD (c₀::cs)with|some (v,cs')=>(v,cs') |none=>(.nilIface,c₀::cs))=(v,{c₀ with mode:=d}::cs)∧settle d=.returning∧Ag ρ μ (recovered m) v:=by
 cases m with
 |returning=>
  have c:c₀.mode=.returning:=c
  refine ⟨.nilIface,c₀.mode,?_,by rw [c];rfl,by simp only [recovered,Ag]⟩
  have e:recoverD (c₀::cs)=none:=by simp [recoverD,c]
  rw [e]
 |panicking v=>
  obtain ⟨x,g,hv⟩:=c
  refine ⟨x,.panicking [{v:=x,recovered:=true}],?_,rfl,hv⟩
  simp [recoverD,g,Iz]
theorem ON (hΓ:Γ.AG ρ) (h0:Γ.loops=[]) (hc:BH P ρ call) (ak:P.follows .mixedOrders=true) {g:FuncId} {fn:Func} (hf:P.funcs[g]?=some fn) {F:EN} (ac:Ff P pl fn=some F) (af:F.results=[]) {dst:Option Nat} {bk:Nat} {z:List Step} {rest:IC}
  (Q:F.body=.seq (.region false (⟨dst,none,.m .recover,bk⟩::z)) rest) {args:List Aa} {m m':CS} {h':Ak} {r:Co} {x:Bi×Fr}
  (hr:UQ Γ call z ⟨Ea (HF F args h).tm dst (recovered m),h,[]⟩=some r) (D:(andThen (Gc r) fun f=>exec Γ call fuel rest f)=some x) (hx:Gx .returning x=some (m',h')) {y:Array Value} {u:FrameMode} (H:AH ρ μ h w) (hv:A7 ρ μ args y.toList) (hm:FA ρ μ m u):
  CallsD P g y u w (ZE ρ μ h w m' h'):=by
 obtain ⟨c,hb,k,ae⟩:=Ef ac
 obtain ⟨rfl,rfl,av,C⟩:=Qe hx
 rw [Q]at k
 cases c<;>simp only [AY,reduceCtorEq,oI]at k
 case region=>obtain ⟨_,_,e⟩:=mS k;cases e
 case cond=>split at k<;>simp at k
 case block=>obtain ⟨_,_,e⟩:=mS k;cases e
 case loop=>obtain ⟨_,_,e⟩:=mS k;cases e
 case seq c1 c2=>
  split at k
  case h_2=>cases k
  rename_i i1 i2 M h2
  simp only [oI,IC.seq.injEq]at k
  obtain ⟨rfl,rfl⟩:=k
  cases c1<;>simp only [AY,reduceCtorEq,oI]at M
  case seq=>split at M<;>simp at M
  case cond=>split at M<;>simp at M
  case block=>obtain ⟨_,_,e⟩:=mS M;cases e
  case loop=>obtain ⟨_,_,e⟩:=mS M;cases e
  case region id ops draw=>
   obtain ⟨st,R,e⟩:=mS M
   simp only [IC.region.injEq]at e
   obtain ⟨rfl,rfl⟩:=e
   simp only [GW,Bool.false_eq_true,if_false]at R
   have J:=Dx R
   generalize hol:ops.toList=ol at R J
   cases ol with
   |nil=>simp at J
   |cons o l=>
    simp only [List.map_cons,List.cons.injEq]at J
    obtain ⟨k1,k2⟩:=J
    have al:BD (l.map fun o=>stepOf P pl fn.ntmps ops o 0)=some z:=by
     rw [k2]
     clear k2 hr R Q M
     induction z with
     |nil=>rfl
     |cons x r ih=>simp only [List.map_cons,BD,ih,Option.map_some]
    have N:=FH k1
    have U:∀j:Nat,(o::l)[j]?=ops[j]?:=fun j=>by rw [←hol,Array.getElem?_toList]
    have ho:ops[0]?=some o:=by simpa using (U 0).symm
    have aq:ops.size=l.length+1:=by
     have:=cL hol
     simpa using this
    refine callsD_of_wpS hf hb fun c₀ cs hu=>wpS_seq (wpS_region ?_)
    rw [List.range_eq_range',aq,List.range'_succ]
    have F0:=K6 (F:=F) H hv fn.ntmps
    unfold wpOpsS
    rw [ho]
    simp only
    rw [EZ F0.tmps N.guard (fun d b e=>Nat.lt_of_lt_of_le (N.seen d b e) F0.size) (b:=true) rfl]
    simp only [if_true]
    rw [Te N.op]
    simp only
    obtain ⟨v,u',A,aj,au⟩:=QN (c₀:=c₀) (cs:=cs) (m:=m) (ρ:=ρ) (μ:=μ) (by rw [hu];exact hm)
    have F1:CX ρ μ fn.ntmps ⟨Ea (HF F args h).tm dst (recovered m),h,[]⟩ (Act.put {tmps:=y++Array.replicate (fn.ntmps-y.size) undef,defers:=[]} o.dst v) w:=by
     have:=F0.put (d:=o.dst) μ.le_refl F0.heap N.small au
     rw [←N.dst]at this⊢
     exact this
    have ab:wpOpsS P ops (Exit.thenS (c2.wpS P (bodyPostS P fn c₀ cs (ZE ρ μ h w .returning x.2.h))) (bodyPostS P fn c₀ cs (ZE ρ μ h w .returning x.2.h))) (List.range' 1 l.length)
      (Act.put {tmps:=y++Array.replicate (fn.ntmps-y.size) undef,defers:=[]} o.dst v) ({c₀ with mode:=u'}::cs) w:=by
     refine MK hΓ hc l z 1 (fun j=>by have:=U (j+1);simpa [Nat.add_comm 1 j]using this) al hr F1 ?_
     intro μ1 a1 w1 e1 F2 g1 Z
     have g1:Av ρ μ h w μ1 (Gc r).2.h w1:=g1
     cases r with
     |panic v f'=>
      exfalso
      have D:some (Bi.panic v,f')=some x:=D
      simp only [oI]at D
      subst D
      rcases C with C|C<;>cases C
     |go f'=>
     have Z:e1=.normal:=Z
     subst Z
     have D:exec Γ call fuel i2 f'=some x:=D
     refine wpS_of_wp (ND hΓ h0 hc ak c2 h2 D F2 ?_)
     intro μ' aa w' e F' g' O
     have g':Av ρ μ h w μ' x.2.h w':=g1.trans g'
     have X:=F'.defs
     rw [av]at X
     have X:aa.defers=[]:=X
     rw [af]at ae
     obtain ⟨vr,r1,_⟩:=FY (vs:=[]) F'.heap F'.tmps ae rfl
     have fin:aa.defers=[]∧∃u2,({c₀ with mode:=u'}::cs:List Frame)={c₀ with mode:=u2}::cs∧∃v,(results fn aa.tmps).run P w'=.ok v w'∧ZE ρ μ h w .returning x.2.h (.returned v) u2 w':=
      ⟨X,u',rfl,vr,r1,μ',g',by rw [aj];rfl,vr,rfl⟩
     rcases C with C|C<;>rw [C]at O
     ·have O:e=.normal:=O
      subst O
      exact fin
     ·have O:e=.ret:=O
      subst O
      exact fin
    cases hrd:recoverD (c₀::cs)with
    |none=>
     rw [hrd]at A
     simp only [Prod.mk.injEq]at A
     obtain ⟨rfl,an⟩:=A
     simp only
     rw [an]
     exact ab
    |some p=>
     obtain ⟨pv,aQ⟩:=p
     rw [hrd]at A
     simp only [Prod.mk.injEq]at A
     obtain ⟨rfl,rfl⟩:=A
     exact ab
def Qm (P:Program) (pl:List C5) (DT:FuncId→Option EN):Prop:=
 ∀g F,DT g=some F→∃fn,P.funcs[g]?=some fn∧Ff P pl fn=some F∧(fn.name== "runtime.NumGoroutine")=false
theorem Ky.Rd {g:FuncId} {fn:Func} {F:EN} (hf:P.funcs[g]?=some fn) (d:Ff P pl fn=some F) (j:(fn.name== "runtime.NumGoroutine")=false):Ky P g:=by
 obtain ⟨c,hb,_⟩:=Ef d
 exact ⟨fn,hf,by rw [hb];rfl,j⟩
theorem Pp (C:Γ.AG ρ) (z:Γ.loops=[]) (hc:BH P ρ call) (k:P.follows .mixedOrders=true) {DT:FuncId→Option EN} (R:Qm P pl DT):Wz P ρ fun f args m h=>AB (DT f) fun F=>Lm Γ call fuel F args m h:=by
 intro g args m h m' Z j
 obtain ⟨F,Q,j⟩:=Ac j
 obtain ⟨fn,hf,c,X⟩:=R g F Q
 refine ⟨Ky.Rd hf c X,fun μ w N u H hv J=>?_⟩
 unfold Lm at j
 split at j
 ·rename_i dst bk O rest y d
  obtain ⟨r,U,A⟩:=Ac j
  obtain ⟨x,o,M⟩:=Ac A
  exact ON C z hc k hf c d y U o M H hv J
 ·rename_i d _
  obtain ⟨x,o,D⟩:=Ac j
  exact TU C z hc k hf c d o D H hv J
 ·cases j
def CF (P:Program) (ρ:Env) (f:FuncId) (o:Bv):Prop:=
 ∀args h r d,o args h=some (r,d)→Ky P f∧∀μ w (c:Array Value),AH ρ μ h w→A7 ρ μ args c.toList→
  Calls P f c w fun e w'=>∃g,Av ρ μ h w g d w'∧Lq ρ g r e
theorem Im (J:Γ.AG ρ) (D:Γ.loops=[]) (x:P.follows .mixedOrders=true) {DT:FuncId→Option EN} (M:Qm P pl DT) {k:FuncId→Option Bv} (C:∀f o,k f=some o→CF P ρ f o):∀d:Nat,BH P ρ (LY Γ k DT fuel d)
 |0=>fun g args h r A j=>by cases j
 |d+1=>fun g args h r A j=>by
  have ih:=Im J D x M C d
  have j:Ra (k g) args h (fun _=>AB (DT g) fun F=>Qi Γ (LY Γ k DT fuel d) (fun f args m h=>AB (DT f) fun F=>Lm Γ (LY Γ k DT fuel d) fuel F args m h) fuel F args h)=some (r,A):=j
  have z:(AB (DT g) fun F=>Qi Γ (LY Γ k DT fuel d) (fun f args m h=>AB (DT f) fun F=>Lm Γ (LY Γ k DT fuel d) fuel F args m h) fuel F args h)=some (r,A)→Ky P g∧∀μ w (u:Array Value),AH ρ μ h w→A7 ρ μ args u.toList→
    Calls P g u w fun e w'=>∃N,Av ρ μ h w N A w'∧Lq ρ N r e:=fun j=>by
   obtain ⟨F,R,j⟩:=Ac j
   obtain ⟨fn,hf,y,U⟩:=M g F R
   exact ⟨Ky.Rd hf y U,fun μ w u H hv=>Oc J ih (Pp J D ih x M) x hf y (fun c _=>by rw [D];exact DH.none) j H hv⟩
  unfold Ra at j
  split at j
  ·rename_i o Q
   split at j
   ·rename_i X O
    simp only [oI]at j
    subst j
    exact C g o Q args h r A O
   ·exact z j
  ·exact z j
theorem An.AG.bare {Γ:An} {ρ:Env} (h:Γ.AG ρ):Γ.bare.AG ρ:=⟨h.Eb,h.tests,h.strs,h.EV,h.BB,h.Ad,h.elems,h.defs,h.looks,h.Mg,h.CQ,h.CO⟩
theorem Uw (z:Γ.AG ρ) (j:P.follows .mixedOrders=true) {DT:FuncId→Option EN} (A:Qm P pl DT) {x:FuncId→Option Bv} (y:∀f o,x f=some o→CF P ρ f o) (d:Nat) {g:FuncId}
  (J:∀fn c,P.funcs[g]?=some fn→fn.body=some c→DH P ρ fn.ntmps Γ.loops 0 c):CF P ρ g (Ahb Γ x DT fuel d g):=by
 intro args h r N u
 unfold Ahb at u
 obtain ⟨F,M,u⟩:=Ac u
 obtain ⟨fn,hf,k,D⟩:=A g F M
 have ih:=Im z.bare rfl j A y d (fuel:=fuel)
 exact ⟨Ky.Rd hf k D,fun μ w C H hv=>Oc z ih (Pp z.bare rfl ih j A) j hf k (fun c hc=>J fn c hf hc) u H hv⟩
end
end Go.AM
end
section
namespace Go.AM
open Go.ChangeShapes Go.WideShapes Go.ChangeAt Go.RowKit
def Kept (W w':World):Prop:=W.keptBut w' (fun _=>False)∧(∀b c,b<W.heap.size→w'.frozen? ⟨b,c,none⟩=W.frozen? ⟨b,c,none⟩)∧W.heap.size≤w'.heap.size
theorem Kept.of_same {W w':World} (c:∀r,r<W.heap.size→w'.heap[r]?=W.heap[r]?) (hs:W.heap.size≤w'.heap.size) (d:w'.os=W.os) (j:w'.output=W.output):Kept W w':=by
 refine ⟨⟨d,j,fun i g=>?_⟩,fun b k hb=>?_,hs⟩
 ·rw [c i g]
  cases W.heap[i]? with
  |none=>trivial
  |some o=>cases o<;>simp
 ·unfold World.frozen?
  simp only [c b hb]
theorem Kept.frame {W w':World} (h:Kept W w') (ps:List MemPlace):W.keptBut w' (·∈ps):=World.keptBut_mono (fun _ h=>h.elim) h.1
section
variable {H:Type} {enc:TypeId×Value→H} {P:Program}
theorem QX {f:Func} {s:ChangeSpec} {apart fresh x again:Bool} {W u:World} {args:Array Value} {v:Value} {ds C:List (DataW H)} {before pa pv:List MemPlace}
  (D:DataW.Whole enc P f.params.toList s.vars apart W args.toList ds C before)
  (A:∀(b:Nat) (d:Nat→Bool) (hd:Bool),DataW.TrodAll enc P u b d hd f.resultTypes.toList (v.resultList f.resultTypes.size) (s.fn H (ds++C)).results [])
  (k:∀d:Nat→Bool,(∀p∈before,d p.block=true)→DataW.TrodAll enc P u 0 d true f.params.toList args.toList (s.fn H (ds++C)).args pa)
  (o:∀d:Nat→Bool,(∀p∈before,d p.block=true)→DataW.TrodVars enc P u d s.vars (s.fn H (ds++C)).vars pv)
  (g:before=pa++pv) (M:Kept W u)
  (J:∀(j:Nat) (t:TypeId) (r:Value),f.resultTypes[j]?=some t→(v.resultList f.resultTypes.size)[j]?=some r→Value.okWide P u .any 0 t r):
  s.post enc P f apart fresh x again W args v u:=by
 have y:∀p∈before,(fun b=>decide (b<W.heap.size)) p.block=true:=fun p c=>by simpa using D.lt p c
 have N:=D.lt
 refine ⟨ds,C,before,[],pa,pv,D,A _ _ _,k _ y,o _ y,World.keptBut_mono (fun p c=>⟨c,?_⟩) (M.frame before),fun _=>?_⟩
 ·rw [g,List.mem_append]at c
  exact Or.inr c
 ·obtain ⟨_,_,_,_,_,O,Q⟩:=D
  refine ⟨J,_,_,([]++pa)++pv,⟨[]++pa,pv,trodAll_append (k _ (fun _ _=>rfl)) (A _ _ _),o _ (fun _ _=>rfl),rfl,?_,?_⟩,?_⟩
  ·intro b z c
   have hb:MemPlace.cell b z∈before:=by rw [g];simpa using c
   rw [M.2.1 b z (N _ hb)]
   exact O b z hb
  ·intro ha
   have:=Q ha
   rw [g]at this
   simpa using this
  ·intro p c _
   rw [g]
   simpa using c
end
theorem Av.idle {ρ:Env} {μ:Ap} {h:Ak} {w w':World} (H:AH ρ μ h w) (j:∀r,r<w.heap.size→w'.heap[r]?=w.heap[r]?) (hs:w.heap.size≤w'.heap.size) (o:w'.os=w.os) (u:w'.output=w.output):Av ρ μ h w μ h w':=by
 have c:∀r,r<w.heap.size→¬AP μ h r→w'.heap[r]?=w.heap[r]?∧¬AP μ h r:=fun r d k=>⟨j r d,k⟩
 refine ⟨μ.le_refl,⟨H.fresh,fun b B hb=>?_,H.inj,H.GB c⟩,hs,c,o,u,Nat.le_refl _,fun _ _=>rfl,fun _ _ h=>.inl h,rfl⟩
 obtain ⟨r,δ,g,d⟩:=H.blk b B hb
 exact ⟨r,δ,g,by rw [j r (H.lt hb g)];exact d⟩
theorem P6 {f:Nat}:∀{l:List (Nat×Bv)} {o:Bv},Tn f l=some o→(f,o)∈l
 |[],o,h=>by cases h
 |x::r,o,h=>by
  have h:(bif Nat.beq x.1 f then some x.2 else Tn f r)=some o:=h
  rw [AI]at h
  by_cases e:x.1=f
  ·rw [if_pos e]at h
   simp only [oI]at h
   rw [←e,←h]
   exact List.mem_cons_self
  ·rw [if_neg e]at h
   exact List.mem_cons_of_mem _ (P6 h)
theorem Qn (k:IntKind) (n:Int) (h:k.min≤n∧n≤k.max):k.wrap n=n:=by
 obtain ⟨d,c⟩:=h
 unfold IntKind.wrap
 unfold IntKind.min at d
 unfold IntKind.max at c
 cases k<;>simp [IntKind.signed,IntKind.bits]at d c⊢<;>(try split)<;>omega
theorem Bw {α:Type} {p:α→Prop} {x:α} {l:List α} (h:p x) (d:∀y∈l,p y):∀y∈x::l,p y:=fun y c=>by
 rcases List.mem_cons.1 c with rfl|c
 ·exact h
 ·exact d y c
end Go.AM
end
section
namespace Go.AM
def Holds (P:Program) (ρ:Env) (g:FuncId) (x:BA):Prop:=
 Ky P g∧∀μ w (c:Array Value),AH ρ μ (Be x.pre (empty 0)) w→A7 ρ μ x.args c.toList→
  Calls P g c w fun e w'=>∃d,Av ρ μ (Be x.pre (empty 0)) w d (CD x.post (empty 0)) w'∧Lq ρ d (.ret x.res) e
theorem RT {P:Program} {ρ:Env} {g:FuncId} {x:BA} (N:Holds P ρ g x):CF P ρ g (RU x):=by
 intro args h r h' o
 unfold RU at o
 generalize Sq h x.pre 0 (WB x.args args [])=σ at o
 simp only at o
 obtain ⟨j,D⟩:=Ao o
 clear o
 unfold AgD at j
 rw [aT,aT,aT,aT]at j
 obtain ⟨d,c,J,y,M⟩:=j
 have d:=Al.1 d
 rw [Dq,Fj]at d
 have c:=AR.1 c
 rw [Fj,GI]at c
 have F:Fits h.fx h σ x.pre x.post.length:=⟨d,c,Fz J,M⟩
 unfold AcO at D
 obtain ⟨h1,k,U⟩:=Ac D
 obtain ⟨v,hv,C⟩:=Ac U
 simp only [oI,Prod.mk.injEq]at C
 obtain ⟨rfl,rfl⟩:=C
 rw [Fj]at k hv
 rw [GI]at k
 refine ⟨N.1,fun μ w z H R=>?_⟩
 refine (N.2 _ w z (Fits.before H.AS.facts F H) (GS H.AS.facts Fits.Cc y R)).mono fun e w' A=>?_
 obtain ⟨X,g',A⟩:=A
 obtain ⟨Q,O,Z⟩:=F.after H k g'
 refine ⟨Q,O,?_⟩
 ·cases e
  case returned u=>exact Td Z hv (show Ag ρ X x.res u from A)
  all_goals exact A.elim
theorem Ig {P:Program} {ρ:Env} {g:FuncId}:∀{l:List BA},(∀x∈l,Holds P ρ g x)→CF P ρ g (Kr l)
 |[],_,args,h,r,h',hr=>by cases hr
 |x::l,hl,args,h,r,h',hr=>by
  have e:Kr (x::l) args h=(match RU x args h with|some y=>some y|none=>Kr l args h):=rfl
  rw [e]at hr
  split at hr
  ·rename_i y c
   simp only [oI]at hr
   subst hr
   exact RT (hl x List.mem_cons_self) args h r h' c
  ·exact Ig (fun y c=>hl y (List.mem_cons_of_mem _ c)) args h r h' hr
end Go.AM
end
