/- Part 3 of the proof of TypesAccepts. -/
import Derived.Test.YtbmofjdmgjpfoaaGreatDoorC2
import Derived.WalkKit
import Derived.ProofKit
import Derived.OpenShut
import Derived.LoopN
import Derived.Defers
import Derived.Recover
import Derived.Laws.Sem
set_option linter.all false
section
namespace Go.AM
def CJ (ρ:Env) (μ:Aq):List (FuncId×List Aa)→List Deferred→Prop
 |[],ds=>ds=[]
 |d::r,ds=>∃c rest,ds=c::rest∧KM ρ μ d c∧CJ ρ μ r rest
theorem KM.mono {ρ:Env} {μ g:Aq} (h:μ.le g) {d:FuncId×List Aa} {c:Deferred} (hd:KM ρ μ d c):KM ρ g d c:=
 let ⟨cap,h1,h2⟩:=hd
 ⟨cap,h1,h2.mono h⟩
theorem CJ.mono {ρ:Env} {μ d:Aq} (h:μ.le d):∀{l:List (FuncId×List Aa)} {ds:List Deferred},CJ ρ μ l ds→CJ ρ d l ds
 |[],_,e=>e
 |_::_,_,e=>let ⟨c,rest,e1,e2,e3⟩:=e;⟨c,rest,e1,e2.mono h,CJ.mono h e3⟩
structure CY (ρ:Env) (μ:Aq) (nt:Nat) (f:Fr) (a:Act) (w:World):Prop where
 tmps:Be ρ μ f.tm a
 size:nt≤a.tmps.size
 heap:AO ρ μ f.h w
 defs:CJ ρ μ f.df a.defers
def KL (ρ:Env) (μ:Aq):NK→Ending→Prop
 |.ret v,.returned u=>Ae ρ μ v u
 |.panic v,.panicked chain=>∃u,chain=[{v:=u,recovered:=false}]∧Ae ρ μ v u
 |_,_=>False
def BM (P:Program) (ρ:Env) (call:C1):Prop:=
 ∀g args h r j,call g args h=some (r,j)→Kc P g∧∀μ w (c:Array Value),AO ρ μ h w→A9 ρ μ args c.toList→
  Calls P g c w fun e w'=>∃d,Aw ρ μ h w d j w'∧KL ρ d r e
section
variable {P:Program} {Γ:Ao} {ρ:Env} {μ:Aq} {tm:Tr Aa} {a:Act} {w:World} {h:Al} {pl:List C3} {nt:Nat} {ops:Array Oper} {call:C1}
theorem IF:Ae ρ μ IG undef:=by
 simp only [IG,Ae]
 exact ⟨_,rfl,by simp only [A9]⟩
theorem EO (z:Be ρ μ tm a) {o:Oper} {g:Option (Nat×Bool)} (k:guardOf ops o.guard=some g) (hs:∀d b,g=some (d,b)→d<a.tmps.size) {b:Bool} (hb:Dn tm g=some b):Region.wanted o (yielded ops a.tmps)=b:=by
 unfold Region.wanted
 cases hog:o.guard with
 |none=>
  rw [hog]at k
  simp only [guardOf,oI]at k
  subst k
  simp only [Dn,oI]at hb
  simp [←hb]
 |some jw=>
  obtain ⟨j,u⟩:=jw
  rw [hog]at k
  simp only [guardOf]at k
  split at k
  ·rename_i d hd
   simp only [oI]at k
   subst k
   simp only [Dn]at hb
   have q:=hs d u rfl
   have c:=z d
   unfold Vj at hb
   split at hb
   ·rename_i y v
    simp only [oI]at hb
    subst hb
    rw [v]at c
    have c:=Ae.bool c
    simp only [SB.den]at c
    rw [Array.getD_eq_getD_getElem?,Array.getElem?_eq_getElem q,Option.getD_some]at c
    have x:yielded ops a.tmps j=some y:=by
     unfold yielded
     rw [hd]
     simp [q,c]
    simp only [x]
    cases u<;>cases y<;>rfl
   ·rename_i v
    simp only [oI]at hb
    subst hb
    rw [v]at c
    have c:Ae ρ μ (.tuple []) (a.tmps.getD d undef):=c
    simp only [Ae]at c
    obtain ⟨us,c,A⟩:=c
    rw [Array.getD_eq_getD_getElem?,Array.getElem?_eq_getElem q,Option.getD_some]at c
    have x:yielded ops a.tmps j=none:=by
     unfold yielded
     rw [hd]
     simp [q,c]
    simp only [x]
    rfl
   ·cases hb
  ·cases k
structure NG (P:Program) (pl:List C3) (nt:Nat) (ops:Array Oper) (o:Oper) (s:Step):Prop where
 op:D9 P pl o=some s.op
 guard:guardOf ops o.guard=some s.guard
 dst:s.dst=o.dst
 small:∀d,o.dst=some d→d<nt
 seen:∀d b,s.guard=some (d,b)→d<nt
theorem F3 {o:Oper} {b:Nat} {s:Step} (h:stepOf P pl nt ops o b=some s):NG P pl nt ops o s:=by
 unfold stepOf at h
 split at h
 ·rename_i op g j k
  split at h
  ·rename_i hd
   simp only [oI]at h
   subst h
   rw [aT]at hd
   refine ⟨j,k,rfl,fun d c=>?_,fun d b c=>?_⟩
   ·have:=hd.1
    rw [c]at this
    simp only [Option.all_some]at this
    exact Nat.lt_of_lt_of_le (Nat.lt_succ_self d) (AX.1 this)
   ·have:=hd.2
    simp only at c
    rw [c]at this
    simp only [Option.all_some]at this
    exact Nat.lt_of_lt_of_le (Nat.lt_succ_self d) (AX.1 this)
  ·cases h
 ·cases h
inductive Adk where
 |val (v:Aa) (h:Al)
 |panic (v:Aa) (h:Al)
 |defer (g:FuncId) (args:List Aa)
def RZ (call:C1) (h:Al) (r:GZ):Option Adk:=
 match r with
 |.val v h=>some (.val v h)
 |.call g args=>match call g args h with
  |some (.ret v,h)=>some (.val v h)
  |some (.panic v,h)=>some (.panic v h)
  |none=>none
 |.panic v=>some (.panic v h)
 |.defer g args=>some (.defer g args)
noncomputable def Ac3 (f:Fr) (d:Option Nat) (o:Adk):Cp:=
 match o with
 |.val v h=>K4 f d v h
 |.panic v h=>.panic v ⟨f.tm,h,f.df⟩
 |.defer g args=>.go ⟨DY f.tm d .any,f.h,(g,args)::f.df⟩
theorem M6 {f:Fr} {d:Option Nat} {r:GZ} {x:Cp} (j:AeZ call f d r=some x):∃o,RZ call f.h r=some o∧x=Ac3 f d o:=by
 unfold AeZ at j
 split at j
 ·simp only [oI]at j
  exact ⟨_,rfl,j.symm⟩
 ·rename_i g args
  obtain ⟨r,k,j⟩:=Ab j
  simp only [oI]at j
  subst j
  obtain ⟨c,q⟩:=r
  cases c with
  |ret v=>exact ⟨.val v q,by simp [RZ,k],rfl⟩
  |panic v=>exact ⟨.panic v q,by simp [RZ,k],rfl⟩
 ·simp only [oI]at j
  exact ⟨_,rfl,j.symm⟩
 ·simp only [oI]at j
  exact ⟨_,rfl,j.symm⟩
def Ii (u:Value):List PanicEntry:=[{v:=u,recovered:=false}]
def Ajl (ρ:Env) (μ:Aq) (h:Al) (a:Act) (w:World) (d:Option Tmp) (K:Act→World→Prop) (Q:Exit→Act→World→Prop):Adk→Prop
 |.val v h'=>∀c u w',Aw ρ μ h w c h' w'→Ae ρ c v u→K (a.put d u) w'
 |.panic v h'=>∀c u w',Aw ρ μ h w c h' w'→Ae ρ c v u→Q (.panic (Ii u)) a w'
 |.defer g args=>∀x,KM ρ μ (g,args) x→K ({a with defers:=x::a.defers}.put d undef) w
theorem Si (hc:BM P ρ call) (H:AO ρ μ h w) {o:Oper} {res:GZ} (hd:EG P ρ μ h a o w res) {out:Adk} (k:RZ call h res=some out) {K:Act→World→Prop} {Q:Exit→Act→World→Prop}
  (D:Ajl ρ μ h a w o.dst K Q out):o.wp P a w K Q:=by
 unfold Oper.wp
 cases res with
 |val v R=>
  simp only [RZ,oI]at k
  subst k
  obtain ⟨Z,u,w',z,j,U,A,C⟩:=hd
  rw [j]
  rcases U with rfl|⟨rfl,rfl⟩
  ·exact D z u w' A C
  ·exact D z undef w' A C
 |call g args=>
  simp only [RZ]at k
  split at k
  ·rename_i v R q
   simp only [oI]at k
   subst k
   obtain ⟨hf,J⟩:=hc _ _ _ _ _ q
   obtain ⟨x,j,M⟩:=hd hf
   rw [j]
   refine Calls.mono (J μ w x H M) fun e w' N=>?_
   obtain ⟨z,A,y⟩:=N
   cases e with
   |returned u=>exact D z u w' A y
   |panicked c=>exact y.elim
   |outgrown=>exact y.elim
  ·rename_i v R q
   simp only [oI]at k
   subst k
   obtain ⟨hf,J⟩:=hc _ _ _ _ _ q
   obtain ⟨x,j,M⟩:=hd hf
   rw [j]
   refine Calls.mono (J μ w x H M) fun e w' N=>?_
   obtain ⟨z,A,y⟩:=N
   cases e with
   |returned u=>exact y.elim
   |panicked c=>
    obtain ⟨u,rfl,C⟩:=y
    exact D z u w' A C
   |outgrown=>exact y.elim
  ·cases k
 |panic v=>
  simp only [RZ,oI]at k
  subst k
  obtain ⟨u,j,C⟩:=hd
  rw [j]
  exact D μ u w (Aw.refl H) C
 |defer g args=>
  simp only [RZ,oI]at k
  subst k
  obtain ⟨d,j,O⟩:=hd
  rw [j]
  exact D d O
def Abv (ρ:Env) (μ:Aq):Bm→Exit→Prop
 |.normal,e=>e=.normal
 |.exit i,e=>e=.exit i
 |.ret,e=>e=.ret
 |.panic v,e=>∃u,e=.panic (Ii u)∧Ae ρ μ v u
def D7 (ρ:Env) (nt:Nat) (μ:Aq) (h:Al) (w:World) (Q:Exit→Act→World→Prop) (r:Bm×Fr):Prop:=
 ∀c d w' e,CY ρ c nt r.2 d w'→Aw ρ μ h w c r.2.h w'→Abv ρ c r.1 e→Q e d w'
theorem D7.grow {c:Aq} {d:Al} {w':World} {Q:Exit→Act→World→Prop} {r:Bm×Fr} (hl:D7 ρ nt μ h w Q r) (g:Aw ρ μ h w c d w'):D7 ρ nt c d w' Q r:=
 fun _ _ _ _ hf k j=>hl _ _ _ _ hf (g.trans k) j
theorem Kf {Q:Exit→Act→World→Prop} {i:Nat} {o:Oper} {K:Act→World→Prop} (d:ops[i]?=some o)
  (h:if Region.wanted o (yielded ops a.tmps)then o.wp P a w K Q else K (a.put o.dst undef) w):wpOp P ops Q i K a w:=by
 unfold wpOp
 rw [d]
 simp only
 split
 ·rename_i c
  rw [if_pos c]at h
  exact .inl h
 ·rename_i c
  rw [if_neg c]at h
  exact h
theorem CY.put {c:Aq} {f:Fr} {j:Al} {w':World} (F:CY ρ μ nt f a w) (g:μ.le c) (H:AO ρ c j w') {d:Option Tmp} (hd:∀t,d=some t→t<nt) {v:Aa} {u:Value} (k:Ae ρ c v u):CY ρ c nt ⟨DY f.tm d v,j,f.df⟩ (a.put d u) w':=
 ⟨(F.tmps.mono g).put (fun t e=>Nat.lt_of_lt_of_le (hd t e) F.size) k,by rw [Act.Mg];exact F.size,H,by
  have:(a.put d u).defers=a.defers:=by cases d<;>rfl
  rw [this];exact F.defs.mono g⟩
def Vd (ρ:Env) (nt:Nat) (μ:Aq) (h:Al) (a:Act) (w:World) (K:Act→World→Prop) (Q:Exit→Act→World→Prop):Cp→Prop
 |.go f'=>∀c d w',CY ρ c nt f' d w'→Aw ρ μ h w c f'.h w'→K d w'
 |.panic v f'=>∀c u w',CY ρ c nt f' a w'→Aw ρ μ h w c f'.h w'→Ae ρ c v u→Q (.panic (Ii u)) a w'
theorem O9 (N:Γ.AL ρ) (hc:BM P ρ call) {f:Fr} (F:CY ρ μ nt f a w) {o:Oper} {s:Step} (hs:NG P pl nt ops o s) {r:Cp} (j:I3 Γ call s f=some r) {K:Act→World→Prop} {Q:Exit→Act→World→Prop}
  (c:Vd ρ nt μ f.h a w K Q r):if Region.wanted o (yielded ops a.tmps)then o.wp P a w K Q else K (a.put o.dst undef) w:=by
 unfold I3 at j
 obtain ⟨b,hb,j⟩:=Ab j
 rw [EO F.tmps hs.guard (fun d b e=>Nat.lt_of_lt_of_le (hs.seen d b e) F.size) hb]
 cases b with
 |false=>
  simp only [cond_false,oI]at j
  subst j
  simp only [Bool.false_eq_true,if_false]
  have c:∀k x w',CY ρ k nt (⟨DY f.tm s.dst IG,f.h,f.df⟩:Fr) x w'→Aw ρ μ f.h w k f.h w'→K x w':=c
  rw [hs.dst]at c
  exact c μ _ w (F.put μ.le_refl F.heap hs.small IF) (Aw.refl F.heap)
 |true=>
  simp only [cond_true]at j
  simp only [if_true]
  have z:=hs.op
  unfold Ws at j
  split at j
  ·rename_i q H
   rw [H]at z
   obtain ⟨v,C,j⟩:=Ab j
   simp only [oI]at j
   subst j
   obtain ⟨u,A,D⟩:=Mw (w:=w) N F.tmps z C
   unfold Oper.wp
   rw [A]
   have c:∀k x w',CY ρ k nt (⟨DY f.tm s.dst v,f.h,f.df⟩:Fr) x w'→Aw ρ μ f.h w k f.h w'→K x w':=c
   rw [hs.dst]at c
   exact c μ _ w (F.put μ.le_refl F.heap hs.small D) (Aw.refl F.heap)
  ·rename_i q H
   rw [H]at z
   obtain ⟨v,C,j⟩:=Ab j
   simp only [oI]at j
   subst j
   obtain ⟨u,A,D⟩:=Mu N F.heap F.tmps z C
   unfold Oper.wp
   rw [A]
   have c:∀k x w',CY ρ k nt (⟨DY f.tm s.dst v,f.h,f.df⟩:Fr) x w'→Aw ρ μ f.h w k f.h w'→K x w':=c
   rw [hs.dst]at c
   exact c μ _ w (F.put μ.le_refl F.heap hs.small D) (Aw.refl F.heap)
  ·rename_i q H
   rw [H]at z
   obtain ⟨⟨B,v⟩,C,j⟩:=Ab j
   simp only [oI]at j
   subst j
   obtain ⟨O,u,A,m,hB,D⟩:=OM (w:=w) F.tmps z C
   have y:=Aw.add F.heap B O (0,m) hB
   unfold Oper.wp
   rw [A]
   have c:∀k x w',CY ρ k nt (⟨DY f.tm s.dst v,f.h.add B,f.df⟩:Fr) x w'→Aw ρ μ f.h w k (f.h.add B) w'→K x w':=c
   rw [hs.dst]at c
   exact c _ _ _ (F.put y.le y.rel hs.small (D _ y.le (Aq.BQ _ _ _))) y
  ·rename_i q H
   rw [H]at z
   obtain ⟨res,M,j⟩:=Ab j
   obtain ⟨out,J,rfl⟩:=M6 j
   refine Si hc F.heap (KY F.heap F.tmps z M) J ?_
   cases out with
   |val v h'=>
    have c:∀k x w',CY ρ k nt (⟨DY f.tm s.dst v,h',f.df⟩:Fr) x w'→Aw ρ μ f.h w k h' w'→K x w':=c
    rw [hs.dst]at c
    exact fun k u w' y C=>c k _ w' (F.put y.le y.rel hs.small C) y
   |panic v h'=>exact fun k u w' y C=>c k u w' ⟨F.tmps.mono y.le,F.size,y.rel,F.defs.mono y.le⟩ y C
   |defer g args=>
    have c:∀k x w',CY ρ k nt (⟨DY f.tm s.dst .any,f.h,(g,args)::f.df⟩:Fr) x w'→Aw ρ μ f.h w k f.h w'→K x w':=c
    rw [hs.dst]at c
    refine fun d hd=>c μ _ w ?_ (Aw.refl F.heap)
    have R:CY ρ μ nt ⟨f.tm,f.h,(g,args)::f.df⟩ {a with defers:=d::a.defers} w:=⟨F.tmps,F.size,F.heap,d,a.defers,rfl,hd,F.defs⟩
    exact R.put μ.le_refl F.heap hs.small trivial
theorem Tv (j:Γ.AL ρ) (hc:BM P ρ call) {f:Fr} (F:CY ρ μ nt f a w) {o:Oper} {s:Step} {i:Nat} (d:ops[i]?=some o) (hs:NG P pl nt ops o s) {r:Cp} (c:I3 Γ call s f=some r) {K:Act→World→Prop} {Q:Exit→Act→World→Prop}
  (g:Vd ρ nt μ f.h a w K Q r):wpOp P ops Q i K a w:=
 Kf d (O9 j hc F hs c g)
theorem Dy {α:Type}:∀{l:List (Option α)} {r:List α},BE l=some r→l=r.map some
 |[],r,h=>by simp only [BE,oI]at h;subst h;rfl
 |some a::l,r,h=>by
  simp only [BE]at h
  obtain ⟨d,c,e⟩:=mS h
  subst e
  simp [Dy c]
 |none::l,r,h=>by simp [BE]at h
theorem OE (s:Step) (r:List Step) (f:Fr):TK Γ call (s::r) f=AG (I3 Γ call s f) fun x=>goes x fun c=>TK Γ call r c:=rfl
theorem OD (A:Γ.AL ρ) (hc:BM P ρ call) {Q:Exit→Act→World→Prop}:∀(l:List Oper) (c:List Step) (k:Nat) {μ:Aq} {a:Act} {w:World} {f:Fr} {r:Cp},(∀j,l[j]?=ops[k+j]?)→BE (l.map fun o=>stepOf P pl nt ops o 0)=some c→
  TK Γ call c f=some r→CY ρ μ nt f a w→D7 ρ nt μ f.h w Q (FN r)→wpOps P ops Q (List.range' k l.length) a w
 |[],c,k,μ,a,w,f,r,hl,hs,d,F,L=>by
  simp only [List.map_nil,BE,oI]at hs
  subst hs
  have d:some (Cp.go f)=some r:=d
  simp only [oI]at d
  subst d
  exact L μ a w .normal F (Aw.refl F.heap) rfl
 |o::l,c,k,μ,a,w,f,r,hl,hs,d,F,L=>by
  have q:=Dy hs
  cases c with
  |nil=>simp at q
  |cons s c=>
   simp only [List.map_cons,List.cons.injEq]at q
   obtain ⟨M,z⟩:=q
   have D:BE (l.map fun o=>stepOf P pl nt ops o 0)=some c:=by
    rw [z]
    clear z d hs
    induction c with
    |nil=>rfl
    |cons x r ih=>simp only [List.map_cons,BE,ih,Option.map_some]
   rw [OE]at d
   obtain ⟨x,H,d⟩:=Ab d
   have J:ops[k]?=some o:=by simpa using (hl 0).symm
   rw [lC,List.range'_succ,wpOps_cons]
   refine Tv A hc F J (F3 M) H ?_
   cases x with
   |go f'=>exact fun C O w' y g=>OD A hc l c (k+1) (fun j=>by simpa [Nat.add_assoc,Nat.add_comm 1 j]using hl (j+1)) D d y (L.grow g)
   |panic v f'=>
    simp only [goes,oI]at d
    subst d
    exact fun C u w' y g N=>L C a w' _ y g ⟨u,rfl,N⟩
end
end Go.AM
end
section
namespace Go.AM
section
variable {Γ:Ao} {tm tm':Tr Aa} {h h':Al}
def DO (tm tm':Tr Aa) (l:List C9):Prop:=∀x∈l,ev tm x=ev tm' x
theorem Fa:∀{l:List C9},DO tm tm' l→Rr tm l=Rr tm' l
 |[],_=>rfl
 |x::r,h=>by
  show ev tm x::Rr tm r=ev tm' x::Rr tm' r
  rw [h x (by simp),Fa fun y c=>h y (by simp [c])]
theorem HI:∀{c:List (Nat×Nat×C9)} {cs:List Aa},DO tm tm' (c.map (·.2.2))→HJ tm c cs=HJ tm' c cs
 |[],_,_=>rfl
 |p::r,cs,h=>by
  show (AG (FD cs (ev tm p.2.2) p.1 p.2.1) fun cs=>HJ tm r cs)=AG (FD cs (ev tm' p.2.2) p.1 p.2.1) fun cs=>HJ tm' r cs
  rw [h p.2.2 (by simp)]
  congr 1
  funext cs
  exact HI fun y d=>h y (by simp only [List.map_cons,List.mem_cons];exact .inr d)
theorem EP {d:Nat} {o:Option C9} (h:DO tm tm' o.toList):Cu tm d o=Cu tm' d o:=by
 cases o with
 |none=>rfl
 |some x=>simp only [Cu];rw [h x (by simp)]
theorem TU {o:Option C9} (h:DO tm tm' o.toList):Ac4 tm o=Ac4 tm' o:=by
 cases o with
 |none=>rfl
 |some x=>simp only [Ac4];rw [h x (by simp)]
theorem M4 {o:Option C9} (h:DO tm tm' o.toList):Lz tm o=Lz tm' o:=by
 cases o with
 |none=>rfl
 |some x=>simp only [Lz];rw [h x (by simp)]
theorem DO.app {l d:List C9} (h:DO tm tm' (l++d)):DO tm tm' l∧DO tm tm' d:=⟨fun x c=>h x (by simp [c]),fun x c=>h x (by simp [c])⟩
theorem DO.cons {x:C9} {l:List C9} (h:DO tm tm' (x::l)):ev tm x=ev tm' x∧DO tm tm' l:=⟨h x (by simp),fun x c=>h x (by simp [c])⟩
theorem RX {o:POp} (h:DO tm tm' o.Ch):I6 Γ tm o=I6 Γ tm' o:=by
 cases o<;>simp only [POp.Ch]at h<;>simp only [I6]
 case build zero parts=>rw [HI h]
 case func f a c=>rw [Fa h.app.1,Fa h.app.2]
 case big m xs=>rw [Fa h]
 case subs x lo hi=>
  obtain ⟨k,g⟩:=h.cons
  obtain ⟨g,j⟩:=g.app
  rw [k,EP g]
  congr 1
  funext d
  exact EP j
 case reslice n x lo hi mx=>
  obtain ⟨k,g⟩:=h.cons
  obtain ⟨g,j⟩:=g.app
  obtain ⟨j,q⟩:=j.app
  have e:(fun d=>Cu tm d hi)=fun d=>Cu tm' d hi:=funext fun d=>EP j
  rw [k]
  unfold FY
  rw [EP g,TU q,e,M4 g,M4 j]
 case pick c a b=>rw [h.cons.1,h.cons.2.cons.1,h.cons.2.cons.2.cons.1]
 all_goals first
  |(rw [h.cons.1,h.cons.2.cons.1];done)
  |(rw [h.cons.1];done)
theorem F5 {o:NM} (c:DO tm tm' o.Ch):D0 Γ tm h o=D0 Γ tm' h o:=by
 cases o<;>simp only [NM.Ch]at c<;>simp only [D0]
 case load n x=>rw [c.cons.1]
 case lenM x=>rw [c.cons.1]
 case uptr ok x=>rw [c.cons.1]
 case bstr x=>rw [c.cons.1]
 case lookup kk z ok x k=>rw [c.cons.1,c.cons.2.cons.1]
theorem Ua {id:Nat} {o:AOp} (d:DO tm tm' o.Ch):XF tm id o=XF tm' id o:=by
 cases o<;>simp only [AOp.Ch]at d<;>simp only [XF]
 case box t x=>rw [d.cons.1]
 case bslice len z ps=>rw [HI d]
 case mkSlice z l c=>rw [d.cons.1,d.cons.2.cons.1]
theorem Qh {o:MOp} (c:DO tm tm' o.Ch):Ks tm h o=Ks tm' h o:=by
 cases o<;>simp only [MOp.Ch]at c<;>simp only [Ks]
 case call f args=>rw [c.cons.1,Fa c.cons.2]
 case defer f args=>rw [c.cons.1,Fa c.cons.2]
 case mapUp kk m k v=>rw [c.cons.1,c.cons.2.cons.1,c.cons.2.cons.2.cons.1]
 all_goals first
  |(rw [c.cons.1,c.cons.2.cons.1];done)
  |(rw [c.cons.1];done)
theorem Fq {l:List C9} (h:∀t∈l.flatMap C9.names,tm.get t=tm'.get t):DO tm tm' l:=fun x c=>by
 cases x with
 |con v=>rfl
 |tmp t=>
  simp only [ev]
  rw [h t (List.mem_flatMap.2 ⟨.tmp t,c,by simp [C9.names]⟩)]
end
theorem Z9 {P:Program} {pl:List C3} {o:Oper} {q:NM} (hc:D9 P pl o=some (.r q)):∀x∈q.Ch,∃y:Operand,x=AJ y:=by
 cases hop:o.op<;>simp only [D9,hop,reduceCtorEq,oI]at hc
 case load t x=>
  obtain ⟨n,v,e⟩:=mS hc
  simp only [DQ.r.injEq]at e
  subst e
  intro y g
  simp only [NM.Ch,List.mem_singleton]at g
  exact ⟨_,g⟩
 case lookup t x k ok=>
  split at hc
  ·split at hc
   ·obtain ⟨z,C,e⟩:=mS hc
    simp only [DQ.r.injEq]at e
    subst e
    intro y g
    simp only [NM.Ch,List.mem_cons,List.not_mem_nil,or_false]at g
    rcases g with g|g
    ·exact ⟨_,g⟩
    ·exact ⟨_,g⟩
   ·cases hc
  ·cases hc
 case call c=>
  unfold Fm at hc
  split at hc
  ·split at hc
   ·split at hc
    ·simp at hc
    ·split at hc
     ·split at hc<;>simp at hc
     ·split at hc
      ·split at hc<;>simp at hc
      ·cases hc
   ·cases hc
  ·simp at hc
  ·cases hc
  ·rename_i b hb
   split at hc
   ·split at hc
    ·simp at hc
    ·simp at hc
    ·simp at hc
    ·simp only [oI,DQ.r.injEq]at hc
     subst hc
     intro y g
     simp only [NM.Ch,List.mem_singleton]at g
     exact ⟨_,g⟩
    ·cases hc
   ·exfalso
    unfold EU at hc
    split at hc<;>first|cases hc|skip
    all_goals (split at hc<;>first|(cases hc;done) |(split at hc<;>simp at hc))
   ·exfalso
    split at hc<;>first|(cases hc;done) |(obtain ⟨_,_,e⟩:=mS hc;cases e)
   ·simp at hc
   ·simp at hc
   ·simp at hc
   ·simp at hc
   ·exfalso
    split at hc
    ·split at hc<;>simp at hc
    ·cases hc
   ·cases hc
 case convert s d x=>
  rcases CV hc with ⟨k0,k,hs,hd,e⟩|⟨hs,hd,e⟩|⟨t,n,hs,hd,v,e⟩|⟨u,n,hs,hd,v,e⟩|⟨el,hs,he,hd,e⟩
  ·cases e
  ·cases e
  all_goals
   simp only [DQ.r.injEq]at e
   subst e
   intro y g
   simp only [NM.Ch,List.mem_singleton]at g
   exact ⟨_,g⟩
 case typeAssert x xt t ok=>
  obtain ⟨d,i,z,H,hd,A,C,e⟩:=Cv hc
  cases e
 case defer c=>
  obtain ⟨j,args,D⟩:=c
  cases j<;>simp at hc
 case makeFunc fn x c=>cases fn<;>simp at hc
 case binOp op t x y yt=>obtain ⟨_,_,e⟩:=mS hc;cases e
 case slice t x lo A mx=>
  exfalso
  split at hc
  ·simp at hc
  ·obtain ⟨_,_,e⟩:=mS hc;cases e
  ·split at hc
   ·obtain ⟨_,_,e⟩:=mS hc;cases e
   ·cases hc
  ·cases hc
 case build t parts=>
  exfalso
  split at hc
  ·split at hc
   ·obtain ⟨_,_,e⟩:=mS hc;cases e
   ·cases hc
  ·obtain ⟨_,_,hc⟩:=Option.bind_eq_some_iff.1 hc
   obtain ⟨_,_,e⟩:=mS hc;cases e
  ·cases hc
 case fieldAddr t x f=>
  exfalso
  split at hc
  ·obtain ⟨_,_,hc⟩:=Option.bind_eq_some_iff.1 hc
   split at hc<;>simp at hc
  ·cases hc
 case field t x f=>
  exfalso
  split at hc
  ·obtain ⟨_,_,hc⟩:=Option.bind_eq_some_iff.1 hc
   obtain ⟨_,_,e⟩:=mS hc;cases e
  ·cases hc
 all_goals
  exfalso
  first
   |(cases hc;done)
   |(split at hc<;>first|(cases hc;done) |(simp at hc;done) |(obtain ⟨_,_,e⟩:=mS hc;cases e;done) |(split at hc<;>first|(cases hc;done) |(simp at hc;done) |(obtain ⟨_,_,e⟩:=mS hc;cases e;done) |(split at hc<;>first|(cases hc;done) |(simp at hc;done) |(obtain ⟨_,_,e⟩:=mS hc;cases e;done))))
   |(obtain ⟨_,_,e⟩:=mS hc;cases e;done)
section
variable {P:Program} {ρ:Env} {μ:Aq} {tm:Tr Aa} {a:Act} {h h':Al}
theorem TR {Γ:Ao} (hT:Be ρ μ tm a) {o:Oper} {pl:List C3} {q:NM} (hc:D9 P pl o=some (.r q)) (J:∀b B,μ b≠none→h.get b=some B→h'.get b=some B) {v:Aa} (d:D0 Γ tm h q=some v):D0 Γ tm h' q=some v:=by
 have cells:∀{b:Nat} {vs:List Aa},μ b≠none→cellsOf (h.get b)=some vs→cellsOf (h'.get b)=some vs:=fun {b vs} hb g=>by
  rcases EV g with e|⟨t,e⟩<;>rw [J _ _ hb e]<;>rfl
 have N:∀{b:Nat} {vs:List Entry×Nat},μ b≠none→mapOf (h.get b)=some vs→mapOf (h'.get b)=some vs:=fun {b vs} hb g=>by
  rw [J _ _ hb (DF g)];rfl
 have O:∀x∈q.Ch,∃u,Ae ρ μ (ev tm x) u:=fun x hx=>by
  obtain ⟨y,rfl⟩:=Z9 hc x hx
  exact ⟨_,Au hT y⟩
 cases q with
 |load n x=>
  obtain ⟨u,A⟩:=O x (by simp [NM.Ch])
  simp only [D0]at d⊢
  unfold MC at d⊢
  split at d
  ·rename_i b U j H D
   rw [D]at A
   obtain ⟨r,m,C,_⟩:=A.vptr
   obtain ⟨vs,g,ae⟩:=Ab d
   obtain ⟨l,hl,_⟩:=Ab g
   have hb:=J _ _ (by rw [C];simp) (Di hl)
   have e2:elemV Γ (h'.get b) U j=elemV Γ (h.get b) U j:=by rw [hb,Di hl]
   simp only [e2]
   exact d
  ·exact d
  ·rename_i b H D
   rw [D]at A
   obtain ⟨r,δ,m,C,_⟩:=A.ptr
   obtain ⟨vs,g,d⟩:=Ab d
   simp only [cells (by rw [C];simp) g]
   exact d
  ·cases d
 |lookup kk z ok x k=>
  obtain ⟨u,A⟩:=O x (by simp [NM.Ch])
  simp only [D0]at d⊢
  unfold WE at d⊢
  split at d
  ·exact d
  ·rename_i b D
   rw [D]at A
   obtain ⟨r,C,_⟩:=A.NW
   unfold Uh at d⊢
   split at d
   ·rename_i i hi
    have R:IN (h'.get b)=some i:=by rw [J _ _ (by rw [C];simp) (E6 hi)];rfl
    simp only [R]
    exact d
   ·obtain ⟨vs,g,d⟩:=Ab d
    have R:IN (h'.get b)=none:=by rw [J _ _ (by rw [C];simp) (DF g)];rfl
    simp only [R,N (by rw [C];simp) g]
    exact d
  ·cases d
 |lenM x=>
  obtain ⟨u,A⟩:=O x (by simp [NM.Ch])
  simp only [D0]at d⊢
  unfold WG at d⊢
  split at d
  ·exact d
  ·rename_i b D
   rw [D]at A
   obtain ⟨r,C,_⟩:=A.NW
   obtain ⟨vs,g,d⟩:=Ab d
   simp only [N (by rw [C];simp) g]
   exact d
  ·cases d
 |bstr x=>
  obtain ⟨u,A⟩:=O x (by simp [NM.Ch])
  simp only [D0]at d⊢
  have key:∀b H len,μ b≠none→N1 h b H len=some v→N1 h' b H len=some v:=fun b H len hb Q=>by
   unfold N1 at Q⊢
   cases hl:Nat.beq len 0 with
   |true=>rw [hl]at Q;exact Q
   |false=>
    rw [hl]at Q
    obtain ⟨vs,g,Z⟩:=Ab Q
    simp only [cond_false,cells hb g]
    exact Z
  unfold Xc at d⊢
  split at d
  ·exact d
  ·rename_i b H len c D
   rw [D]at A
   obtain ⟨r,δ,m,C,_⟩:=A.slice
   exact key _ _ _ (by rw [C];simp) d
  ·rename_i b H len c D
   rw [D]at A
   obtain ⟨r,δ,m,_,C,_⟩:=A.gslice
   exact key _ _ _ (by rw [C];simp) d
  ·cases d
 |uptr ok x=>
  obtain ⟨u,A⟩:=O x (by simp [NM.Ch])
  simp only [D0]at d⊢
  unfold Oy at d⊢
  split at d
  ·rename_i b D
   rw [D]at A
   obtain ⟨r,δ,m,C,_⟩:=A.ptr
   have M:=d
   unfold Y2 at M
   split at M
   ·rename_i e vs hb
    rw [hb]at d
    rw [J _ _ (by rw [C];simp) hb]
    exact d
   ·cases M
  ·cases d
end
end Go.AM
end
section
namespace Go.AM
structure Item where
 i:Nat
 s:Step
 e:Option (Aa×Option Block)
def Item.pair (x:Item):Nat×Step:=(x.i,x.s)
def Gz:List Item→(Nat→Option Aa)→Nat→Option Aa
 |[],g,t=>g t
 |x::r,g,t=>match x.e with
  |some u=>if x.s.dst=some t then some u.1 else Gz r g t
  |none=>Gz r g t
def EC:List Item→Nat→(Nat→Option Block)→Nat→Option Block
 |[],_,g,b=>g b
 |x::r,id,g,b=>match x.e with
  |some (_,some B)=>if b=id then some B else EC r (id+1) g b
  |_=>EC r (id+1) g b
def Clo (W:Nat→Nat→Bool):List Item→Prop
 |[]=>True
 |x::r=>(x.e=none→∀z∈r,z.e≠none→W x.i z.i=false)∧Clo W r
def Yr (Γ:Ao) (call:C1):List Item→Nat→Fr→Prop
 |[],_,_=>True
 |x::r,id,f=>(∀u,x.e=some u→HG Γ f.tm f.h id x.s=some u)∧
  ((∃c,I2 Γ call x.s id f=some (.go c)∧Yr Γ call r (id+1) c)∨∀y∈r,y.e=none)
structure Xn (W:Nat→Nat→Bool) (x y:Nat×Step):Prop where
 ne:x.1≠y.1
 chg:BZ y.2.op=true→W x.1 y.1=true
 dst:∀d,x.2.dst=some d→y.2.dst≠some d
 reads:∀d,x.2.dst=some d→d∈y.2.names→W x.1 y.1=true
 writes:∀d,y.2.dst=some d→d∈x.2.names→W x.1 y.1=true
section
variable {W:Nat→Nat→Bool}
theorem any_beq {l:List Nat} {d:Nat}:l.any (Nat.beq d)=true↔d∈l:=by
 rw [List.any_eq_true]
 constructor
 ·rintro ⟨x,hx,e⟩
  rw [An.1 e];exact hx
 ·intro h
  exact ⟨d,h,An.2 rfl⟩
theorem Tc {x y:Nat×Step} (h:UX W x y=true):Xn W x y:=by
 unfold UX at h
 rw [aT,aT,aT]at h
 obtain ⟨⟨⟨k,o⟩,c⟩,j⟩:=h
 refine ⟨fun e=>?_,fun u=>?_,fun d hd q=>?_,fun d hd g=>?_,fun d hd g=>?_⟩
 ·rw [An.2 e]at k;cases k
 ·rw [u]at o;simpa using o
 ·rw [hd,q]at c
  simp only [aT]at c
  rw [An.2 rfl]at c
  simp at c
 ·rw [hd]at c
  simp only [aT,Bool.or_eq_true]at c
  rcases c.2 with h|h
  ·rw [any_beq.2 g]at h;cases h
  ·exact h
 ·rw [hd]at j
  simp only [Bool.or_eq_true]at j
  rcases j with h|h
  ·rw [any_beq.2 g]at h;cases h
  ·exact h
structure OkD (W:Nat→Nat→Bool) (x:Nat×Step) (r:List (Nat×Step)):Prop where
 self:∀d,x.2.dst=some d→d∉x.2.names
 apart:∀y∈r,Xn W x y
 back:BZ x.2.op=true→N6 W x.1 r 0=true
 rest:okD W r=true
theorem Fg {x:Nat×Step} {r:List (Nat×Step)} (h:okD W (x::r)=true):OkD W x r:=by
 simp only [okD,aT]at h
 obtain ⟨c,k,g,o⟩:=h
 refine ⟨fun d hd j=>?_,fun y q=>Tc (List.all_eq_true.1 k y q),fun u=>?_,o⟩
 ·unfold Adt at c
  rw [hd]at c
  simp only at c
  rw [any_beq.2 j]at c
  cases c
 ·rw [u]at g;simpa using g
def muts (l:List (Nat×Step)):Nat:=l.countP fun x=>BZ x.2.op
theorem Jl {x:Nat}:∀{pre post:List (Nat×Step)} {y:Nat×Step} {k:Nat},N6 W x (pre++y::post) k=true→BZ y.2.op=false→W x y.1=false→k+muts pre<y.2.back
 |[],post,y,k,h,hm,hw=>by
  simp only [List.nil_append,N6,hm,Bool.false_eq_true,if_false,aT,Bool.or_eq_true,hw,or_false]at h
  have:=AX.1 h.1
  simp only [muts,List.countP_nil]
  omega
 |z::pre,post,y,k,h,hm,hw=>by
  simp only [List.cons_append,N6]at h
  cases hz:BZ z.2.op with
  |true=>
   rw [hz]at h
   simp only [if_true]at h
   have:=Jl h hm hw
   simp only [muts,List.countP_cons,hz,if_true]at this⊢
   omega
  |false=>
   rw [hz]at h
   simp only [Bool.false_eq_true,if_false,aT]at h
   have:=Jl h.2 hm hw
   simp only [muts,List.countP_cons,hz]at this⊢
   simpa using this
theorem Ln (s:Step) (r:List Step) (k:Nat):KI (s::r) k=bif BZ s.op then KI r (k+1)else Nat.ble s.back k&&KI r k:=rfl
theorem HS:∀{pre post:List (Nat×Step)} {y:Nat×Step} {k:Nat},KI ((pre++y::post).map (·.2)) k=true→BZ y.2.op=false→y.2.back≤k+muts pre
 |[],post,y,k,h,hm=>by
  simp only [List.nil_append,List.map_cons,Ln,hm,cond_false,aT]at h
  have:=AX.1 h.1
  simp only [muts,List.countP_nil]
  omega
 |z::pre,post,y,k,h,hm=>by
  simp only [List.cons_append,List.map_cons,Ln]at h
  cases hz:BZ z.2.op with
  |true=>
   rw [hz]at h
   simp only [cond_true]at h
   have:=HS h hm
   simp only [muts,List.countP_cons,hz,if_true]at this⊢
   omega
  |false=>
   rw [hz]at h
   simp only [cond_false,aT]at h
   have:=HS h.2 hm
   simp only [muts,List.countP_cons,hz]at this⊢
   simpa using this
end
theorem Ew:∀{r:List Item} {g c:Nat→Option Aa} {t:Nat},g t=c t→Gz r g t=Gz r c t
 |[],_,_,_,h=>h
 |x::r,g,c,t,h=>by
  simp only [Gz]
  cases x.e with
  |none=>exact Ew h
  |some u=>
   dsimp only
   split
   ·rfl
   ·exact Ew h
theorem DL:∀{r:List Item} {g:Nat→Option Aa} {t:Nat},(∀z∈r,z.e≠none→z.s.dst≠some t)→Gz r g t=g t
 |[],_,_,_=>rfl
 |x::r,g,t,h=>by
  simp only [Gz]
  have ih:=DL (g:=g) fun z c=>h z (List.mem_cons_of_mem _ c)
  cases hx:x.e with
  |none=>exact ih
  |some u=>
   dsimp only
   rw [if_neg (h x List.mem_cons_self (by rw [hx];simp))]
   exact ih
theorem DX (tm:Tr Aa) (d:Option Nat) (v:Aa) (t:Nat):(DY tm d v).get t=if d=some t then some v else tm.get t:=by
 cases d with
 |none=>simp [DY]
 |some d=>
  simp only [DY,Tr.Bq,oI]
  by_cases h:t=d
  ·rw [if_pos h,if_pos h.symm]
  ·rw [if_neg h,if_neg (Ne.symm h)]
theorem E8 (h:Al) (id:Nat) (B:Option Block) (b:Nat):(Gq h id B).get b=match B with|some B=>if b=id then some B else h.get b|none=>h.get b:=by
 cases B with
 |none=>rfl
 |some B=>exact Tr.Bq _ _ _ _
theorem EY (h:Al) (id:Nat) (B:Option Block):(Gq h id B).next=h.next:=by cases B<;>rfl
theorem G0:∀{r:List Item} {id:Nat} {g c:Nat→Option Block} {b:Nat},g b=c b→EC r id g b=EC r id c b
 |[],_,_,_,_,h=>h
 |x::r,id,g,c,b,h=>by
  simp only [EC]
  split
  ·split
   ·rfl
   ·exact G0 h
  ·exact G0 h
theorem Jb:∀{r:List Item} {id:Nat} {g:Nat→Option Block} {b:Nat},b<id→EC r id g b=g b
 |[],_,_,_,_=>rfl
 |x::r,id,g,b,h=>by
  simp only [EC]
  split
  ·rw [if_neg (by omega)]
   exact Jb (by omega)
  ·exact Jb (by omega)
theorem Ja:∀{r:List Item} {id:Nat} {g:Nat→Option Block} {b:Nat} {B:Block},EC r id g b=some B→g b=some B∨∃k x v,r[k]?=some x∧x.e=some (v,some B)∧b=id+k
 |[],_,_,_,_,h=>.inl h
 |x::r,id,g,b,B,h=>by
  simp only [EC]at h
  split at h
  ·rename_i v d c
   split at h
   ·rename_i e
    simp only [oI]at h
    subst h
    exact .inr ⟨0,x,v,rfl,c,e⟩
   ·rcases Ja h with h|⟨k,y,v,h1,h2,h3⟩
    ·exact .inl h
    ·exact .inr ⟨k+1,y,v,by simpa using h1,h2,by omega⟩
  ·rcases Ja h with h|⟨k,y,v,h1,h2,h3⟩
   ·exact .inl h
   ·exact .inr ⟨k+1,y,v,by simpa using h1,h2,by omega⟩
theorem QK:∀{r:List Item} {id:Nat} {g:Nat→Option Block} {k:Nat} {x:Item} {v:Aa} {B:Block},r[k]?=some x→x.e=some (v,some B)→EC r id g (id+k)=some B
 |[],_,_,_,_,_,_,h,_=>by simp at h
 |y::r,id,g,0,x,v,B,h,hx=>by
  simp only [List.getElem?_cons_zero,oI]at h
  subst h
  simp [EC,hx]
 |y::r,id,g,k+1,x,v,B,h,hx=>by
  have ih:=QK (id:=id+1) (g:=g) (by simpa using h) hx
  rw [show id+1+k=id+(k+1)from by omega]at ih
  simp only [EC]
  split
  ·rw [if_neg (by omega)];exact ih
  ·exact ih
theorem MY:∀{r:List Item} {id:Nat} {g:Nat→Option Block} {b:Nat},(∀k x v B,r[k]?=some x→x.e=some (v,some B)→b≠id+k)→EC r id g b=g b:=fun {r id g b} h=>by
 induction r generalizing id with
 |nil=>rfl
 |cons x r ih=>
  have ih:=ih (id:=id+1) fun k y v B c d=>by
   have:=h (k+1) y v B (by simpa using c) d
   omega
  simp only [EC]
  split
  ·rename_i v B j
   rw [if_neg (by simpa using h 0 x v B rfl j)]
   exact ih
  ·exact ih
section
variable {Γ:Ao} {call:C1} {all:List Step}
theorem GC (s:Step) (r:List Step) (id:Nat) (f:Fr) (hs:List Al):Ll Γ call all (s::r) id f hs=
  bif LG Γ s f hs then AG (I2 Γ call s id f) fun x=>Su all r x fun c=>Ll Γ call all r (id+1) c (bif BZ s.op then f.h::hs else Mk id (Lc f.h c.h id) hs)else none:=rfl
theorem Xz {id:Nat} {B:Option Block}:∀{hs:List Al} {n:Nat} {c:Al},hs[n]?=some c→(Mk id B hs)[n]?=some (Gq c id B):=by
 cases B with
 |none=>intro hs n c h;exact h
 |some B=>
  intro hs
  induction hs with
  |nil=>intro n c h;simp at h
  |cons x r ih=>
   intro n c h
   have e:Mk id (some B) (x::r)=Gq x id (some B)::Mk id (some B) r:=rfl
   rw [e]
   cases n with
   |zero=>simp only [List.getElem?_cons_zero,oI]at h⊢;rw [h]
   |succ n=>rw [List.getElem?_cons_succ]at h⊢;exact ih h
theorem Ie {s:Step} {id:Nat} {f:Fr} (d:BZ s.op=false) {x:Cp} (h:I2 Γ call s id f=some x):∃u,HG Γ f.tm f.h id s=some u∧x=.go ⟨DY f.tm s.dst u.1,Gq f.h id u.2,f.df⟩:=by
 unfold I2 at h
 rw [d]at h
 obtain ⟨u,c,h⟩:=Ab h
 simp only [oI]at h
 exact ⟨u,c,h.symm⟩
theorem Jy {s:Step} {id:Nat} {f:Fr} (c:BZ s.op=false) {u:Aa×Option Block} (h:HG Γ f.tm f.h id s=some u):I2 Γ call s id f=some (.go ⟨DY f.tm s.dst u.1,Gq f.h id u.2,f.df⟩):=by
 unfold I2
 rw [c,h]
 rfl
theorem OA {s:Step} {id:Nat} {f:Fr} (c:BZ s.op=true):I2 Γ call s id f=I3 Γ call s f:=by
 unfold I2
 rw [c]
 rfl
theorem YJ {s:Step} {f c:Fr} (h:I3 Γ call s f=some (.go c)):∃v,c.tm=DY f.tm s.dst v:=by
 unfold I3 at h
 obtain ⟨b,hb,h⟩:=Ab h
 cases b with
 |false=>
  simp only [cond_false,XN,oI,Cp.go.injEq]at h
  exact ⟨_,by subst h;rfl⟩
 |true=>
  simp only [cond_true]at h
  unfold Ws at h
  split at h
  ·obtain ⟨v,_,h⟩:=Ab h
   simp only [XN,oI,Cp.go.injEq]at h
   exact ⟨_,by subst h;rfl⟩
  ·obtain ⟨v,_,h⟩:=Ab h
   simp only [XN,oI,Cp.go.injEq]at h
   exact ⟨_,by subst h;rfl⟩
  ·obtain ⟨v,_,h⟩:=Ab h
   simp only [K4,oI,Cp.go.injEq]at h
   exact ⟨_,by subst h;rfl⟩
  ·obtain ⟨r,_,h⟩:=Ab h
   obtain ⟨o,_,h⟩:=M6 h
   cases o with
   |val v h'=>
    simp only [Ac3,K4,Cp.go.injEq]at h
    exact ⟨_,by subst h;rfl⟩
   |panic v h'=>simp only [Ac3,reduceCtorEq]at h
   |defer g args=>
    simp only [Ac3,Cp.go.injEq]at h
    exact ⟨_,by subst h;rfl⟩
theorem YI {s:Step} {id:Nat} {f c:Fr} (h:I2 Γ call s id f=some (.go c)):∃v,c.tm=DY f.tm s.dst v:=by
 cases hm:BZ s.op with
 |true=>rw [OA hm]at h;exact YJ h
 |false=>
  obtain ⟨u,_,h⟩:=Ie hm h
  simp only [Cp.go.injEq]at h
  exact ⟨_,by subst h;rfl⟩
theorem U5 {tm c:Tr Aa} {h:Al} {id:Nat} {s:Step} (k:∀t∈s.names,tm.get t=c.get t):HG Γ tm h id s=HG Γ c h id s:=by
 have q:Dn tm s.guard=Dn c s.guard:=by
  unfold Dn
  cases hg:s.guard with
  |none=>rfl
  |some g=>
   dsimp only
   rw [k g.1 (by simp [Step.names,hg])]
 have d:DO tm c s.op.Ch:=Fq fun t j=>k t (by
  unfold Step.names
  split
  ·exact List.mem_cons_of_mem _ j
  ·exact j)
 unfold HG
 rw [q]
 congr 1
 funext w
 cases w with
 |false=>rfl
 |true=>
  simp only [cond_true]
  unfold U6
  cases ho:s.op with
  |p o=>rw [ho]at d;simp only;rw [RX d]
  |r o=>rw [ho]at d;simp only;rw [F5 d]
  |a o=>rw [ho]at d;simp only;rw [Ua d]
  |m o=>rfl
end
end Go.AM
end
section
namespace Go.AM
theorem Aa.Aa6 {x y:Aa} (h:x.eqs y=true):x=y:=by
 unfold Aa.eqs at h
 split at h
 ·rw [Aa.Dk h]
 ·rw [Aa.Dk h]
 ·exact Aa.Dw h
section
variable {Γ:Ao} {call:C1} {all:List Step} {W:Nat→Nat→Bool}
theorem Lw {Γ:Ao} {tm:Tr Aa} {o:NM} {v:Aa}:∀{k n:Nat} {hs:List Al} {h:Al},UY Γ tm o v k hs=true→n<k→hs[n]?=some h→D0 Γ tm h o=some v
 |0,_,_,_,_,hn,_=>by omega
 |k+1,n,[],h,ha,hn,hh=>by simp at hh
 |k+1,n,g::hs,h,ha,hn,hh=>by
  have ha:(Z7 v (D0 Γ tm g o)&&UY Γ tm o v k hs)=true:=ha
  rw [aT]at ha
  cases n with
  |zero=>
   simp only [List.getElem?_cons_zero,oI]at hh
   subst hh
   have c:=ha.1
   unfold Z7 at c
   split at c
   ·rename_i u d
    rw [d,Aa.Aa6 c]
   ·cases c
  |succ n=>exact Lw (k:=k) (n:=n) ha.2 (Nat.lt_of_succ_lt_succ hn) (by simpa using hh)
theorem P6 {Γ:Ao} {s:Step} {f:Fr} {hs:List Al} {o:NM} (q:s.op=.r o) (h:LG Γ s f hs=true) (g:Dn f.tm s.guard=some true) {v:Aa} (j:D0 Γ f.tm f.h o=some v) {n:Nat} {d:Al} (c:n<s.back) (u:hs[n]?=some d):D0 Γ f.tm d o=some v:=by
 unfold LG at h
 cases hb:s.back with
 |zero=>omega
 |succ m=>
  rw [q,hb]at h
  simp only at h
  unfold VR at h
  rw [g]at h
  simp only [j]at h
  exact Lw (k:=m+1) h (by rw [hb]at c;exact c) u
def Abi (μ:Aq) (h:Al) (f:Fr) (hs:List Al) (pre:List Item) (back:Nat):Prop:=
 (∀b B,μ b≠none→f.h.get b=some B→h.get b=some B)∨
 ∃n c,hs[n]?=some c∧(∀b B,μ b≠none→c.get b=some B→h.get b=some B)∧n+muts (pre.map Item.pair)<back
theorem Il:∀{l:List Item} {id:Nat} {f:Fr},(∀y∈l,y.e=none)→Yr Γ call l id f
 |[],_,_,_=>trivial
 |z::_,_,_,h=>⟨fun _ e=>(by rw [h z (by simp)]at e;cases e),.inr fun w c=>h w (by simp [c])⟩
theorem early {μ:Aq} {tm:Tr Aa} {h:Al} {res:Cp} {y:Item} {post:List Item} (hy:y.e=none) (C:BZ y.s.op=false)
  (H:∀o,y.s.op=.r o→∀J:Al,(∀b B,μ b≠none→J.get b=some B→h.get b=some B)→∀v,D0 Γ tm J o=some v→D0 Γ tm h o=some v):
  ∀(pre:List Item) {id:Nat} {f:Fr} {hs:List Al},okD W ((pre++y::post).map Item.pair)=true→Clo W (pre++y::post)→(∀x∈pre++y::post,x.e≠none→BZ x.s.op=false)→
   (∀x∈pre,x.e=none→W x.i y.i=false)→Ll Γ call all ((pre++y::post).map (·.s)) id f hs=some res→Yr Γ call (pre++y::post) id f→
   (∀t∈y.s.names,tm.get t=Gz (pre++y::post) f.tm.get t)→Abi μ h f hs pre y.s.back→
   (∀(k:Nat) (x:Item) (v:Aa) (B:Block),pre[k]?=some x→x.e=some (v,some B)→h.get (id+k)=some B)→(∀(k:Nat) (x:Item),pre[k]?=some x→x.e=none→μ (id+k)=none)→
   ∃u,HG Γ tm h (id+pre.length) y.s=some u∧Yr Γ call (pre++{y with e:=some u}::post) id f
 |[],id,f,hs,hok,hclo,hflo,_,hd,hfut,ht,hsee,_,_=>by
  have U:=Fg (x:=y.pair) (r:=post.map Item.pair) hok
  simp only [List.nil_append,List.map_cons,GC]at hd
  obtain ⟨ag,hd⟩:=Ap hd
  obtain ⟨x,hx,hd⟩:=Ab hd
  obtain ⟨u,j,rfl⟩:=Ie C hx
  have M:∀t∈y.s.names,tm.get t=f.tm.get t:=fun t N=>by
   rw [ht t N]
   simp only [List.nil_append,Gz,hy]
   refine DL fun z A ao ab=>?_
   have R:=(U.apart z.pair (List.mem_map_of_mem A)).writes t ab N
   have Q:=hclo.1 hy z A ao
   simp only [Item.pair]at R
   rw [R]at Q
   cases Q
  refine ⟨u,?_,?_⟩
  ·rw [U5 M]at*
   simp only [lN,Nat.add_zero]
   cases hop:y.s.op with
   |m o=>rw [hop]at C;cases C
   |p o=>
    have:HG Γ f.tm h id y.s=HG Γ f.tm f.h id y.s:=by unfold HG U6;rw [hop]
    rw [this];exact j
   |a o=>
    have:HG Γ f.tm h id y.s=HG Γ f.tm f.h id y.s:=by unfold HG U6;rw [hop]
    rw [this];exact j
   |r o=>
    have aB:=j
    unfold HG at j⊢
    obtain ⟨b,hb,j⟩:=Ab j
    rw [hb]
    show (bif b then U6 Γ f.tm h id y.s.op else some (IG,none))=some u
    cases b with
    |false=>exact j
    |true=>
     simp only [cond_true]at j⊢
     rw [hop]at j⊢
     simp only [U6]at j⊢
     obtain ⟨v,hv,j⟩:=Ab j
     simp only [oI]at j
     subst j
     have ac:DO tm f.tm o.Ch:=Fq fun t N=>M t (by
      unfold Step.names
      rw [hop]
      split
      ·exact List.mem_cons_of_mem _ N
      ·exact N)
     have ak:D0 Γ f.tm h o=some v:=by
      rw [←F5 ac]
      rcases hsee with q|⟨n,J,hh,hs2,hlt⟩
      ·exact H o hop f.h q v (by rw [F5 ac];exact hv)
      ·refine H o hop J hs2 v ?_
       rw [F5 ac]
       exact P6 hop ag hb hv (n:=n) (by omega) hh
     rw [ak]
     rfl
  ·refine ⟨fun u' e=>?_,hfut.2⟩
   simp only [oI]at e
   subst e
   exact j
 |x::pre,id,f,hs,hok,hclo,hflo,hW,hd,hfut,ht,hsee,hE,hN=>by
  have U:=Fg (x:=x.pair) (r:=(pre++y::post).map Item.pair) hok
  have am:y.pair∈(pre++y::post).map Item.pair:=List.mem_map_of_mem (by simp)
  have hA:=U.apart y.pair am
  have aa:(pre++y::post).map Item.pair=pre.map Item.pair++y.pair::post.map Item.pair:=by simp
  simp only [List.cons_append,List.map_cons,GC]at hd
  obtain ⟨ag,hd⟩:=Ap hd
  obtain ⟨r,P,hd⟩:=Ab hd
  have ah:x.e=none→BZ x.s.op=true→muts (pre.map Item.pair)<y.s.back:=fun d c=>by
   have hb:=U.back c
   rw [aa]at hb
   have:=Jl hb C (hW x (by simp) d)
   simp only [Item.pair]at this⊢
   omega
  have D:x.e≠none→BZ x.s.op=false:=fun d=>hflo x (by simp) d
  cases r with
  |panic v f1=>
   exfalso
   have c:BZ x.s.op=true:=by
    cases hb:BZ x.s.op with
    |true=>rfl
    |false=>
     obtain ⟨u,_,e⟩:=Ie hb P
     cases e
   have d:x.e=none:=by
    cases hb:x.e with
    |none=>rfl
    |some u=>rw [D (by rw [hb];simp)]at c;cases c
   simp only [Su]at hd
   obtain ⟨au,_⟩:=Ap hd
   have aj:KI ((pre.map Item.pair++y.pair::post.map Item.pair).map (·.2)) 0=true:=by
    rw [←aa]
    rw [List.map_map]
    exact au
   have R:=HS aj C
   have Q:=ah d c
   simp only [Item.pair]at R Q
   omega
  |go f'=>
   simp only [Su]at hd
   obtain ⟨v,hv⟩:=YI P
   have ad:Yr Γ call (pre++y::post) (id+1) f':=by
    rcases hfut.2 with ⟨g,hg,hf⟩|hf
    ·rw [P]at hg
     simp only [oI,Cp.go.injEq]at hg
     subst hg
     exact hf
    ·exact Il hf
   have an:∀t∈y.s.names,tm.get t=Gz (pre++y::post) f'.tm.get t:=fun t N=>by
    rw [ht t N]
    simp only [List.cons_append,Gz]
    cases d:x.e with
    |none=>
     simp only
     refine Ew ?_
     rw [hv,DX]
     rw [if_neg]
     intro hd
     have R:=hA.reads t hd N
     have Q:=hW x (by simp) d
     simp only [Item.pair]at R
     rw [R]at Q
     cases Q
    |some u=>
     simp only
     have c:=D (by rw [d];simp)
     have O:=hfut.1 u d
     rw [Jy c O]at P
     simp only [oI,Cp.go.injEq]at P
     subst P
     by_cases hd:x.s.dst=some t
     ·rw [if_pos hd,DL,DX,if_pos hd]
      intro z A _ ab
      exact (U.apart z.pair (List.mem_map_of_mem A)).dst t hd ab
     ·rw [if_neg hd]
      exact Ew (by rw [DX,if_neg hd])
   have ae:Abi μ h f' (bif BZ x.s.op then f.h::hs else Mk id (Lc f.h f'.h id) hs) pre y.s.back:=by
    cases c:BZ x.s.op with
    |true=>
     have d:x.e=none:=by
      cases hb:x.e with
      |none=>rfl
      |some u=>rw [D (by rw [hb];simp)]at c;cases c
     rcases hsee with q|⟨n,J,hh,hs2,hlt⟩
     ·exact .inr ⟨0,f.h,rfl,q,by have:=ah d c;omega⟩
     ·refine .inr ⟨n+1,J,by simpa using hh,hs2,?_⟩
      have:muts ((x::pre).map Item.pair)=muts (pre.map Item.pair)+1:=by
       simp only [muts,List.map_cons,List.countP_cons]
       simp only [Item.pair,c,if_true]
      omega
    |false=>
     simp only [cond_false]
     obtain ⟨u,j,e⟩:=Ie c P
     simp only [Cp.go.injEq]at e
     have Z:∀g:Al,(∀b B,μ b≠none→g.get b=some B→h.get b=some B)→∀b B,μ b≠none→(Gq g id u.2).get b=some B→h.get b=some B:=fun g q b B hb hB=>by
      simp only [E8]at hB
      split at hB
      ·rename_i B' eB
       split at hB
       ·rename_i eb
        simp only [oI]at hB
        subst hB
        cases d:x.e with
        |none=>
         have:=hN 0 x rfl d
         rw [Nat.add_zero]at this
         rw [eb]at hb
         exact absurd this hb
        |some u'=>
         have O:=hfut.1 u' d
         rw [j]at O
         simp only [oI]at O
         subst O
         have:=hE 0 x u.1 B' rfl (by rw [d,←eB])
         rw [eb];simpa using this
       ·exact q b B hb hB
      ·exact q b B hb hB
     have aA:muts ((x::pre).map Item.pair)=muts (pre.map Item.pair):=by
      simp only [muts,List.map_cons,List.countP_cons]
      simp only [Item.pair,c]
      simp
     rcases hsee with q|⟨n,J,hh,hs2,hlt⟩
     ·left
      rw [e]
      exact Z f.h q
     ·have al:(Gq f.h id u.2).get id=match u.2 with|some B=>some B|none=>f.h.get id:=by rw [E8];cases u.2<;>simp
      cases hg:f.h.get id with
      |some B0=>
       have C:Lc f.h f'.h id=none:=by unfold Lc;rw [hg]
       rw [C]
       exact .inr ⟨n,J,hh,hs2,by omega⟩
      |none=>
       have C:Lc f.h f'.h id=u.2:=by
        unfold Lc;rw [hg,e];show (Gq f.h id u.2).get id=u.2
        rw [al,hg];cases u.2<;>rfl
       rw [C]
       exact .inr ⟨n,_,Xz hh,Z J hs2,by omega⟩
   obtain ⟨u,j,hF⟩:=early hy C H pre U.rest hclo.2 (fun z A=>hflo z (by simp only [List.cons_append,List.mem_cons];exact .inr A)) (fun z A=>hW z (by simp [A])) hd ad an ae
    (fun k z v B A d=>by have:=hE (k+1) z v B (by simpa using A) d;rw [show id+(k+1)=id+1+k from by omega]at this;exact this)
    (fun k z A d=>by have:=hN (k+1) z (by simpa using A) d;rw [show id+(k+1)=id+1+k from by omega]at this;exact this)
   refine ⟨u,?_,hfut.1,.inl ⟨f',P,hF⟩⟩
   rw [lC,show id+(pre.length+1)=id+1+pre.length from by omega]
   exact j
end
end Go.AM
end
section
namespace Go.AM
section
variable {ρ:Env} {μ μ' μ0:Aq} {h h' h0 h1:Al} {w w' w0:World}
theorem Aw.sub (H:AO ρ μ h w) (g:h'.next=h.next) (d:h'.fx=h.fx) (hs:∀b B,h'.get b=some B→h.get b=some B):Aw ρ μ h w μ h' w:=
 ⟨μ.le_refl,H.drop _ g d hs,Nat.le_refl _,fun r _ j=>⟨rfl,fun ⟨c,B,δ,hc,hm⟩=>j ⟨c,B,δ,hs c B hc,hm⟩⟩,rfl,rfl,Nat.le_of_eq g.symm,fun _ _=>rfl,fun _ _ h=>.inl h,d⟩
theorem Aw.under (H:AO ρ μ h w) (hn:h0.next=h.next) (hs:∀b B,h0.get b=some B→h.get b=some B) (g:Aw ρ μ h0 w μ' h1 w') (ai:h'.next=h1.next) (O:h'.fx=h1.fx) (Z:h0.fx=h.fx)
  (J:∀b B,h'.get b=some B→h1.get b=some B∨(h.get b=some B∧h0.get b=none)):Aw ρ μ h w μ' h' w':=by
 have un:∀{b B r δ},h.get b=some B→h0.get b=none→μ b=some (r,δ)→¬AU μ h0 r:=fun {b B r δ} hb h0b d ⟨c,C,D,hc,hmc⟩=>by
  have:=H.inj _ _ _ _ _ _ _ (hs c C hc) hb hmc d
  subst this
  rw [h0b]at hc
  cases hc
 have old:∀{b B},h.get b=some B→h0.get b=none→∃r δ,μ b=some (r,δ)∧μ' b=some (r,δ)∧w'.heap[r]?=w.heap[r]?∧¬AU μ' h1 r∧CL ρ μ B w.heap[r]? δ:=fun {b B} hb h0b=>by
  obtain ⟨r,δ,d,hB⟩:=H.blk b B hb
  obtain ⟨R,k2⟩:=g.kept r (H.lt hb d) (un hb h0b d)
  exact ⟨r,δ,d,g.le.to _ _ d,R,k2,hB⟩
 have A:∀r,r<w.heap.size→¬AU μ h r→w'.heap[r]?=w.heap[r]?∧¬AU μ' h' r:=fun r hr ho=>by
  have y:¬AU μ h0 r:=fun ⟨c,C,δ,hc,d⟩=>ho ⟨c,C,δ,hs c C hc,d⟩
  obtain ⟨R,k2⟩:=g.kept r hr y
  refine ⟨R,?_⟩
  rintro ⟨b,B,δ,hb,d⟩
  rcases J b B hb with h1b|⟨hb',h0b⟩
  ·exact k2 ⟨b,B,δ,h1b,d⟩
  ·obtain ⟨U,D,q,j,_⟩:=old hb' h0b
   rw [j]at d
   simp only [oI,Prod.mk.injEq]at d
   obtain ⟨rfl,_⟩:=d
   exact ho ⟨b,B,D,hb',q⟩
 have Q:∀k o,μ'.Bf k=some o→μ.Bf k=some o∨AU μ h k∨w.heap.size≤k:=fun k o u=>by
  rcases g.icy k o u with h1|⟨c,C,δ,hc,d⟩|h1
  ·exact .inl h1
  ·exact .inr (.inl ⟨c,C,δ,hs c C hc,d⟩)
  ·exact .inr (.inr h1)
 have M:Ys ρ μ' h' w':=by
  refine ⟨fun k o u=>?_,fun k o u=>?_,O▸g.rel.AY.facts⟩
  ·obtain ⟨N,q2⟩:=H.AY.AY k o u
   obtain ⟨q3,q4⟩:=A k (Array.getElem?_eq_some_iff.1 N).1 q2
   exact ⟨q3.trans N,q4⟩
  ·obtain ⟨N,q2⟩:=g.rel.AY.Bf k o u
   refine ⟨N,?_⟩
   rintro ⟨b,B,δ,hb,d⟩
   rcases J b B hb with h1b|⟨hb',h0b⟩
   ·exact q2 ⟨b,B,δ,h1b,d⟩
   ·obtain ⟨U,D,q,j,_⟩:=old hb' h0b
    rw [j]at d
    simp only [oI,Prod.mk.injEq]at d
    obtain ⟨rfl,_⟩:=d
    rcases g.icy _ o u with i1|i1|i1
    ·exact (H.AY.Bf _ o i1).2 ⟨b,B,D,hb',q⟩
    ·exact un hb' h0b q i1
    ·have:=H.lt hb' q;omega
 refine ⟨g.le,⟨fun b hb=>g.rel.fresh b (by omega),fun b B hb=>?_,fun b c B C r δ D hb hc z v=>?_,M⟩,g.size,A,g.os,g.output,by have:=g.next;omega,fun b hb=>g.old b (by omega),Q,by rw [O,g.fx,Z]⟩
 ·rcases J b B hb with h1b|⟨hb',h0b⟩
  ·exact g.rel.blk b B h1b
  ·obtain ⟨r,δ,_,x,u,_,hB⟩:=old hb' h0b
   exact ⟨r,δ,x,by rw [u];exact hB.mono g.le⟩
 ·rcases J b B hb with h1b|⟨hb',h0b⟩<;>rcases J c C hc with h1c|⟨hc',h0c⟩
  ·exact g.rel.inj _ _ _ _ _ _ _ h1b h1c z v
  ·obtain ⟨U,δ2,_,x,_,y,_⟩:=old hc' h0c
   rw [x]at v
   simp only [oI,Prod.mk.injEq]at v
   obtain ⟨rfl,_⟩:=v
   exact absurd ⟨b,B,δ,h1b,z⟩ y
  ·obtain ⟨U,δ2,_,x,_,y,_⟩:=old hb' h0b
   rw [x]at z
   simp only [oI,Prod.mk.injEq]at z
   obtain ⟨rfl,_⟩:=z
   exact absurd ⟨c,C,D,h1c,v⟩ y
  ·obtain ⟨r1,δ1,q,j,_⟩:=old hb' h0b
   obtain ⟨r2,δ2,ac,P,_⟩:=old hc' h0c
   rw [j]at z
   rw [P]at v
   simp only [oI,Prod.mk.injEq]at z v
   obtain ⟨rfl,rfl⟩:=z
   obtain ⟨rfl,rfl⟩:=v
   exact H.inj _ _ _ _ _ _ _ hb' hc' q ac
theorem Aw.Aji (g:Aw ρ μ0 h0 w0 μ h w) {id:Nat} (N:h0.next≤id) (y:μ id=none) (O:id<h.next) (B:Block) (o:Obj) (δ:Nat×Nat)
  (hB:∀μ':Aq,μ.le μ'→CL ρ μ' B (some o) δ):Aw ρ μ0 h0 w0 (μ.put id (w.heap.size,δ)) (Gq h id (some B)) (w.alloc o):=by
 have H:=g.rel
 have v:μ.le (μ.put id (w.heap.size,δ)):=Aq.Qx y
 have q:∀b d r j,(Gq h id (some B)).get b=some d→μ.put id (w.heap.size,δ) b=some (r,j)→(b=id∧r=w.heap.size)∨(h.get b=some d∧μ b=some (r,j)∧r<w.heap.size):=fun b d r j hb c=>by
  rw [E8]at hb
  by_cases e:b=id
  ·subst e
   rw [Aq.BQ]at c
   simp only [oI,Prod.mk.injEq]at c
   exact .inl ⟨rfl,c.1.symm⟩
  ·simp only [if_neg e]at hb
   rw [Aq.Cm _ _ e]at c
   exact .inr ⟨hb,c,H.lt hb c⟩
 have P:(w.alloc o).heap.size=w.heap.size+1:=by show (w.heap.push o).size=_;simp
 refine ⟨Aq.le_trans g.le v,⟨fun b hb=>?_,fun b d hb=>?_,fun b U Q B2 r Z R h1 A J C=>?_,H.Gl (fun r u x=>⟨World.DC _ _ u,?_⟩)⟩,by have:=g.size;omega,fun r u x=>?_,g.os,g.output,by rw [EY];exact g.next,fun b hb=>?_,fun k o D=>g.icy k o D,g.fx⟩
 ·rw [EY]at hb
  rw [Aq.Cm _ _ (by omega)]
  exact H.fresh b hb
 ·rw [E8]at hb
  by_cases e:b=id
  ·subst e
   simp only [if_true,oI]at hb
   subst hb
   exact ⟨_,_,Aq.BQ _ _ _,by rw [World.heap_alloc_new];exact hB _ v⟩
  ·simp only [if_neg e]at hb
   obtain ⟨r,j,c,u⟩:=H.blk b d hb
   exact ⟨r,j,by rw [Aq.Cm _ _ e];exact c,by rw [World.DC _ _ (H.lt hb c)];exact u.mono v⟩
 ·rcases q _ _ _ _ h1 J with ⟨e1,e2⟩|⟨g1,n1,l1⟩<;>rcases q _ _ _ _ A C with ⟨e3,e4⟩|⟨g2,n2,l2⟩
  ·rw [e1,e3]
  ·omega
  ·omega
  ·exact H.inj _ _ _ _ _ _ _ g1 g2 n1 n2
 ·rintro ⟨b,d,j,hb,c⟩
  rcases q _ _ _ _ hb c with ⟨_,e⟩|⟨g1,n1,_⟩
  ·omega
  ·exact x ⟨b,d,j,g1,n1⟩
 ·obtain ⟨z,M⟩:=g.kept r u x
  have:=g.size
  refine ⟨by rw [World.DC _ _ (by omega)];exact z,?_⟩
  rintro ⟨b,d,j,hb,c⟩
  rcases q _ _ _ _ hb c with ⟨_,e⟩|⟨g1,n1,_⟩
  ·omega
  ·exact M ⟨b,d,j,g1,n1⟩
 ·rw [Aq.Cm _ _ (by omega)]
  exact g.old b hb
theorem Aw.reserve (H:AO ρ μ h w) (n:Nat):Aw ρ μ h w μ ⟨h.DR,h.next+n,h.fx⟩ w:=
 ⟨μ.le_refl,⟨fun b hb=>H.fresh b (by have:h.next+n≤b:=hb;omega),H.blk,H.inj,H.AY.of (fun _ _ c=>⟨rfl,c⟩) rfl rfl⟩,Nat.le_refl _,fun _ _ c=>⟨rfl,c⟩,rfl,rfl,Nat.le_add_right _ _,fun _ _=>rfl,fun _ _ h=>.inl h,rfl⟩
end
section
variable {P:Program} {Γ:Ao} {ρ:Env} {μ:Aq} {tm:Tr Aa} {a:Act} {w:World} {h:Al} {pl:List C3} {nt:Nat} {ops:Array Oper} {call:C1}
theorem XR (N:Γ.AL ρ) (z:Be ρ μ tm a) (M:nt≤a.tmps.size) (H:AO ρ μ h w) {o:Oper} {s:Step} {i:Nat} (O:ops[i]?=some o) (hs:NG P pl nt ops o s) {id:Nat} {u:Aa×Option Block}
  (c:HG Γ tm h id s=some u) {K:Act→World→Prop} {Q:Exit→Act→World→Prop} (C:u.2=none→∀v,Ae ρ μ u.1 v→K (a.put s.dst v) w)
  (D:∀B,u.2=some B→∀A m v,(∀μ':Aq,μ.le μ'→CL ρ μ' B (some A) (0,m))→(∀μ':Aq,μ.le μ'→μ' id=some (w.heap.size,0,m)→Ae ρ μ' u.1 v)→K (a.put s.dst v) (w.alloc A)):wpOp P ops Q i K a w:=by
 refine Kf O ?_
 unfold HG at c
 obtain ⟨b,hb,c⟩:=Ab c
 rw [EO z hs.guard (fun d b e=>Nat.lt_of_lt_of_le (hs.seen d b e) M) hb]
 rw [hs.dst]at C D
 cases b with
 |false=>
  simp only [cond_false,oI]at c
  subst c
  simp only [Bool.false_eq_true,if_false]
  exact C rfl _ IF
 |true=>
  simp only [cond_true]at c
  simp only [if_true]
  have j:=hs.op
  unfold U6 at c
  split at c
  ·rename_i q x
   rw [x]at j
   obtain ⟨v,y,c⟩:=Ab c
   simp only [oI]at c
   subst c
   obtain ⟨J,g,k⟩:=Mw (w:=w) N z j y
   unfold Oper.wp
   rw [g]
   exact C rfl _ k
  ·rename_i q x
   rw [x]at j
   obtain ⟨v,y,c⟩:=Ab c
   simp only [oI]at c
   subst c
   obtain ⟨J,g,k⟩:=Mu N H z j y
   unfold Oper.wp
   rw [g]
   exact C rfl _ k
  ·rename_i q x
   rw [x]at j
   obtain ⟨⟨B,v⟩,y,c⟩:=Ab c
   simp only [oI]at c
   subst c
   obtain ⟨A,J,g,m,hB,k⟩:=OM (w:=w) z j y
   unfold Oper.wp
   rw [g]
   exact D B rfl A m J hB k
  ·cases c
theorem HQ {c:Array Bool} {j:Nat} (u:j∈Region.ready .any ops c):∀e∈Dc ops j,c.getD e false=true:=fun e d=>by
 obtain ⟨_,o,q,g⟩:=mem_ready.1 u
 unfold Dc at d
 rw [q]at d
 simp only [List.mem_map,List.mem_filter]at d
 obtain ⟨x,⟨k,hb⟩,rfl⟩:=d
 exact g x (Array.mem_toList_iff.1 k) hb
theorem Mt {c:Array Bool} {j:Nat} {o:Oper} (d:ops[j]?=some o) (hl:c.getD j true=false) (h:∀e∈Dc ops j,c.getD e false=true):j∈Region.ready .any ops c:=
 mem_ready.2 ⟨hl,o,d,fun e g hb=>h e.on (by
  unfold Dc
  rw [d]
  simp only [List.mem_map,List.mem_filter]
  exact ⟨e,⟨Array.mem_toList_iff.2 g,hb⟩,rfl⟩)⟩
theorem Js {before:List Nat} (q:IE ops before=true) {c:Array Bool} (hc:∀j,c.getD j false=true→∀e∈Dc ops j,c.getD e false=true):
  ∀(n j:Nat),j<n→j<ops.size→(∀e∈Dc ops j,c.getD e false=true)→∀i,i<ops.size→waits before i j=true→c.getD i false=true
 |0,_,hj,_,_,_,_,_=>by omega
 |n+1,j,hj,hjs,hl,i,hi,hw=>by
  unfold IE at q
  have h1:=List.all_eq_true.1 q j (List.mem_range.2 hjs)
  have o:=List.all_eq_true.1 h1 i (List.mem_range.2 hi)
  rw [hw]at o
  simp only [Bool.not_true,Bool.false_or,List.any_eq_true,aT,Bool.or_eq_true]at o
  obtain ⟨e,u,k,d⟩:=o
  have k:e<j:=AX.1 k
  have g:=hl e u
  rcases d with d|d
  ·rw [←An.1 d];exact g
  ·exact Js q hc n e (by omega) (by omega) (hc e g) i hi d
end
end Go.AM
end
section
namespace Go.AM
section
variable {P:Program} {Γ:Ao} {ρ:Env} {μ:Aq} {tm:Tr Aa} {a:Act} {w:World} {h:Al} {pl:List C3} {nt:Nat} {ops:Array Oper} {call:C1} {all:List Step} {W:Nat→Nat→Bool} {before:List Nat}
 {res:Cp} {μ0:Aq} {h0:Al} {w0:World}
structure Hh (P:Program) (Γ:Ao) (ρ:Env) (call:C1) (pl:List C3) (nt:Nat) (ops:Array Oper) (W:Nat→Nat→Bool) (all:List Step) (res:Cp) (μ0:Aq) (h0:Al) (w0:World)
  (q:List Item) (id:Nat) (f:Fr) (hs:List Al) (listed:Array Bool) (μ:Aq) (tm:Tr Aa) (h:Al) (a:Act) (w:World):Prop where
 ok:okD W (q.map Item.pair)=true
 src:∀x∈q,∃o,ops[x.i]?=some o∧NG P pl nt ops o x.s
 sub:∀x∈q,x.s∈all
 clo:Clo W q
 flo:∀x∈q,x.e≠none→BZ x.s.op=false
 run:Ll Γ call all (q.map (·.s)) id f hs=some res
 fut:Yr Γ call q id f
 tmps:∀t,tm.get t=Gz q f.tm.get t
 tr:Be ρ μ tm a
 size:nt≤a.tmps.size
 mem:∀b,h.get b=EC q id f.h.get b
 next:h.next=f.h.next
 FC:Aw ρ μ0 h0 w0 μ h w
 low:h0.next≤id
 high:id+q.length≤f.h.next
 free:∀k,k<q.length→f.h.get (id+k)=none
 unb:∀k x,q[k]?=some x→(∀v B,x.e≠some (v,some B))→μ (id+k)=none
 defs:CJ ρ μ f.df a.defers
 lsize:listed.size=ops.size
 lst:∀i,i<ops.size→(listed.getD i true=false↔∃x∈q,x.i=i∧x.e=none)
 closed:∀j,listed.getD j false=true→∀e∈Dc ops j,listed.getD e false=true
 lin:XJ ops (q.map (·.i))=true
 fx:h.fx=f.h.fx
theorem Wx (h:Al) (id:Nat) (b:Option Block):(Gq h id b).fx=h.fx:=by cases b<;>rfl
theorem Kz {i:Nat} {r:List Nat} (h:XJ ops (i::r)=true):(∀e∈Dc ops i,e<i∧e∉r)∧XJ ops r=true:=by
 simp only [XJ,aT,List.all_eq_true]at h
 refine ⟨fun e g=>?_,h.2⟩
 have c:=h.1 e g
 refine ⟨AX.1 c.1,fun d=>?_⟩
 have:r.any (Nat.beq e)=true:=any_beq.2 d
 rw [this]at c;simp at c
theorem Hh.skip {x:Item} {r:List Item} {id:Nat} {f:Fr} {hs:List Al} {j:Array Bool} (D:Hh P Γ ρ call pl nt ops W all res μ0 h0 w0 (x::r) id f hs j μ tm h a w) {u:Aa×Option Block} (o:x.e=some u):
  ∃N J,Hh P Γ ρ call pl nt ops W all res μ0 h0 w0 r (id+1) N J j μ tm h a w:=by
 have M:=Fg (x:=x.pair) (r:=r.map Item.pair) D.ok
 have A:=D.flo x (by simp) (by rw [o];simp)
 have R:=D.fut.1 u o
 have y:=Jy (call:=call) A R
 have c:=D.run
 simp only [List.map_cons,GC]at c
 obtain ⟨_,c⟩:=Ap c
 rw [y]at c
 have c:Ll Γ call all (r.map (·.s)) (id+1) ⟨DY f.tm x.s.dst u.1,Gq f.h id u.2,f.df⟩ (bif BZ x.s.op then f.h::hs else Mk id (Lc f.h (Gq f.h id u.2) id) hs)=some res:=c
 rw [A]at c
 have q:∀b,b≠id→(Gq f.h id u.2).get b=f.h.get b:=fun b hb=>by
  rw [E8]
  split
  ·rw [if_neg hb]
  ·rfl
 have H:=D.high
 simp only [lC]at H
 refine ⟨_,_,⟨M.rest,fun z d=>D.src z (by simp [d]),fun z d=>D.sub z (by simp [d]),D.clo.2,fun z d=>D.flo z (by simp [d]),c,?_,fun t=>?_,D.tr,D.size,fun b=>?_,?_,D.FC,?_,?_,fun k U=>?_,fun k z d Q=>?_,D.defs,D.lsize,fun i O=>?_,D.closed,(Kz D.lin).2,by rw [D.fx];exact (Wx _ _ _).symm⟩⟩
 ·rcases D.fut.2 with ⟨g,hg,hf⟩|hf
  ·rw [y]at hg
   simp only [oI,Cp.go.injEq]at hg
   subst hg
   exact hf
  ·exact Il hf
 ·rw [D.tmps t]
  simp only [Gz,o]
  by_cases hd:x.s.dst=some t
  ·rw [if_pos hd,DL,DX,if_pos hd]
   intro z d _ C
   exact (M.apart z.pair (List.mem_map_of_mem d)).dst t hd C
  ·rw [if_neg hd]
   exact Ew (by rw [DX,if_neg hd])
 ·rw [D.mem b]
  obtain ⟨v,B⟩:=u
  simp only [EC,o]
  cases B with
  |none=>simp only;exact G0 rfl
  |some B=>
   simp only
   by_cases hb:b=id
   ·rw [if_pos hb,Jb (by omega),E8]
    simp [hb]
   ·rw [if_neg hb]
    exact G0 (q b hb).symm
 ·rw [D.next];exact (EY _ _ _).symm
 ·have:=D.low;omega
 ·show id+1+r.length≤(Gq f.h id u.2).next
  rw [EY];omega
 ·show (Gq f.h id u.2).get (id+1+k)=none
  rw [q _ (by omega)]
  have:=D.free (k+1) (by simp;omega)
  rw [show id+1+k=id+(k+1)from by omega];exact this
 ·have:=D.unb (k+1) z (by simpa using d) Q
  rw [show id+1+k=id+(k+1)from by omega];exact this
 ·rw [D.lst i O]
  constructor
  ·rintro ⟨z,d,e1,e2⟩
   simp only [List.mem_cons]at d
   rcases d with rfl|d
   ·rw [o]at e2;cases e2
   ·exact ⟨z,d,e1,e2⟩
  ·rintro ⟨z,d,e1,e2⟩
   exact ⟨z,by simp [d],e1,e2⟩
theorem W1:∀{pre:List Item} {y:Item} {post:List Item},okD W ((pre++y::post).map Item.pair)=true→(∀x∈pre,Xn W x.pair y.pair)∧∀z∈post,Xn W y.pair z.pair
 |[],y,post,h=>⟨fun _ k=>(by cases k),fun z c=>(Fg (x:=y.pair) (r:=post.map Item.pair) h).apart z.pair (List.mem_map_of_mem c)⟩
 |x::pre,y,post,h=>by
  have d:=Fg (x:=x.pair) (r:=(pre++y::post).map Item.pair) h
  obtain ⟨g,j⟩:=W1 (pre:=pre) d.rest
  refine ⟨fun z c=>?_,j⟩
  simp only [List.mem_cons]at c
  rcases c with rfl|c
  ·exact d.apart y.pair (List.mem_map_of_mem (by simp))
  ·exact g z c
theorem SE {g:Nat→Option Aa} {u:Aa×Option Block} {y:Item} {post:List Item} (c:y.e=none) {t:Nat}:∀{pre:List Item},(∀x∈pre,x.e≠none→x.s.dst=some t→y.s.dst≠some t)→
  Gz (pre++{y with e:=some u}::post) g t=if y.s.dst=some t then some u.1 else Gz (pre++y::post) g t
 |[],_=>by simp [Gz,c]
 |x::pre,h=>by
  have ih:=SE (g:=g) (u:=u) (y:=y) (post:=post) c (t:=t) (pre:=pre) fun z d=>h z (by simp [d])
  simp only [List.cons_append,Gz]
  cases hx:x.e with
  |none=>exact ih
  |some v=>
   simp only
   rw [ih]
   by_cases h1:x.s.dst=some t
   ·rw [if_pos h1,if_pos h1,if_neg (h x (by simp) (by rw [hx];simp) h1)]
   ·rw [if_neg h1,if_neg h1]
theorem MZ {g:Nat→Option Block} {v:Aa} {oB:Option Block} {y:Item} {post:List Item} (c:y.e=none) {b:Nat}:∀{pre:List Item} {id:Nat},
  EC (pre++{y with e:=some (v,oB)}::post) id g b=match oB with|some B=>if b=id+pre.length then some B else EC (pre++y::post) id g b|none=>EC (pre++y::post) id g b
 |[],id=>by cases oB<;>simp [EC,c]
 |x::pre,id=>by
  have ih:=MZ (g:=g) (v:=v) (oB:=oB) (y:=y) (post:=post) c (b:=b) (pre:=pre) (id:=id+1)
  simp only [List.cons_append,EC,lC]
  rw [ih]
  cases oB with
  |none=>rfl
  |some B=>
   simp only
   rw [show id+1+pre.length=id+(pre.length+1)from by omega]
   by_cases hb:b=id+(pre.length+1)
   ·rw [if_pos hb,if_pos hb]
    split
    ·rw [if_neg (by omega)]
    ·rfl
   ·rw [if_neg hb,if_neg hb]
theorem WW {y:Item} {post:List Item} {u:Aa×Option Block}:∀{pre:List Item},Clo W (pre++y::post)→(∀x∈pre,x.e=none→W x.i y.i=false)→Clo W (pre++{y with e:=some u}::post)
 |[],h,_=>⟨fun e=>(by cases e),h.2⟩
 |x::pre,h,hW=>by
  refine ⟨fun g z c d=>?_,WW h.2 fun z c=>hW z (by simp [c])⟩
  have c:z∈pre++{y with e:=some u}::post:=c
  simp only [List.mem_append,List.mem_cons]at c
  rcases c with c|rfl|c
  ·exact h.1 g z (by simp [c]) d
  ·exact hW x (by simp) g
  ·exact h.1 g z (by simp [c]) d
theorem Hh.lt {q:List Item} {id:Nat} {f:Fr} {hs:List Al} {c:Array Bool} (D:Hh P Γ ρ call pl nt ops W all res μ0 h0 w0 q id f hs c μ tm h a w) {x:Item} (g:x∈q):x.i<ops.size:=by
 obtain ⟨o,d,_⟩:=D.src x g
 exact (Array.getElem?_eq_some_iff.1 d).1
theorem Aar {c:Array Bool} {i:Nat} (h:c.getD i true=false):c.getD i false=false:=by
 rcases Nat.lt_or_ge i c.size with h'|h'
 ·simp [h']at h⊢;exact h
 ·simp [Array.getElem?_eq_none h']at h
theorem Hh.apart {q:List Item} {id:Nat} {f:Fr} {hs:List Al} {c:Array Bool} (D:Hh P Γ ρ call pl nt ops (waits before) all res μ0 h0 w0 q id f hs c μ tm h a w) (u:IE ops before=true) {x:Item} (d:x∈q) (y:x.e=none)
  {j:Nat} (v:j<ops.size) (k:∀e∈Dc ops j,c.getD e false=true):waits before x.i j=false:=by
 cases hw:waits before x.i j with
 |false=>rfl
 |true=>
  have o:=Js u D.closed (j+1) j (by omega) v k x.i (D.lt d) hw
  have g:=Aar ((D.lst x.i (D.lt d)).2 ⟨x,d,rfl,y⟩)
  rw [o]at g
  cases g
theorem Nw {c:Array Bool} (hc:∀j,c.getD j false=true→∀e∈Dc ops j,c.getD e false=true) {i:Nat} (k:∀e∈Dc ops i,c.getD e false=true):
  ∀j,(c.setIfInBounds i true).getD j false=true→∀e∈Dc ops j,(c.setIfInBounds i true).getD e false=true:=fun j d e g=>by
 refine getD_set_true ?_
 by_cases hij:i=j
 ·exact k e (hij▸g)
 ·rw [getD_set_ne false hij]at d
  exact hc j d e g
theorem I8 {c:Array Bool} {i:Nat} (h:i<c.size):(c.setIfInBounds i true).getD i true=true:=by
 simp [h]
theorem QC {y:Item} {pre post:List Item} {z:Item} (k:Nat):(pre++z::post)[k]?=if k=pre.length then some z else (pre++y::post)[k]?:=by
 by_cases hk:k=pre.length
 ·subst hk
  simp
 ·rw [if_neg hk]
  by_cases hlt:k<pre.length
  ·rw [List.getElem?_append_left hlt,List.getElem?_append_left hlt]
  ·rw [List.getElem?_append_right (by omega),List.getElem?_append_right (by omega)]
   have:k-pre.length=(k-pre.length-1)+1:=by omega
   rw [this,List.getElem?_cons_succ,List.getElem?_cons_succ]
theorem Hh.AcU {pre:List Item} {y:Item} {post:List Item} {id:Nat} {f:Fr} {hs:List Al} {g:Array Bool} (D:Hh P Γ ρ call pl nt ops (waits before) all res μ0 h0 w0 (pre++y::post) id f hs g μ tm h a w)
  (hΓ:Γ.AL ρ) (hv:IE ops before=true) (R:y.e=none) (hm:BZ y.s.op=false) (hr:y.i∈Region.ready .any ops g) {K:Act→World→Prop} {Q:Exit→Act→World→Prop}
  (hK:∀u A ap J a' w',Hh P Γ ρ call pl nt ops (waits before) all res μ0 h0 w0 (pre++{y with e:=some u}::post) id f hs (g.setIfInBounds y.i true) A ap J a' w'→K a' w'):wpOp P ops Q y.i K a w:=by
 have N:y∈pre++y::post:=by simp
 obtain ⟨o,ho,O⟩:=D.src y N
 have af:=D.lt N
 have ae:=HQ hr
 have hW:∀x∈pre++y::post,x.e=none→waits before x.i y.i=false:=fun x c M=>D.apart hv c M af ae
 obtain ⟨ad,ay⟩:=W1 D.ok
 have an:(pre++y::post)[pre.length]?=some y:=by simp
 have U:μ (id+pre.length)=none:=D.unb _ _ an fun v B e=>by rw [R]at e;cases e
 have aq:=D.high
 simp only [lA,lC]at aq
 obtain ⟨u,hu,ah⟩:=early (Γ:=Γ) (call:=call) (all:=all) (W:=waits before) (μ:=μ) (tm:=tm) (h:=h) (res:=res) (y:=y) (post:=post) R hm
  (fun q hq d hh v z=>TR D.tr (by rw [←hq];exact O.op) hh z) pre D.ok D.clo D.flo (fun x c M=>hW x (by simp [c]) M) D.run D.fut (fun t _=>D.tmps t)
  (.inl fun b B hb hB=>by
   rw [D.mem b]
   rw [MY]
   ·exact hB
   ·intro k x v B' d c e
    have ak:=(List.getElem?_eq_some_iff.1 d).1
    have:=D.free k ak
    rw [←e,hB]at this
    cases this)
  (fun k x v B d c=>by
   rw [D.mem]
   exact QK (by rw [List.getElem?_append_left (List.getElem?_eq_some_iff.1 d).1];exact d) c)
  (fun k x d c=>D.unb k x (by rw [List.getElem?_append_left (List.getElem?_eq_some_iff.1 d).1];exact d) fun v B e=>by rw [c]at e;cases e)
 have fin:∀(A:Aq) (J:Al) (w':World) (v:Value),μ.le A→Ae ρ A u.1 v→Aw ρ μ0 h0 w0 A J w'→J.next=h.next→(∀b,J.get b=EC (pre++{y with e:=some u}::post) id f.h.get b)→(∀b,b≠id+pre.length→A b=μ b)→(u.2=none→A=μ)→
   Hh P Γ ρ call pl nt ops (waits before) all res μ0 h0 w0 (pre++{y with e:=some u}::post) id f hs (g.setIfInBounds y.i true) A (DY tm y.s.dst u.1) J (a.put y.s.dst v) w':=fun A J w' v H z hg hn ag hμ am=>by
  have j:∀{x:Item},x∈pre++{y with e:=some u}::post→x∈pre++y::post∨x={y with e:=some u}:=fun {x} c=>by
   simp only [List.mem_append,List.mem_cons]at c⊢
   rcases c with c|rfl|c
   ·exact .inl (.inl c)
   ·exact .inr rfl
   ·exact .inl (.inr (.inr c))
  have ac:(pre++{y with e:=some u}::post).map Item.pair=(pre++y::post).map Item.pair:=by simp [Item.pair]
  have Z:(pre++{y with e:=some u}::post).map (·.s)=(pre++y::post).map (·.s):=by simp
  have ai:(pre++{y with e:=some u}::post).map (·.i)=(pre++y::post).map (·.i):=by simp
  refine ⟨by rw [ac];exact D.ok,fun x c=>?_,fun x c=>?_,WW D.clo fun x c M=>hW x (by simp [c]) M,fun x c M=>?_,by rw [Z];exact D.run,ah,fun t=>?_,(D.tr.mono H).put (fun t e=>?_) z,by rw [Act.Mg];exact D.size,ag,by rw [hn];exact D.next,hg,D.low,?_,fun k d=>?_,fun k x d c=>?_,?_,by simp [D.lsize],fun i hi=>?_,Nw D.closed ae,by rw [ai];exact D.lin,by rw [hg.fx,←D.FC.fx];exact D.fx⟩
  ·rcases j c with c|rfl
   ·exact D.src x c
   ·exact D.src y N
  ·rcases j c with c|rfl
   ·exact D.sub x c
   ·exact D.sub y N
  ·rcases j c with c|rfl
   ·exact D.flo x c M
   ·exact hm
  ·rw [SE R,DX,D.tmps t]
   intro x c _ hd
   exact (ad x c).dst t hd
  ·rw [O.dst]at e
   exact Nat.lt_of_lt_of_le (O.small t e) D.size
  ·have:=D.high
   simp only [lA,lC]at this⊢
   exact this
  ·refine D.free k ?_
   simp only [lA,lC]at d⊢
   exact d
  ·rw [QC (y:=y)]at d
   split at d
   ·rename_i e
    simp only [oI]at d
    subst d
    have al:u.2=none:=by
     obtain ⟨v1,B1⟩:=u
     cases B1 with
     |none=>rfl
     |some B1=>exact absurd rfl (c v1 B1)
    rw [am al,e]
    exact U
   ·rename_i e
    rw [hμ _ (by omega)]
    exact D.unb k x d c
  ·have:(a.put y.s.dst v).defers=a.defers:=by cases y.s.dst<;>rfl
   rw [this]
   exact D.defs.mono H
  ·by_cases e:y.i=i
   ·subst e
    rw [I8 (by rw [D.lsize];exact af)]
    constructor
    ·intro C;cases C
    ·rintro ⟨x,c,e1,C⟩
     exfalso
     simp only [List.mem_append,List.mem_cons]at c
     rcases c with c|rfl|c
     ·exact (ad x c).ne e1
     ·cases C
     ·exact (ay x c).ne e1.symm
   ·rw [getD_set_ne true e,D.lst i hi]
    constructor
    ·rintro ⟨x,c,e1,C⟩
     simp only [List.mem_append,List.mem_cons]at c
     rcases c with c|rfl|c
     ·exact ⟨x,by simp [c],e1,C⟩
     ·exact absurd e1 e
     ·exact ⟨x,by simp [c],e1,C⟩
    ·rintro ⟨x,c,e1,C⟩
     rcases j c with c|rfl
     ·exact ⟨x,c,e1,C⟩
     ·cases C
 refine XR hΓ D.tr D.size D.FC.rel ho O hu (fun hn v z=>?_) (fun B hB ob m v au z=>?_)
 ·refine hK u μ (DY tm y.s.dst u.1) h _ _ (fin μ h w v μ.le_refl z D.FC rfl (fun b=>?_) (fun _ _=>rfl) fun _=>rfl)
  obtain ⟨u1,u2⟩:=u
  simp only at hn
  subst hn
  rw [MZ R,D.mem b]
 ·have aG:=D.low
  have hg:=D.FC.Aji (id:=id+pre.length) (by omega) U (by rw [D.next];omega) B ob (0,m) au
  have H:μ.le (μ.put (id+pre.length) (w.heap.size,0,m)):=Aq.Qx U
  refine hK u _ _ _ _ _ (fin _ _ _ v H (z _ H (Aq.BQ _ _ _)) hg (EY _ _ _) (fun b=>?_) (fun b hb=>Aq.Cm _ _ hb) fun e=>by rw [hB]at e;cases e)
  obtain ⟨u1,u2⟩:=u
  simp only at hB
  subst hB
  rw [MZ R,E8,D.mem b]
end
end Go.AM
end
section
namespace Go.AM
noncomputable def Ox:List Item→Nat→Al→Al
 |[],_,h=>h
 |x::r,id,h=>match x.e with
  |some (_,some B)=>Gq (Ox r (id+1) h) id (some B)
  |_=>Ox r (id+1) h
theorem NA:∀{q:List Item} {id:Nat} {h:Al} {b:Nat},(Ox q id h).get b=EC q id h.get b
 |[],_,_,_=>rfl
 |x::r,id,h,b=>by
  have ih:=NA (q:=r) (id:=id+1) (h:=h) (b:=b)
  simp only [Ox,EC]
  cases hx:x.e with
  |none=>exact ih
  |some u=>
   obtain ⟨v,B⟩:=u
   cases B with
   |none=>exact ih
   |some B=>
    simp only
    rw [E8]
    simp only
    rw [ih]
theorem LN:∀{q:List Item} {id:Nat} {h:Al},(Ox q id h).fx=h.fx
 |[],_,_=>rfl
 |x::r,id,h=>by
  simp only [Ox]
  split
  ·rw [Wx];exact LN
  ·exact LN
theorem It:∀{q:List Item} {id:Nat} {h:Al},(Ox q id h).next=h.next
 |[],_,_=>rfl
 |x::r,id,h=>by
  simp only [Ox]
  split
  ·rw [EY];exact It
  ·exact It
theorem MU:∀{l:List Step} {tm:Tr Aa} {t:Nat},(forget l tm).get t=none∨((forget l tm).get t=tm.get t∧∀s∈l,s.dst≠some t)
 |[],tm,t=>.inr ⟨rfl,fun _ h=>(by cases h)⟩
 |s::r,tm,t=>by
  have g:forget (s::r) tm=forget r (match s.dst with|some d=>Tr.set tm d none|none=>tm):=rfl
  rw [g]
  rcases MU (l:=r) (tm:=match s.dst with|some d=>Tr.set tm d none|none=>tm) (t:=t)with h|⟨h1,h2⟩
  ·exact .inl h
  ·cases hd:s.dst with
   |none=>
    rw [hd]at h1
    refine .inr ⟨h1,fun z c=>?_⟩
    simp only [List.mem_cons]at c
    rcases c with rfl|c
    ·rw [hd];simp
    ·exact h2 z c
   |some d=>
    rw [hd]at h1
    simp only [Tr.Bq]at h1
    by_cases e3:t=d
    ·rw [if_pos e3]at h1
     exact .inl h1
    ·rw [if_neg e3]at h1
     refine .inr ⟨h1,fun z c=>?_⟩
     simp only [List.mem_cons]at c
     rcases c with rfl|c
     ·rw [hd]
      intro j
      exact e3 (Option.some.inj j).symm
     ·exact h2 z c
section
variable {P:Program} {Γ:Ao} {ρ:Env} {μ:Aq} {tm:Tr Aa} {a:Act} {w:World} {h:Al} {pl:List C3} {nt:Nat} {ops:Array Oper} {call:C1} {all:List Step} {W:Nat→Nat→Bool} {before:List Nat}
 {res:Cp} {μ0:Aq} {h0:Al} {w0:World}
theorem Hh.part {q:List Item} {id:Nat} {f:Fr} {hs:List Al} {c:Array Bool} (D:Hh P Γ ρ call pl nt ops W all res μ0 h0 w0 q id f hs c μ tm h a w):∀b B,f.h.get b=some B→h.get b=some B:=fun b B hB=>by
 rw [D.mem b,MY]
 ·exact hB
 ·intro k x v g d j e
  have:=D.free k (List.getElem?_eq_some_iff.1 d).1
  rw [←e,hB]at this
  cases this
theorem Sn {x:Item} {r:List Item} {id:Nat} {f:Fr} {hs:List Al} {c:Array Bool} (D:Hh P Γ ρ call pl nt ops W all res μ0 h0 w0 (x::r) id f hs c μ tm h a w) {v:Aa} {k:Al} {g:Aq} {w':World} (d:Aw ρ μ f.h w g k w')
  (j:res=.panic v ⟨forget all f.tm,k,f.df⟩) {Q:Exit→Act→World→Prop} (L:D7 ρ nt μ0 h0 w0 Q (FN res)) {u:Value} (y:Ae ρ g v u):Q (.panic (Ii u)) a w':=by
 subst j
 refine L g a w' _ ⟨fun t=>?_,D.size,d.rel,D.defs.mono d.le⟩ ((D.FC.trans (Aw.sub D.FC.rel D.next.symm D.fx.symm D.part)).trans d) ⟨u,rfl,y⟩
 show Ae ρ g (E9 ((forget all f.tm).get t)) _
 rcases MU (l:=all) (tm:=f.tm) (t:=t)with h1|⟨h1,h2⟩
 ·rw [h1];trivial
 ·rw [h1]
  have o:=(D.tr t).mono d.le
  rw [D.tmps t,DL]at o
  ·exact o
  ·exact fun z q _=>h2 z.s (D.sub z q)
theorem Hh.change {x:Item} {r:List Item} {id:Nat} {f:Fr} {hs:List Al} {O:Array Bool} (D:Hh P Γ ρ call pl nt ops (waits before) all res μ0 h0 w0 (x::r) id f hs O μ tm h a w)
  (hc:BM P ρ call) (hv:IE ops before=true) (hx:x.e=none) (hm:BZ x.s.op=true) (hr:x.i∈Region.ready .any ops O) {K:Act→World→Prop} {Q:Exit→Act→World→Prop} (L:D7 ρ nt μ0 h0 w0 Q (FN res))
  (hK:∀f' M aO h' a' w',Hh P Γ ρ call pl nt ops (waits before) all res μ0 h0 w0 r (id+1) f' (f.h::hs) (O.setIfInBounds x.i true) M aO h' a' w'→K a' w'):wpOp P ops Q x.i K a w:=by
 have hO:=Fg (x:=x.pair) (r:=r.map Item.pair) D.ok
 obtain ⟨o,ho,Z⟩:=D.src x (by simp)
 have aK:=D.lt (x:=x) (by simp)
 have aM:=HQ hr
 have y:=D.run
 simp only [List.map_cons,GC]at y
 obtain ⟨_,y⟩:=Ap y
 obtain ⟨xr,A,y⟩:=Ab y
 have aD:=A
 rw [OA hm]at A
 rw [hm]at y
 have ae:∀t∈x.s.names,tm.get t=f.tm.get t:=fun t hn=>by
  rw [D.tmps t]
  simp only [Gz,hx]
  refine DL fun z j aI am=>?_
  have N:=(hO.apart z.pair (List.mem_map_of_mem j)).writes t am hn
  have h2:=D.clo.1 hx z j aI
  simp only [Item.pair]at N
  rw [N]at h2
  cases h2
 have ax:Dn tm x.s.guard=Dn f.tm x.s.guard:=by
  unfold Dn
  cases hg:x.s.guard with
  |none=>rfl
  |some g=>
   dsimp only
   rw [ae g.1 (by simp [Step.names,hg])]
 have Hf:AO ρ μ f.h w:=D.FC.rel.drop _ D.next.symm D.fx.symm D.part
 have aP:=D.high
 simp only [lC]at aP
 have aC:∀(a1:Act) (u:Value),(a1.put x.s.dst u).defers=a1.defers:=fun a1 u=>by cases x.s.dst<;>rfl
 have fin:∀(v:Aa) (u:Value) (M:Aq) (N:Al) (w':World) (ai:List (FuncId×List Aa)) (a1:Act),xr=.go ⟨DY f.tm x.s.dst v,N,ai⟩→a1.tmps=a.tmps→CJ ρ M ai a1.defers→Aw ρ μ f.h w M N w'→Ae ρ M v u→K (a1.put x.s.dst u) w':=fun v u M N w' ai a1 U ha aQ g ac=>by
  subst U
  have y:Ll Γ call all (r.map (·.s)) (id+1) ⟨DY f.tm x.s.dst v,N,ai⟩ (f.h::hs)=some res:=y
  have an:∀k z,r[k]?=some z→∀J B,z.e=some (J,some B)→h.get (id+1+k)=some B:=fun k z j J B he=>by
   rw [D.mem]
   have:=QK (r:=x::r) (id:=id) (g:=f.h.get) (k:=k+1) (by simpa using j) he
   rw [show id+1+k=id+(k+1)from by omega];exact this
  have ag:∀k,k<r.length→f.h.get (id+1+k)=none:=fun k hk=>by
   have:=D.free (k+1) (by simp;omega)
   rw [show id+1+k=id+(k+1)from by omega];exact this
  have aq:∀k z,r[k]?=some z→(∀J B,z.e≠some (J,some B))→μ (id+1+k)=none:=fun k z j he=>by
   have:=D.unb (k+1) z (by simpa using j) he
   rw [show id+1+k=id+(k+1)from by omega];exact this
  have ao:Aw ρ μ h w M (Ox r (id+1) N) w':=by
   refine Aw.under D.FC.rel D.next.symm D.part g It LN D.fx.symm fun b B hb=>?_
   rw [NA]at hb
   rcases Ja hb with hb|⟨k,z,J,j,he,rfl⟩
   ·exact .inl hb
   ·exact .inr ⟨an k z j J B he,ag k (List.getElem?_eq_some_iff.1 j).1⟩
  have aN:Be ρ M tm a1:=fun t=>by rw [ha];exact (D.tr t).mono g.le
  refine hK _ M (DY tm x.s.dst v) (Ox r (id+1) N) _ _ ⟨hO.rest,fun z j=>D.src z (by simp [j]),fun z j=>D.sub z (by simp [j]),D.clo.2,fun z j=>D.flo z (by simp [j]),y,?_,fun t=>?_,aN.put (fun t e=>?_) ac,by rw [Act.Mg,ha];exact D.size,fun b=>NA,It,D.FC.trans ao,?_,?_,fun k hk=>?_,fun k z j he=>?_,by rw [aC];exact aQ,by simp [D.lsize],fun i hi=>?_,Nw D.closed aM,(Kz D.lin).2,LN⟩
  ·rcases D.fut.2 with ⟨g',hg',hf⟩|hf
   ·rw [aD]at hg'
    simp only [oI,Cp.go.injEq]at hg'
    subst hg'
    exact hf
   ·exact Il hf
  ·rw [DX,D.tmps t]
   simp only [Gz,hx]
   by_cases hd:x.s.dst=some t
   ·rw [if_pos hd,DL,DX,if_pos hd]
    intro z j _ am
    exact (hO.apart z.pair (List.mem_map_of_mem j)).dst t hd am
   ·rw [if_neg hd]
    exact Ew (by rw [DX,if_neg hd])
  ·rw [Z.dst]at e
   rw [ha]
   exact Nat.lt_of_lt_of_le (Z.small t e) D.size
  ·have:=D.low;omega
  ·show id+1+r.length≤N.next
   have:=g.next;omega
  ·show N.get (id+1+k)=none
   cases hb:N.get (id+1+k)with
   |none=>rfl
   |some B=>
    exfalso
    obtain ⟨s,δ,az,_⟩:=g.rel.blk _ _ hb
    have aF:=g.old (id+1+k) (by omega)
    have R:=az
    rw [aF]at R
    have j:r[k]?=some r[k]:=List.getElem?_eq_getElem hk
    have ap:¬∀J B,(r[k]).e≠some (J,some B):=fun ad=>by
     rw [aq k _ j ad]at R
     cases R
    have ap:∃J B',(r[k]).e=some (J,some B'):=Classical.byContradiction fun ad=>ap fun J B' e=>ad ⟨J,B',e⟩
    obtain ⟨J,B',he⟩:=ap
    have hh:=an k _ j J B' he
    have ad:¬AU μ f.h s:=fun ⟨c,C,δ',hc',hmc⟩=>by
     have:=D.FC.rel.inj _ _ _ _ _ _ _ (D.part c C hc') hh hmc R
     subst this
     rw [ag k hk]at hc'
     cases hc'
    exact (g.kept s (D.FC.rel.lt hh R) ad).2 ⟨_,B,δ,hb,az⟩
  ·rw [g.old _ (by have:=(List.getElem?_eq_some_iff.1 j).1;omega)]
   exact aq k z j he
  ·by_cases e:x.i=i
   ·subst e
    rw [I8 (by rw [D.lsize];exact aK)]
    constructor
    ·intro e2;cases e2
    ·rintro ⟨z,j,H,_⟩
     exact absurd H.symm (hO.apart z.pair (List.mem_map_of_mem j)).ne
   ·rw [getD_set_ne true e,D.lst i hi]
    constructor
    ·rintro ⟨z,j,H,e2⟩
     simp only [List.mem_cons]at j
     rcases j with rfl|j
     ·exact absurd H e
     ·exact ⟨z,j,H,e2⟩
    ·rintro ⟨z,j,H,e2⟩
     exact ⟨z,by simp [j],H,e2⟩
 refine Kf ho ?_
 unfold I3 at A
 obtain ⟨b,hb,A⟩:=Ab A
 rw [←ax]at hb
 rw [EO D.tr Z.guard (fun d b e=>Nat.lt_of_lt_of_le (Z.seen d b e) D.size) hb]
 cases b with
 |false=>
  simp only [cond_false,oI]at A
  simp only [Bool.false_eq_true,if_false]
  rw [←Z.dst]
  exact fin IG undef μ f.h w f.df a A.symm rfl D.defs (Aw.refl Hf) IF
 |true=>
  simp only [cond_true]at A
  simp only [if_true]
  have aA:=Z.op
  unfold Ws at A
  split at A
  ·rename_i q H;rw [H]at hm;cases hm
  ·rename_i q H;rw [H]at hm;cases hm
  ·rename_i q H;rw [H]at hm;cases hm
  ·rename_i q H
   rw [H]at aA
   obtain ⟨aZ,ah,A⟩:=Ab A
   obtain ⟨out,aE,U⟩:=M6 A
   have aU:DO tm f.tm q.Ch:=Fq fun t hn=>ae t (by
    unfold Step.names
    rw [H]
    split
    ·exact List.mem_cons_of_mem _ hn
    ·exact hn)
   rw [←Qh aU]at ah
   refine Si hc Hf (KY Hf D.tr aA ah) aE ?_
   rw [←Z.dst]
   cases out with
   |val v h'=>exact fun M u w' hg ac=>fin v u M h' w' f.df a U rfl (D.defs.mono hg.le) hg ac
   |panic v h'=>
    intro M u w' hg ac
    have U:xr=.panic v ⟨f.tm,h',f.df⟩:=U
    subst U
    simp only [Su]at y
    obtain ⟨_,y⟩:=Ap y
    simp only [oI]at y
    exact Sn D hg y.symm L ac
   |defer g args=>
    intro d hd
    exact fin .any undef μ f.h w ((g,args)::f.df) {a with defers:=d::a.defers} U rfl ⟨d,a.defers,rfl,hd,D.defs⟩ (Aw.refl Hf) trivial
def left (q:List Item):Nat:=q.countP fun x=>x.e.isNone
theorem XZ (hΓ:Γ.AL ρ) (hc:BM P ρ call) (hv:IE ops before=true) {Q:Exit→Act→World→Prop} (L:D7 ρ nt μ0 h0 w0 Q (FN res)):
  ∀(n:Nat) (q:List Item) {id:Nat} {f:Fr} {hs:List Al} {c:Array Bool} {μ:Aq} {tm:Tr Aa} {h:Al} {a:Act} {w:World},left q=n→
   Hh P Γ ρ call pl nt ops (waits before) all res μ0 h0 w0 q id f hs c μ tm h a w→wpAny P .any ops Q n c a w:=by
 intro n
 induction n with
 |zero=>
  intro q
  induction q with
  |nil=>
   intro id f hs c μ tm h a w _ D
   have A:some (Cp.go f)=some res:=D.run
   simp only [oI]at A
   refine ⟨?_,?_⟩
   ·apply List.eq_nil_iff_forall_not_mem.2
    intro j v
    obtain ⟨M,o,U,_⟩:=mem_ready.1 v
    obtain ⟨x,d,_⟩:=(D.lst j (Array.getElem?_eq_some_iff.1 U).1).1 M
    cases d
   ·have hg:=D.FC.trans (Aw.sub D.FC.rel D.next.symm D.fx.symm D.part)
    rw [←A]at L
    refine L μ a w .normal ⟨fun t=>?_,D.size,hg.rel,D.defs⟩ hg rfl
    have:=D.tr t
    rw [D.tmps t]at this
    exact this
  |cons x r ih=>
   intro id f hs c μ tm h a w hl D
   cases d:x.e with
   |none=>simp [left,d]at hl
   |some u=>
    obtain ⟨f',_,k⟩:=D.skip d
    exact ih (by simpa [left,d]using hl) k
 |succ n ihn=>
  intro q
  induction q with
  |nil=>intro id f hs c μ tm h a w hl _;simp [left]at hl
  |cons x r ih=>
   intro id f hs c μ tm h a w hl D
   cases d:x.e with
   |some u=>
    obtain ⟨f',_,k⟩:=D.skip d
    exact ih (by simpa [left,d]using hl) k
   |none=>
    have af:=D.lt (x:=x) (by simp)
    obtain ⟨o,U,_⟩:=D.src x (by simp)
    have R:=Kz (i:=x.i) (r:=r.map (·.i)) D.lin
    have O:x.i∈Region.ready .any ops c:=by
     refine Mt U ((D.lst x.i af).2 ⟨x,by simp,rfl,d⟩) fun e he=>?_
     obtain ⟨M,H⟩:=R.1 e he
     cases hle:c.getD e true with
     |false=>
      exfalso
      obtain ⟨z,J,e1,_⟩:=(D.lst e (by omega)).1 hle
      simp only [List.mem_cons]at J
      rcases J with rfl|J
      ·omega
      ·exact H (e1▸List.mem_map_of_mem J)
     |true=>
      have:e<c.size:=by rw [D.lsize];omega
      simp [this]at hle⊢
      exact hle
    refine ⟨fun Z=>?_,fun j v=>?_⟩
    ·rw [Z]at O;cases O
    ·obtain ⟨M,oj,N,_⟩:=mem_ready.1 v
     obtain ⟨y,g,rfl,C⟩:=(D.lst j (Array.getElem?_eq_some_iff.1 N).1).1 M
     cases hm:BZ y.s.op with
     |false=>
      obtain ⟨pre,post,hq⟩:=List.append_of_mem g
      rw [hq]at D hl
      refine D.AcU hΓ hv C hm v fun u μ' ac h' a' w' k=>ihn _ ?_ k
      simp only [left,List.countP_append,List.countP_cons,C,Option.isNone_none,if_true]at hl⊢
      simp only [Option.isNone_some,Bool.false_eq_true,if_false]
      omega
     |true=>
      have ag:y=x:=by
       simp only [List.mem_cons]at g
       rcases g with g|g
       ·exact g
       ·exfalso
        have H:=((Fg (x:=x.pair) (r:=r.map Item.pair) D.ok).apart y.pair (List.mem_map_of_mem g)).chg hm
        have h3:=D.apart hv (x:=x) (by simp) d (Array.getElem?_eq_some_iff.1 N).1 (HQ v)
        simp only [Item.pair]at H
        rw [H]at h3
        cases h3
      subst ag
      refine D.change hc hv C hm v L fun f' μ' ac h' a' w' k=>ihn _ ?_ k
      simpa [left,d]using hl
theorem Wr:∀l:List Step,BA l=l.length
 |[]=>rfl
 |_::r=>by show BA r+1=_;rw [Wr r];rfl
theorem SU:∀{l:List Item},(∀x∈l,x.e=none)→Clo W l
 |[],_=>trivial
 |x::r,h=>⟨fun _ z c d=>absurd (h z (by simp [c])) d,SU fun z c=>h z (by simp [c])⟩
theorem Pg:∀{l:List Item} {id:Nat} {g:Nat→Option Block} {b:Nat},(∀x∈l,x.e=none)→EC l id g b=g b
 |[],_,_,_,_=>rfl
 |x::r,id,g,b,h=>by
  simp only [EC,h x (by simp)]
  exact Pg fun z c=>h z (by simp [c])
theorem UF (hΓ:Γ.AL ρ) (hc:BM P ρ call) (ag:P.follows .mixedOrders=true) {v:List Step} (c:Nt P pl nt ops=some v) {f:Fr} {r:Cp} (hr:Ll Γ call v v f.h.next (Hz (BA v) f) []=some r)
  (F:CY ρ μ nt f a w) {Q:Exit→Act→World→Prop} (L:D7 ρ nt μ f.h w Q (FN r)) {am:Nat}:(Code.region am ops true).wp P Q a w:=by
 unfold Nt at c
 simp only at c
 split at c
 ·cases c
 ·rename_i H _
  split at c
  ·rename_i y D
   split at c
   ·rename_i C
    simp only [oI]at c
    subst c
    generalize hord:Qi (Region.before ops) ops.size ((List.range ops.size).filter fun i=>(H[i]?.map BZ).getD false) []=order at D C
    generalize hbk:(fun i=>AaR (Region.before ops) ((List.range ops.size).filter fun i=>(H[i]?.map BZ).getD false) order i)=bk at D
    have ai:=Dy D
    unfold AaC at C
    simp only [aT]at C
    obtain ⟨⟨A,Z⟩,ad,aB,aa,ah,ac⟩:=C
    have A:=An.1 A
    have Z:=An.1 Z
    refine wp_region_any ag ?_
    have hq:∀(l:List Nat) (m:List Step),l.length=m.length→((l.zip m).map fun x=>(⟨x.1,x.2,none⟩:Item)).map Item.pair=l.zip m∧((l.zip m).map fun x=>(⟨x.1,x.2,none⟩:Item)).map (·.s)=m∧((l.zip m).map fun x=>(⟨x.1,x.2,none⟩:Item)).map (·.i)=l:=fun l m h=>by
     refine ⟨?_,?_,?_⟩
     ·rw [List.map_map];exact List.map_id'' (fun _=>rfl) _
     ·rw [List.map_map];exact List.map_snd_zip (by omega)
     ·rw [List.map_map];exact List.map_fst_zip (by omega)
    obtain ⟨q1,q2,R⟩:=hq order y A
    generalize hqq:((order.zip y).map fun x=>(⟨x.1,x.2,none⟩:Item))=q at q1 q2 R
    have g:∀x∈q,x.e=none:=fun x u=>by
     rw [←hqq]at u
     obtain ⟨z,_,rfl⟩:=List.mem_map.1 u
     rfl
    have U:q.length=ops.size:=by
     have:=cL R
     rw [List.length_map]at this
     omega
    have N:left q=ops.size:=by
     rw [←U]
     unfold left
     rw [List.countP_eq_length]
     intro x u
     rw [g x u];rfl
    have M:∀i d,(Array.replicate ops.size false).getD i d=true→d=true∧ops.size≤i:=fun i d h=>by
     rcases Nat.lt_or_ge i ops.size with h'|h'
     ·simp [h']at h
     ·simp [Array.getElem?_eq_none,h']at h
      exact ⟨h,h'⟩
    refine XZ (all:=y) (pl:=pl) hΓ hc ah (L.grow (Aw.drew F.heap)) ops.size q (id:=f.h.next) (f:=Hz (BA y) f) (hs:=[]) (μ:=μ) (tm:=f.tm) (h:=(Hz (BA y) f).h) N ?_
    have ae:(Hz (BA y) f).h.next=f.h.next+y.length:=by
     show f.h.next+BA y=_
     rw [Wr]
    refine ⟨by rw [q1];exact ac,fun x u=>?_,fun x u=>?_,SU g,fun x u J=>absurd (g x u) J,by rw [q2];exact hr,Il g,fun t=>(DL fun z hz J=>absurd (g z hz) J).symm,F.tmps,F.size,fun b=>(Pg g).symm,rfl,Aw.reserve F.heap.drew _,Nat.le_refl _,?_,fun k O=>?_,fun k x O J=>?_,F.defs,by simp,fun i hi=>?_,fun j hj=>?_,by rw [R];exact aa,rfl⟩
    ·have an:x.pair∈order.zip y:=by rw [←q1];exact List.mem_map_of_mem u
     obtain ⟨k,O⟩:=List.mem_iff_getElem?.1 an
     rw [List.getElem?_zip_eq_some]at O
     obtain ⟨k1,k2⟩:=O
     have k3:(y.map some)[k]?=some (some x.s):=by rw [List.getElem?_map,k2];rfl
     rw [←ai,List.getElem?_map,k1]at k3
     simp only [Option.map_some,oI]at k3
     obtain ⟨o,ho,k4⟩:=Option.bind_eq_some_iff.1 k3
     exact ⟨o,ho,F3 k4⟩
    ·rw [←q2];exact List.mem_map_of_mem u
    ·rw [ae];omega
    ·show f.h.get _=none
     cases hb:f.h.get (f.h.next+k)with
     |none=>rfl
     |some B=>
      have:=F.heap.F7 hb
      omega
    ·exact F.heap.fresh _ (Nat.le_add_right _ _)
    ·constructor
     ·intro _
      have h1:=List.all_eq_true.1 ad i (List.mem_range.2 hi)
      have h2:=any_beq.1 h1
      rw [←R]at h2
      obtain ⟨x,u,e⟩:=List.mem_map.1 h2
      exact ⟨x,u,e,g x u⟩
     ·intro _
      simp [hi]
    ·exact absurd (M j false hj).1 (by simp)
   ·cases c
  ·cases c
end
end Go.AM
end
section
namespace Go.AM
theorem Tr.ZX {α:Type} (g:α→α) (v:Option α) (l r:Tr α):Tr.map g (Tr.node v l r)=.node (v.map g) (Tr.map g l) (Tr.map g r):=rfl
theorem Tr.ZW {α:Type} (g:α→α) (n:Nat) (v:Option α) (t:Tr α):Tr.map g (Tr.over n v t)=.over n (v.map g) (Tr.map g t):=rfl
theorem Tr.get_map {α:Type} (g:α→α):∀(t:Tr α) (n:Nat),(Tr.map g t).get n=(t.get n).map g
 |.nil,n=>rfl
 |.node v l r,n=>by
  rw [Tr.ZX,Tr.Eb,Tr.Eb,Tr.get_map g l,Tr.get_map g r]
  cases Nat.beq n 0 with
  |true=>rfl
  |false=>cases Nat.beq (n%2) 1<;>rfl
 |.over m v t,n=>by
  rw [Tr.ZW,Tr.Fj,Tr.Fj,Tr.get_map g t]
  cases Nat.beq n m<;>rfl
section
variable {ρ:Env} {μ:Aq} {w:World} {h:Al} {b off len es j:Nat}
theorem WL {r δ m:Nat} {c:Array Value} {e:TypeId} (F:Frz ρ μ b off len es j r δ m c e):∀{l:List Aa} {us:List Value},A9 ρ μ l us→A9 ρ μ (LB b off len es j l) us
 |[],us,h=>h
 |v::l,us,h=>by
  rw [Im]
  simp only [A9]at h⊢
  obtain ⟨u,rest,rfl,d,g⟩:=h
  exact ⟨u,rest,rfl,(HD F d).1,WL F g⟩
theorem Aau {r δ m:Nat} {c:Array Value} {e:TypeId} (F:Frz ρ μ b off len es j r δ m c e) {v:Aa} {u:Value} (d:Ae ρ μ v u):Ae ρ μ (Afm b off len es j v) u:=by
 unfold Afm
 split
 ·obtain ⟨x,e,g⟩:=d.agg
  subst e
  simp only [Ae]
  exact ⟨x,rfl,QH F g⟩
 ·obtain ⟨x,e,g⟩:=d.tuple
  subst e
  simp only [Ae]
  exact ⟨x,rfl,WL F g⟩
 ·exact (HD F d).1
theorem Aat {r δ m:Nat} {c:Array Value} {e:TypeId} (F:Frz ρ μ b off len es j r δ m c e) {B:Block} {o:Option Obj} {x:Nat×Nat} (hB:CL ρ μ B o x):CL ρ μ (Aik b off len es j B) o x:=by
 cases B with
 |cells vs=>
  obtain ⟨d,t,q,D,hc⟩:=hB
  refine ⟨d,t,q,D,fun i a ha=>?_⟩
  rw [MR]at ha
  obtain ⟨y,g,rfl⟩:=mS ha
  obtain ⟨v,z,u,C⟩:=hc i y g
  obtain ⟨k,A⟩:=HD F C
  exact ⟨v,z,by rw [A];exact u,k⟩
 |typed t vs=>
  obtain ⟨d,q,⟨H,hs⟩,D,hc⟩:=hB
  have hl:(LB b off len es j vs).length=vs.length:=by
   have:∀l:List Aa,(LB b off len es j l).length=l.length:=fun l=>by
    induction l with
    |nil=>rfl
    |cons v l ih=>rw [Im];simp [ih]
   exact this vs
  refine ⟨d,q,⟨H,by rw [hl];exact hs⟩,D,fun i a ha=>?_⟩
  rw [MR]at ha
  obtain ⟨y,g,rfl⟩:=mS ha
  obtain ⟨v,z,u,C⟩:=hc i y g
  obtain ⟨k,A⟩:=HD F C
  exact ⟨v,z,by rw [A];exact u,k⟩
 |map es clock=>exact hB
 |bytes n e=>exact hB
 |sbytes n e=>exact hB
 |list i es=>exact hB
 |smap i=>exact hB
theorem Aas {i:Nat} {t:ST} {r m:Nat} {c:Array Value} {e:TypeId} (hs:μ b=some (r,0,m)) (y:μ.Bf r=some (.cells c e (0,0))) (C:BU μ.Bf es c 0 (ρ.lst i)) (A:t.den ρ=((ρ.lst i).length:Int)) {v:Aa} {u:Value} (j:Ae ρ μ v u):Ae ρ μ (QE b i es t v) u∧(QE b i es t v).single=v.single:=by
 unfold QE
 split
 ·rename_i z o n
  cases hc:Nat.beq b z&&(Nat.beq es o&&n.eq t)with
  |false=>exact ⟨j,rfl⟩
  |true=>
   rw [aT,aT,An,An]at hc
   obtain ⟨rfl,rfl,d⟩:=hc
   have d:=ST.Bk d
   subst d
   obtain ⟨M,N,k,g,q,J,H,D⟩:=j.vec
   rw [hs]at g
   simp only [oI,Prod.mk.injEq,true_and]at g
   obtain ⟨rfl,rfl⟩:=g
   have x:(ρ.lst i).length=k:=by omega
   refine ⟨?_,rfl⟩
   simp only [cond_true,Ae,Ix]
   exact ⟨⟨Ca m,by omega,.inr ⟨r,0,c,e,by rw [x];exact q,⟨_,y⟩,C⟩⟩,A,fun e=>by cases e⟩
 ·exact ⟨j,rfl⟩
theorem Gx (b i es:Nat) (t:ST) (v:Aa) (r:List Aa):HC b i es t (v::r)=QE b i es t v::HC b i es t r:=rfl
theorem K6 {i:Nat} {t:ST}:∀{l:List Aa} {k:Nat},(HC b i es t l)[k]?=(l[k]?).map (QE b i es t)
 |[],k=>by show ([]:List Aa)[k]?=_;simp
 |v::r,k=>by
  rw [Gx]
  cases k with
  |zero=>simp
  |succ k=>simpa using K6 (l:=r) (k:=k)
theorem SA {nt:Nat} {f:Fr} {a:Act} (F:CY ρ μ nt f a w) {B0:Block} {r:Nat} {x0:Nat×Nat} (hb:f.h.get b=some B0) (hm:μ b=some (r,x0)) (N:Aa→Aa) (z:Block→Block)
  (hA:∀v u,Ae ρ (μ.Ey r w.heap[r]?) v u→Ae ρ (μ.Ey r w.heap[r]?) (N v) u) (hB:∀B o x,CL ρ (μ.Ey r w.heap[r]?) B o x→CL ρ (μ.Ey r w.heap[r]?) (z B) o x):
  ∃μ',CY ρ μ' nt ⟨Tr.map N f.tm,⟨Tr.map z (Tr.set f.h.DR b none),f.h.next,f.h.fx⟩,f.df⟩ a w∧Aw ρ μ f.h w μ' ⟨Tr.map z (Tr.set f.h.DR b none),f.h.next,f.h.fx⟩ w:=by
 have H:=F.heap
 have M:AU μ f.h r:=⟨b,_,x0,hb,hm⟩
 have R:∀x,μ.Bf r=some x→w.heap[r]?=some x:=fun x O=>absurd M (H.AY.Bf r x O).2
 have C:μ.le (μ.Ey r w.heap[r]?):=Aq.JH R
 have y:∀d B,(⟨Tr.map z (Tr.set f.h.DR b none),f.h.next,f.h.fx⟩:Al).get d=some B→∃k,f.h.get d=some k∧B=z k∧d≠b:=fun d B hd=>by
  have hd:(Tr.map z (Tr.set f.h.DR b none)).get d=some B:=hd
  rw [Tr.get_map,Tr.Bq]at hd
  obtain ⟨k,A,J⟩:=mS hd
  by_cases e:d=b
  ·rw [if_pos e]at A;cases A
  ·rw [if_neg e]at A;exact ⟨k,A,J.symm,e⟩
 have j:∀s,AU (μ.Ey r w.heap[r]?) ⟨Tr.map z (Tr.set f.h.DR b none),f.h.next,f.h.fx⟩ s→AU μ f.h s∧s≠r:=fun s ⟨d,B,x,A,J⟩=>by
  obtain ⟨k,D,k2,U⟩:=y d B A
  exact ⟨⟨d,k,x,D,J⟩,fun e=>U (H.inj _ _ _ _ _ _ _ D hb J (e▸hm))⟩
 have hH:AO ρ (μ.Ey r w.heap[r]?) ⟨Tr.map z (Tr.set f.h.DR b none),f.h.next,f.h.fx⟩ w:=by
  refine ⟨fun d hd=>H.fresh d hd,fun d B hd=>?_,fun d d' B k s x x' A J m1 m2=>?_,⟨fun g o c=>?_,fun g o c=>?_,H.AY.facts⟩⟩
  ·obtain ⟨k,D,rfl,U⟩:=y d B hd
   obtain ⟨s,x,e1,e2⟩:=H.blk d k D
   exact ⟨s,x,e1,hB _ _ _ (e2.mono C)⟩
  ·obtain ⟨B1,D,_,_⟩:=y _ _ A
   obtain ⟨B2,k2,_,_⟩:=y _ _ J
   exact H.inj _ _ _ _ _ _ _ D k2 m1 m2
  ·obtain ⟨P,Q⟩:=H.AY.AY g o c
   exact ⟨P,fun e=>Q (j g e).1⟩
  ·have c:(if g=r then w.heap[r]? else μ.Bf g)=some o:=c
   by_cases e:g=r
   ·subst e
    rw [if_pos rfl]at c
    exact ⟨c,fun q=>(j _ q).2 rfl⟩
   ·rw [if_neg e]at c
    obtain ⟨P,Q⟩:=H.AY.Bf g o c
    exact ⟨P,fun q=>Q (j g q).1⟩
 refine ⟨μ.Ey r w.heap[r]?,⟨fun t=>?_,F.size,hH,F.defs.mono C⟩,⟨C,hH,Nat.le_refl _,fun s _ hs=>⟨rfl,fun q=>hs (j s q).1⟩,rfl,rfl,Nat.le_refl _,fun _ _=>rfl,fun g o c=>?_,rfl⟩⟩
 ·show Ae _ _ (E9 ((Tr.map N f.tm).get t)) _
  rw [Tr.get_map]
  have Z:=(F.tmps t).mono C
  cases O:f.tm.get t with
  |none=>trivial
  |some v=>
   rw [O]at Z
   exact hA _ _ Z
 ·have c:(if g=r then w.heap[r]? else μ.Bf g)=some o:=c
  by_cases e:g=r
  ·subst e;exact .inr (.inl M)
  ·rw [if_neg e]at c;exact .inl c
theorem QF {Γ:Ao} (hΓ:Γ.AL ρ) {nt:Nat} {f:Fr} {a:Act} (F:CY ρ μ nt f a w) (z:Nat×Nat×Nat×Nat×Nat):∃R,CY ρ R nt (QG Γ z f) a w∧Aw ρ μ f.h w R (QG Γ z f).h w:=by
 have same:∃R,CY ρ R nt f a w∧Aw ρ μ f.h w R f.h w:=⟨μ,F,Aw.refl F.heap⟩
 have H:=F.heap
 unfold QG
 split
 case h_3=>exact same
 ·rename_i vs hb
  cases hk:Pc Γ z.2.1 z.2.2.1 z.2.2.2.1 z.2.2.2.2 vs with
  |false=>exact same
  |true=>
  simp only [cond_true]
  obtain ⟨b,off,len,es,j⟩:=z
  simp only at hb hk⊢
  obtain ⟨cs,ah,ac,ae,hd⟩:=MQ hΓ hk
  obtain ⟨r,⟨δ,m⟩,g,c,t,D,an,hc⟩:=H.blk b _ hb
  have J:AU μ f.h r:=⟨b,_,(δ,m),hb,g⟩
  have A:∀x,μ.Bf r=some x→w.heap[r]?=some x:=fun x C=>absurd J (H.AY.Bf r x C).2
  have aa:μ.le (μ.Ey r w.heap[r]?):=Aq.JH A
  have ab:AW μ.Bf c (δ+off) (ρ.lst j).flatten:=Nr hc ah hd
  have Z:Frz ρ (μ.Ey r w.heap[r]?) b off len es j r δ m c t:=by
   refine ⟨g,ac,?_,?_⟩
   ·show (if r=r then w.heap[r]? else μ.Bf r)=_
    rw [if_pos rfl];exact D
   ·exact BU.mono aa.Bf (BB.2 ⟨ae,ab⟩)
  exact SA F hb g _ _ (fun v u M=>Aau Z M) (fun B o x hB=>Aat Z hB)
 ·rename_i i es hb
  cases hk:Nat.beq i z.2.2.2.2 with
  |false=>exact same
  |true=>
  simp only [cond_true]
  split
  case h_2=>exact same
  rename_i t ht
  obtain ⟨r,⟨δ,m⟩,g,c,e,D,h0,N,q,y,h4,h5⟩:=H.blk z.1 _ hb
  subst h0
  have J:AU μ f.h r:=⟨z.1,_,(0,m),hb,g⟩
  have A:∀x,μ.Bf r=some x→w.heap[r]?=some x:=fun x C=>absurd J (H.AY.Bf r x C).2
  have aa:μ.le (μ.Ey r w.heap[r]?):=Aq.JH A
  have hi:(μ.Ey r w.heap[r]?).Bf r=some (.cells c e (0,0)):=by
   show (if r=r then w.heap[r]? else μ.Bf r)=_
   rw [if_pos rfl];exact D
  have ht:t.den ρ=((ρ.lst i).length:Int):=hΓ.Ad _ (CG ht)
  have M:∀{v:Aa} {u:Value},Ae ρ (μ.Ey r w.heap[r]?) v u→Ae ρ (μ.Ey r w.heap[r]?) (QE z.1 i es t v) u∧(QE z.1 i es t v).single=v.single:=fun {v u} h=>Aas (μ:=μ.Ey r w.heap[r]?) (m:=m) g hi (BU.mono aa.Bf h5) ht h
  have ak:∀{l:List Aa} {us:List Value},Ax ρ (μ.Ey r w.heap[r]?) l us→Ax ρ (μ.Ey r w.heap[r]?) (HC z.1 i es t l) us:=by
   intro l
   induction l with
   |nil=>intro us h;exact h
   |cons v l ih=>
    intro us h
    rw [Gx]
    simp only [Ax]at h⊢
    obtain ⟨u,rest,rfl,⟨N,q⟩,y⟩:=h
    obtain ⟨O,U⟩:=M q
    exact ⟨u,rest,rfl,⟨by rw [U];exact N,O⟩,ih y⟩
  have ai:∀{l:List Aa} {us:List Value},A9 ρ (μ.Ey r w.heap[r]?) l us→A9 ρ (μ.Ey r w.heap[r]?) (HC z.1 i es t l) us:=by
   intro l
   induction l with
   |nil=>intro us h;exact h
   |cons v l ih=>
    intro us h
    rw [Gx]
    simp only [A9]at h⊢
    obtain ⟨u,rest,rfl,q,y⟩:=h
    exact ⟨u,rest,rfl,(M q).1,ih y⟩
  refine SA F hb g _ _ (fun v u P=>?_) (fun B o x hB=>?_)
  ·unfold Ad3
   split
   ·obtain ⟨x,e,C⟩:=P.agg
    subst e
    simp only [Ae]
    exact ⟨x,rfl,ak C⟩
   ·obtain ⟨x,e,C⟩:=P.tuple
    subst e
    simp only [Ae]
    exact ⟨x,rfl,ai C⟩
   ·exact (M P).1
  ·cases B with
   |cells vs=>
    obtain ⟨d,t',D,g,hc⟩:=hB
    refine ⟨d,t',D,g,fun k a ha=>?_⟩
    rw [K6]at ha
    obtain ⟨a',Q,rfl⟩:=mS ha
    obtain ⟨v,N,q,y⟩:=hc k a' Q
    obtain ⟨O,U⟩:=M y
    exact ⟨v,N,by rw [U];exact q,O⟩
   |typed t' vs=>
    obtain ⟨d,D,⟨h0,hs⟩,g,hc⟩:=hB
    have hl:(HC z.1 i es t vs).length=vs.length:=by
     have:∀l:List Aa,(HC z.1 i es t l).length=l.length:=fun l=>by
      induction l with
      |nil=>rfl
      |cons v l ih=>rw [Gx];simp [ih]
     exact this vs
    refine ⟨d,D,⟨h0,by rw [hl];exact hs⟩,g,fun k a ha=>?_⟩
    rw [K6]at ha
    obtain ⟨a',Q,rfl⟩:=mS ha
    obtain ⟨v,N,q,y⟩:=hc k a' Q
    obtain ⟨O,U⟩:=M y
    exact ⟨v,N,by rw [U];exact q,O⟩
   |map es clock=>exact hB
   |bytes n e=>exact hB
   |sbytes n e=>exact hB
   |list i es=>exact hB
   |smap i=>exact hB
theorem JQ {Γ:Ao} (d:Γ.AL ρ) {nt:Nat} {a:Act}:∀(l:List (Nat×Nat×Nat×Nat×Nat)) {μ:Aq} {f:Fr},CY ρ μ nt f a w→∃c,CY ρ c nt (U4 Γ l f) a w∧Aw ρ μ f.h w c (U4 Γ l f).h w
 |[],μ,f,F=>⟨μ,F,Aw.refl F.heap⟩
 |z::l,μ,f,F=>by
  obtain ⟨o,g,g1⟩:=QF d F z
  obtain ⟨j,k,g2⟩:=JQ d l g
  exact ⟨j,k,g1.trans g2⟩
theorem PY {Γ:Ao} (q:Γ.AL ρ) {nt:Nat} {h:Al} {Q:Exit→Act→World→Prop} {r:Bm×Fr} (L:D7 ρ nt μ h w Q (PZ Γ r)):D7 ρ nt μ h w Q r:=by
 unfold PZ at L
 split at L
 ·rename_i z l k v
  intro u j w' e F g c
  obtain ⟨o,d,g2⟩:=JQ q (z::l) F
  rw [k]at c
  exact L o j w' e d (g.trans g2) c
 ·exact L
end
end Go.AM
end
section
namespace Go.AM
def empty (d:Nat) (fx:Ao:={}):Al:=⟨Tr.full Block d,0,fx⟩
theorem Io (d:Nat) (fx:Ao) (b:Nat):(empty d fx).get b=none:=Tr.JL d b
theorem Nl {ρ:Env} {T:Nat→Option Obj} (d:Nat) {fx:Ao} (w:World) (c:∀g o,ρ.AY g=some o→w.heap[g]?=some o) (j:∀g o,T g=some o→w.heap[g]?=some o) (hf:fx.AL ρ):AO ρ ⟨fun _=>none,T⟩ (empty d fx) w where
 AY:=⟨fun g o h=>⟨c g o h,by rintro ⟨_,_,_,_,e⟩;cases e⟩,fun g o h=>⟨j g o h,by rintro ⟨_,_,_,_,e⟩;cases e⟩,hf⟩
 fresh:=fun _ _=>rfl
 blk:=fun b B hb=>by rw [Io]at hb;cases hb
 inj:=fun b _ B _ _ _ _ hb=>by rw [Io]at hb;cases hb
theorem XX {ρ:Env} (d:Nat) (w:World) (c:∀g o,ρ.AY g=some o→w.heap[g]?=some o):AO ρ Aq.none (empty d) w:=
 Nl d w c (fun _ _ h=>by cases h) (Ao.AL.none ρ)
theorem AcD {σ:List Nat} {i b:Nat} (h:Cn σ i=some b):i<σ.length:=by
 rw [F6]at h
 exact (List.getElem?_eq_some_iff.1 h).1
theorem Sk {n:Nat}:∀{l:List Nat},ZV n l=true↔n∈l
 |[]=>by
  constructor
  ·intro h;cases h
  ·intro h;cases h
 |m::r=>by
  have e:ZV n (m::r)=(Nat.beq m n||ZV n r):=rfl
  rw [e,Bool.or_eq_true,An,Sk,List.mem_cons]
  constructor
  ·rintro (h|h)
   ·exact .inl h.symm
   ·exact .inr h
  ·rintro (h|h)
   ·exact .inl h.symm
   ·exact .inr h
theorem Fh:∀{l:List Nat},IQ l=true→l.Nodup
 |[],_=>List.nodup_nil
 |n::r,h=>by
  have e:IQ (n::r)=(!(ZV n r)&&IQ r):=rfl
  rw [e,aT]at h
  refine List.nodup_cons.2 ⟨fun c=>?_,Fh h.2⟩
  rw [Sk.2 c]at h
  cases h.1
theorem EX:∀l:List Block,GJ l=l.length
 |[]=>rfl
 |_::r=>by show GJ r+1=_;rw [EX r];rfl
theorem Gs:∀l:List (Option Block),Sf l=l.length
 |[]=>rfl
 |_::r=>by show Sf r+1=_;rw [Gs r];rfl
theorem Sh {σ:List Nat} (g:σ.Nodup) {i j b:Nat} (d:Cn σ i=some b) (c:Cn σ j=some b):i=j:=by
 rw [F6]at d c
 obtain ⟨q,k⟩:=List.getElem?_eq_some_iff.1 d
 obtain ⟨u,o⟩:=List.getElem?_eq_some_iff.1 c
 exact (List.getElem_inj g).1 (k.trans o.symm)
theorem Gb:∀(l:List (Option Block)) (k n i:Nat),(Lb l k n)[i]?=if k+i<l.length then some (n+i)else none
 |[],k,n,i=>by rw [if_neg (by simp)];show ([]:List Nat)[i]?=none;simp
 |_::r,0,n,i=>by
  show (n::Lb r 0 (n+1))[i]?=_
  cases i with
  |zero=>simp
  |succ i=>
   rw [List.getElem?_cons_succ,Gb r 0 (n+1) i]
   simp only [lC,Nat.zero_add,Nat.add_lt_add_iff_right]
   rw [show n+1+i=n+(i+1) by omega]
 |_::r,k+1,n,i=>by
  show (Lb r k n)[i]?=_
  rw [Gb r k n i,lC]
  by_cases hc:k+i<r.length
  ·rw [if_pos hc,if_pos (by omega)]
  ·rw [if_neg hc,if_neg (by omega)]
theorem Cj:∀(l:List Block) (h:Al),(Bi l h).next=h.next+l.length∧(Bi l h).fx=h.fx∧
  ∀b,(Bi l h).get b=if h.next≤b∧b<h.next+l.length then l[b-h.next]? else h.get b
 |[],h=>⟨rfl,rfl,fun b=>by rw [if_neg (by simp only [lN];omega)];rfl⟩
 |B::r,h=>by
  have e:Bi (B::r) h=Bi r (h.add B):=rfl
  obtain ⟨c,hf,d⟩:=Cj r (h.add B)
  rw [e]
  refine ⟨by rw [c,Al.JD,lC];omega,hf,fun b=>?_⟩
  rw [d b,Al.JD,lC,Al.JM]
  by_cases hb:b=h.next
  ·subst hb
   rw [if_neg (by omega),if_pos rfl,if_pos (by omega)]
   simp
  ·by_cases hc:h.next+1≤b∧b<h.next+1+r.length
   ·rw [if_pos hc,if_pos (by omega)]
    have:b-h.next=(b-(h.next+1))+1:=by omega
    rw [this,List.getElem?_cons_succ]
   ·rw [if_neg hc,if_neg hb,if_neg (by omega)]
theorem CI:∀(l:List (Option Block)) (h:Al),(CB l h).next=h.next+l.length∧(CB l h).fx=h.fx∧
  ∀b,(CB l h).get b=if h.next≤b∧b<h.next+l.length then (l[b-h.next]?).join else h.get b
 |[],h=>⟨rfl,rfl,fun b=>by rw [if_neg (by simp only [lN];omega)];rfl⟩
 |B::r,h=>by
  have e:CB (B::r) h=CB r ⟨Tr.set h.DR h.next B,h.next+1,h.fx⟩:=rfl
  obtain ⟨c,hf,d⟩:=CI r ⟨Tr.set h.DR h.next B,h.next+1,h.fx⟩
  rw [e]
  refine ⟨by rw [c,lC];show h.next+1+_=_;omega,hf,fun b=>?_⟩
  have g:(⟨Tr.set h.DR h.next B,h.next+1,h.fx⟩:Al).get b=if b=h.next then B else h.get b:=Tr.Bq _ _ _ _
  rw [d b,lC,g]
  show (if h.next+1≤b∧b<h.next+1+r.length then (r[b-(h.next+1)]?).join else _)=_
  by_cases hb:b=h.next
  ·subst hb
   rw [if_neg (by omega),if_pos rfl,if_pos (by omega)]
   simp
  ·by_cases hc:h.next+1≤b∧b<h.next+1+r.length
   ·rw [if_pos hc,if_pos (by omega)]
    have:b-h.next=(b-(h.next+1))+1:=by omega
    rw [this,List.getElem?_cons_succ]
   ·rw [if_neg hc,if_neg hb,if_neg (by omega)]
theorem C8 {d:Nat} {fx:Ao} {l:List Block} {b:Nat}:(Bi l (empty d fx)).get b=l[b]?:=by
 obtain ⟨_,_,h⟩:=Cj l (empty d fx)
 rw [h b]
 have e:(empty d fx).next=0:=rfl
 rw [e]
 by_cases hb:b<l.length
 ·rw [if_pos (by omega)];rfl
 ·rw [if_neg (by omega),Io,List.getElem?_eq_none (by omega)]
theorem DB {d:Nat} {fx:Ao} {l:List (Option Block)} {b:Nat}:(CB l (empty d fx)).get b=(l[b]?).join:=by
 obtain ⟨_,_,h⟩:=CI l (empty d fx)
 rw [h b]
 have e:(empty d fx).next=0:=rfl
 rw [e]
 by_cases hb:b<l.length
 ·rw [if_pos (by omega)];rfl
 ·rw [if_neg (by omega),Io,List.getElem?_eq_none (by omega)];rfl
theorem Cf {d:Nat} {fx:Ao} {l:List Block}:(Bi l (empty d fx)).next=l.length:=by
 have h:=(Cj l (empty d fx)).1
 rw [h];show 0+_=_;omega
theorem DJ {d:Nat} {fx:Ao} {l:List (Option Block)}:(CB l (empty d fx)).next=l.length:=by
 have h:=(CI l (empty d fx)).1
 rw [h];show 0+_=_;omega
section
variable {ρ:Env} {μ μ':Aq} {σ:List Nat}
structure Ren (μ' μ:Aq) (σ:List Nat):Prop where
 spot:∀i b,Cn σ i=some b→μ' i=μ b
 Bf:μ'.Bf=μ.Bf
theorem RT (R:Ren μ' μ σ) {p a:Aa} (h:ZG σ p=some a) {u:Value}:(Ae ρ μ a u↔Ae ρ μ' p u)∧a.single=p.single:=by
 have d:=R.spot
 cases p<;>simp only [ZG,oI,reduceCtorEq]at h
 case ptr b o=>
  obtain ⟨c,hc,e⟩:=Ab h
  simp only [oI]at e
  subst e
  simp only [Ae,d _ _ hc,Aa.single,and_self]
 case slice b o l c=>
  obtain ⟨c,hc,e⟩:=Ab h
  simp only [oI]at e
  subst e
  simp only [Ae,d _ _ hc,Aa.single,and_self]
 case gslice b o l es=>
  obtain ⟨c,hc,e⟩:=Ab h
  simp only [oI]at e
  subst e
  simp only [Ae,d _ _ hc,Aa.single,and_self]
 case map b=>
  obtain ⟨c,hc,e⟩:=Ab h
  simp only [oI]at e
  subst e
  simp only [Ae,d _ _ hc,Aa.single,and_self]
 case vec b es n=>
  obtain ⟨c,hc,e⟩:=Ab h
  simp only [oI]at e
  subst e
  simp only [Ae,d _ _ hc,Aa.single,and_self]
 case vptr b es j o=>
  obtain ⟨c,hc,e⟩:=Ab h
  simp only [oI]at e
  subst e
  simp only [Ae,d _ _ hc,Aa.single,and_self]
 case gbytes b=>
  obtain ⟨c,hc,e⟩:=Ab h
  simp only [oI]at e
  subst e
  simp only [Ae,d _ _ hc,Aa.single,and_self]
 all_goals
  subst h
  simp only [Ae,R.Bf,Aa.single,and_self]
theorem Ko (R:Ren μ' μ σ):∀{l r:List Aa} {us:List Value},Wv σ l=some r→(A9 ρ μ r us↔A9 ρ μ' l us)
 |[],r,us,h=>by
  have h:some []=some r:=h
  simp only [oI]at h
  subst h
  simp only [A9]
 |v::l,r,us,h=>by
  have h:(AG (ZG σ v) fun u=>AG (Wv σ l) fun us=>some (u::us))=some r:=h
  obtain ⟨u,d,h⟩:=Ab h
  obtain ⟨g,c,h⟩:=Ab h
  simp only [oI]at h
  subst h
  simp only [A9,(RT R d).1,Ko R c]
theorem Dg (R:Ren μ' μ σ) {p a:Aa} (h:J9 σ p=some a) {u:Value}:(Ae ρ μ a u↔Ae ρ μ' p u)∧a.single=p.single:=by
 unfold J9 at h
 split at h
 ·obtain ⟨x,d,h⟩:=Ab h
  obtain ⟨y,c,h⟩:=Ab h
  simp only [oI]at h
  subst h
  simp only [Ae,Ko R d,Ko R c,Aa.single,and_self]
 ·exact RT R h
theorem XI {a:Aa} {u:Value} (h:Ae ρ μ a u):Ae ρ μ (loose a) u∧(loose a).single=a.single:=by
 cases a<;>simp only [loose,and_true]<;>try exact h
 case lst f i es n=>
  obtain ⟨c,d,_⟩:=h.lst
  exact ⟨by simp only [Ae];exact ⟨c,d,fun e=>by cases e⟩,rfl⟩
theorem Ex {Γ:Ao} (C:Γ.AL ρ) (R:Ren μ' μ σ) {p a:Aa} (h:HM Γ σ p a=true) {u:Value} (q:Ae ρ μ a u):Ae ρ μ' p u∧p.single=a.single:=by
 unfold HM at h
 split at h
 ·rename_i v k
  rw [Bool.or_eq_true,Bool.or_eq_true]at h
  rcases h with (h|h) |h
  ·have h:=Aa.Dw h
   subst h
   obtain ⟨c,d⟩:=Dg (ρ:=ρ) R k (u:=u)
   exact ⟨c.1 q,d.symm⟩
  ·have h:=Aa.Dw h
   subst h
   obtain ⟨c,d⟩:=Dg (ρ:=ρ) R k (u:=u)
   obtain ⟨x,y⟩:=XI q
   exact ⟨c.1 x,by rw [←d,y]⟩
  ·split at h
   ·rename_i j D n
    rw [aT,aT]at h
    obtain ⟨o,g,z⟩:=h
    have ha:a=.nilSlice:=by
     unfold Aam at o
     split at o
     ·rfl
     ·cases o
    subst ha
    have hl:(ρ.lst j).length=0:=by
     unfold AaB at g
     split at g
     ·rename_i e
      have:=C.Ad _ (CG e)
      have this:(0:Int)=((ρ.lst j).length:Int):=this
      omega
     ·cases g
    have A:ρ.lst j=[]:=List.eq_nil_of_length_eq_zero hl
    have e:u=.slice none 0 0:=by simpa only [Ae]using q
    obtain ⟨c,d⟩:=Dg (ρ:=ρ) R k (u:=u)
    refine ⟨c.1 ?_,by rw [←d];rfl⟩
    rw [ST.Bk z]
    simp only [Ae,Ix]
    exact ⟨⟨0,by rw [hl];exact Nat.le_refl _,.inl ⟨A,none,e⟩⟩,by rw [hl];rfl,fun e=>by cases e⟩
   ·cases h
 ·cases h
theorem HL {Γ:Ao} (p a:Aa) (ps as:List Aa):GA Γ σ (p::ps) (a::as)=(HM Γ σ p a&&GA Γ σ ps as):=rfl
theorem FO {Γ:Ao}:∀{ps as:List Aa},GA Γ σ ps as=true→ps.length=as.length
 |[],[],_=>rfl
 |[],_::_,h=>by cases h
 |_::_,[],h=>by cases h
 |p::ps,a::as,h=>by
  rw [HL,aT]at h
  simp [FO h.2]
theorem Jd {Γ:Ao}:∀{ps as:List Aa},GA Γ σ ps as=true→∀(i:Nat) (p a:Aa),ps[i]?=some p→as[i]?=some a→HM Γ σ p a=true
 |[],[],_,i,p,a,h,_=>by simp at h
 |[],_::_,h,_,_,_,_,_=>by cases h
 |_::_,[],h,_,_,_,_,_=>by cases h
 |p::ps,a::as,h,i,q,b,h1,h2=>by
  rw [HL,aT]at h
  cases i with
  |zero=>
   simp only [List.getElem?_cons_zero,oI]at h1 h2
   subst h1 h2
   exact h.1
  |succ i=>exact Jd h.2 i q b (by simpa using h1) (by simpa using h2)
theorem K8 {Γ:Ao} (c:Γ.AL ρ) (R:Ren μ' μ σ):∀{ps as:List Aa} {us:List Value},GA Γ σ ps as=true→Ax ρ μ as us→Ax ρ μ' ps us
 |[],[],us,_,h=>by simp only [Ax]at h⊢;exact h
 |[],_::_,_,h,_=>by cases h
 |_::_,[],_,h,_=>by cases h
 |p::ps,a::as,us,h,hr=>by
  rw [HL,aT]at h
  simp only [Ax]at hr⊢
  obtain ⟨u,rest,e,⟨d,k⟩,o⟩:=hr
  obtain ⟨g,j⟩:=Ex c R h.1 k
  exact ⟨u,rest,e,⟨by rw [j];exact d,g⟩,K8 c R h.2 o⟩
theorem KF {Γ:Ao} (d:Γ.AL ρ) (R:Ren μ' μ σ) {p a:Aa} (h:Nk Γ σ p a=true) {u:Value} (c:Ae ρ μ a u):Ae ρ μ' p u:=by
 unfold Nk at h
 split at h
 ·obtain ⟨x,e,g⟩:=c.agg
  subst e
  simp only [Ae]
  exact ⟨x,rfl,K8 d R h g⟩
 ·exact (Ex d R h c).1
theorem GB {Γ:Ao} (c:Γ.AL ρ) (R:Ren μ' μ σ):∀{ps as:List Aa} {us:List Value},KB Γ σ ps as=true→A9 ρ μ as us→A9 ρ μ' ps us
 |[],[],us,_,h=>by simp only [A9]at h⊢;exact h
 |[],_::_,_,h,_=>by cases h
 |_::_,[],_,h,_=>by cases h
 |p::ps,a::as,us,h,hr=>by
  have e:KB Γ σ (p::ps) (a::as)=(Nk Γ σ p a&&KB Γ σ ps as):=rfl
  rw [e,aT]at h
  simp only [A9]at hr⊢
  obtain ⟨u,rest,e,d,g⟩:=hr
  exact ⟨u,rest,e,KF c R h.1 d,GB c R h.2 g⟩
theorem MA {i:Nat} {v:List (Aa×List Aa)}:∀{l:List (Nat×List (Aa×List Aa))},Ug i l=some v→(i,v)∈l
 |[],h=>by cases h
 |e::r,h=>by
  have h:(bif Nat.beq e.1 i then some e.2 else Ug i r)=some v:=h
  cases c:Nat.beq e.1 i with
  |true=>
   rw [c]at h
   simp only [cond_true,oI]at h
   rw [←h,←Nat.eq_of_beq_eq_true c]
   exact List.mem_cons_self
  |false=>rw [c]at h;exact List.mem_cons_of_mem _ (MA h)
theorem SK:∀{g:List Entry} {l:List (Aa×List Aa)} {ms:List MapEntry} {d:List (List Nat×List PV)},Afr g l=true→Abl ρ l d→Cb ρ μ g ms→Jm μ.Bf d ms
 |[],[],ms,d,_,hd,h=>by
  have hd:d=[]:=hd
  subst hd
  exact h
 |[],_::_,_,_,h,_,_=>by cases h
 |_::_,[],_,_,h,_,_=>by cases h
 |e::g,x::l,ms,d,h,hd,hr=>by
  have h:(e.key.eq x.1&&((match e.val with|.agg cs=>Rb cs&&Aa.Pk (CW cs) x.2|_=>false)&&Afr g l))=true:=h
  rw [aT,aT]at h
  obtain ⟨D,c,N⟩:=h
  obtain ⟨s,M,rest,rfl,u,d2,C⟩:=hd
  obtain ⟨m,j,rfl,⟨_,A,o,_⟩,Q⟩:=hr
  rw [←Aa.Dw D]at u
  obtain ⟨b,y,J⟩:=BW u A
  split at c
  ·rename_i cs q
   rw [aT]at c
   rw [q]at o
   obtain ⟨a,P,ha⟩:=o.agg
   have k:a.size=M.length:=by
    have z:=ha.length
    have R:=d2.length
    have O:(CW cs).length=x.2.length:=by rw [Aa.Dk c.2]
    rw [FM]at O
    simp at z
    omega
   refine ⟨m,j,rfl,⟨b,y,J⟩,⟨a,P,k,?_⟩,SK N C Q⟩
   exact Ax.freeze (by rw [Aa.Dk c.2];exact d2) ha fun i v H=>by simpa using H
  ·cases c
theorem Mx {i j:Nat}:∀{l:List (Nat×List AQ)},(∀x∈l,B9 ρ x.2 (ρ.lst x.1))→ZM i j l=true→∃n,ρ.lst i=(ρ.lst j).take n
 |[],_,h=>by cases h
 |x::r,hl,h=>by
  have h:((Nat.beq x.1 i&&(match x.2 with|[.take k _]=>Nat.beq k j|_=>false)) ||ZM i j r)=true:=h
  rw [Bool.or_eq_true]at h
  rcases h with h|h
  ·rw [aT,An]at h
   obtain ⟨q,c⟩:=h
   have hd:=hl x List.mem_cons_self
   split at c
   ·rename_i k t e
    have c:=An.1 c
    rw [e,q,c]at hd
    obtain ⟨A,B,g,⟨_,_,o⟩,d⟩:=hd
    have d:B=[]:=d
    subst d
    rw [List.append_nil]at g
    exact ⟨_,g.trans o⟩
   ·cases c
  ·exact Mx (fun y u=>hl y (List.mem_cons_of_mem _ u)) h
theorem Lj {Γ:Ao} (c:Γ.AL ρ) (R:Ren μ' μ σ):∀{ps as:List Entry} {ms:List MapEntry},QN Γ σ ps as=true→Cb ρ μ as ms→Cb ρ μ' ps ms
 |[],[],ms,_,h=>h
 |[],_::_,ms,h,_=>by cases h
 |_::_,[],ms,h,_=>by cases h
 |p::ps,a::as,ms,h,he=>by
  have h:(HM Γ σ p.key a.key&&(HM Γ σ p.val a.val&&(Nat.beq p.born a.born&&QN Γ σ ps as)))=true:=h
  rw [aT,aT,aT,An]at h
  obtain ⟨m,rest,rfl,⟨j,k,u,g⟩,d⟩:=he
  obtain ⟨q,o⟩:=Ex c R h.1 k
  exact ⟨m,rest,rfl,⟨by rw [o];exact j,q,(Ex c R h.2.1 u).1,by rw [g,h.2.2.1]⟩,Lj c R h.2.2.2 d⟩
theorem Pm {Γ:Ao} (z:Γ.AL ρ) (R:Ren μ' μ σ) {B A:Block} (h:Nj Γ σ B A=true) {o:Option Obj} {δ:Nat×Nat} (g:CL ρ μ A o δ):CL ρ μ' B o δ:=by
 unfold Nj at h
 split at h
 ·rename_i M as
  obtain ⟨c,e,k,U,hc⟩:=g
  have hl:=FO h
  refine ⟨c,e,k,U,fun i p C=>?_⟩
  have hi:=(List.getElem?_eq_some_iff.1 C).1
  obtain ⟨a,ha⟩:∃a,as[i]?=some a:=⟨_,List.getElem?_eq_getElem (by omega)⟩
  obtain ⟨v,q,u,Q⟩:=hc i a ha
  obtain ⟨N,k2⟩:=Ex z R (Jd h i p a C ha) Q
  exact ⟨v,q,by rw [k2];exact u,N⟩
 ·rename_i e M e' as
  rw [aT,An]at h
  obtain ⟨rfl,h⟩:=h
  obtain ⟨c,k,⟨h0,hs⟩,U,hc⟩:=g
  have hl:=FO h
  refine ⟨c,k,⟨h0,by rw [hl];exact hs⟩,U,fun i p C=>?_⟩
  have hi:=(List.getElem?_eq_some_iff.1 C).1
  obtain ⟨a,ha⟩:∃a,as[i]?=some a:=⟨_,List.getElem?_eq_getElem (by omega)⟩
  obtain ⟨v,q,u,Q⟩:=hc i a ha
  obtain ⟨N,k2⟩:=Ex z R (Jd h i p a C ha) Q
  exact ⟨v,q,by rw [k2];exact u,N⟩
 ·rename_i i es j aj
  rw [aT,Bool.or_eq_true,An,An]at h
  obtain ⟨h,rfl⟩:=h
  obtain ⟨c,e,y,x,Z,P,x5,J,H⟩:=g
  rcases h with rfl|h
  ·exact ⟨c,e,y,x,Z,P,x5,J,by rw [R.Bf];exact H⟩
  ·obtain ⟨n,hn⟩:=Mx z.defs h
   refine ⟨c,e,y,x,?_,P,x5,J,?_⟩
   ·rw [hn,lT'];omega
   ·rw [R.Bf,hn]
    rw [BB]at H⊢
    refine ⟨fun M ac=>H.1 M (List.mem_of_mem_take ac),?_⟩
    have:=H.2
    rw [←List.take_append_drop n (ρ.lst j),List.flatten_append,AW.append_iff]at this
    exact this.1
 ·have h:=An.1 h
  subst h
  obtain ⟨D,ms,c,y,x⟩:=g
  exact ⟨D,ms,c,y,by rw [R.Bf];exact x⟩
 ·rename_i M c as d
  rw [aT,An]at h
  obtain ⟨rfl,h⟩:=h
  obtain ⟨D,ms,k,O⟩:=g
  exact ⟨D,ms,k,Lj z R h O⟩
 ·rename_i i es ae
  obtain ⟨l,hl,u⟩:=Ab (F9.1 h)
  simp only [oI]at u
  obtain ⟨D,ms,k,O⟩:=g
  exact ⟨D,ms,ae,k,by rw [R.Bf];exact SK u (z.CO _ (MA hl)) O⟩
 ·rw [aT,An]at h
  obtain ⟨q,rfl⟩:=h
  rw [ST.Bk q]
  exact g
 ·rename_i t e n e'
  rw [aT,An]at h
  obtain ⟨q,rfl⟩:=h
  rw [ST.Bk q]
  obtain ⟨c,y,x,Z,P,x5,J⟩:=g
  refine ⟨c,y,x,Z,?_,?_,J⟩
  ·show (BR _:Int)≤Int.ofNat n
   simp only [Int.ofNat_eq_natCast];omega
  ·show Int.ofNat n≤1048576
   simp only [Int.ofNat_eq_natCast];omega
 ·rw [aT,An,An]at h
  obtain ⟨rfl,rfl⟩:=h
  exact g
 ·cases h
theorem Ni {Γ:Ao} {h:Al}:∀{l:List Block} {k:Nat},XW Γ h σ l k=true→∀i B,l[i]?=some B→∃b A,Cn σ (k+i)=some b∧h.get b=some A∧Nj Γ σ B A=true
 |[],_,_,i,vs,hv=>by simp at hv
 |W::r,k,hb,i,B,hv=>by
  have e:XW Γ h σ (W::r) k=(eqB Γ h σ k W&&XW Γ h σ r (k+1)):=rfl
  rw [e,aT]at hb
  cases i with
  |zero=>
   simp only [List.getElem?_cons_zero,oI]at hv
   subst hv
   have c:=hb.1
   unfold eqB at c
   split at c
   ·rename_i b j
    split at c
    ·rename_i A o
     exact ⟨b,A,j,o,c⟩
    ·cases c
   ·cases c
  |succ i=>
   obtain ⟨b,A,c,d,g⟩:=Ni hb.2 i B (by simpa using hv)
   exact ⟨b,A,by rw [←c];congr 1;omega,d,g⟩
theorem Kn:∀{l r:List Aa},Ms σ l=some r→l.length=r.length∧∀(i:Nat) (a:Aa),r[i]?=some a→∃p,l[i]?=some p∧J9 σ p=some a
 |[],r,h=>by
  have h:some []=some r:=h
  simp only [oI]at h
  subst h
  exact ⟨rfl,fun i a ha=>by simp at ha⟩
 |v::l,r,h=>by
  have h:(AG (J9 σ v) fun u=>AG (Ms σ l) fun us=>some (u::us))=some r:=h
  obtain ⟨u,j,h⟩:=Ab h
  obtain ⟨us,c,h⟩:=Ab h
  simp only [oI]at h
  subst h
  obtain ⟨d,g⟩:=Kn c
  refine ⟨by simp [d],fun i a ha=>?_⟩
  cases i with
  |zero=>
   simp only [List.getElem?_cons_zero,oI]at ha
   subst ha
   exact ⟨v,rfl,j⟩
  |succ i=>simpa using g i a (by simpa using ha)
theorem Qd (R:Ren μ' μ σ):∀{l r:List Aa} {us:List Value},Ms σ l=some r→Ax ρ μ' l us→Ax ρ μ r us
 |[],r,us,h,hr=>by
  have h:some []=some r:=h
  simp only [oI]at h
  subst h
  exact hr
 |v::l,r,us,h,hr=>by
  have h:(AG (J9 σ v) fun u=>AG (Ms σ l) fun us=>some (u::us))=some r:=h
  obtain ⟨u,q,h⟩:=Ab h
  obtain ⟨y,c,h⟩:=Ab h
  simp only [oI]at h
  subst h
  simp only [Ax]at hr⊢
  obtain ⟨x,rest,rfl,⟨d,k⟩,o⟩:=hr
  obtain ⟨g,j⟩:=Dg (ρ:=ρ) R q (u:=x)
  exact ⟨x,rest,rfl,⟨by rw [j];exact d,g.2 k⟩,Qd R c o⟩
theorem Wu (R:Ren μ' μ σ):∀{l r:List Aa} {us:List Value},Ms σ l=some r→A9 ρ μ' l us→A9 ρ μ r us
 |[],r,us,h,hr=>by
  have h:some []=some r:=h
  simp only [oI]at h
  subst h
  exact hr
 |v::l,r,us,h,hr=>by
  have h:(AG (J9 σ v) fun u=>AG (Ms σ l) fun us=>some (u::us))=some r:=h
  obtain ⟨u,k,h⟩:=Ab h
  obtain ⟨o,c,h⟩:=Ab h
  simp only [oI]at h
  subst h
  simp only [A9]at hr⊢
  obtain ⟨x,rest,rfl,g,j⟩:=hr
  obtain ⟨d,q⟩:=Dg (ρ:=ρ) R k (u:=x)
  exact ⟨x,rest,rfl,d.2 g,Wu R c j⟩
theorem ZC (R:Ren μ' μ σ) {p a:Aa} (h:Acz σ p=some a) {u:Value} (c:Ae ρ μ' p u):Ae ρ μ a u:=by
 unfold Acz at h
 split at h
 ·obtain ⟨cs,d,e⟩:=Ab h
  simp only [oI]at e
  subst e
  obtain ⟨x,rfl,g⟩:=c.agg
  simp only [Ae]
  exact ⟨x,rfl,Qd R d g⟩
 ·exact (Dg R h).1.2 c
theorem RS (R:Ren μ' μ σ):∀{l r:List Aa} {us:List Value},ZD σ l=some r→A9 ρ μ' l us→A9 ρ μ r us
 |[],r,us,h,hr=>by
  have h:some []=some r:=h
  simp only [oI]at h
  subst h
  exact hr
 |v::l,r,us,h,hr=>by
  have h:(AG (Acz σ v) fun u=>AG (ZD σ l) fun us=>some (u::us))=some r:=h
  obtain ⟨a,ha,g⟩:=Ab h
  obtain ⟨as,c,d⟩:=Ab g
  simp only [oI]at d
  subst d
  simp only [A9]at hr⊢
  obtain ⟨u,rest,rfl,j,k⟩:=hr
  exact ⟨u,rest,rfl,ZC R ha j,RS R c k⟩
theorem RU (R:Ren μ' μ σ) {p a:Aa} (h:TQ σ p=some a) {u:Value} (d:Ae ρ μ' p u):Ae ρ μ a u:=by
 unfold TQ at h
 split at h
 ·obtain ⟨cs,c,e⟩:=Ab h
  simp only [oI]at e
  subst e
  obtain ⟨x,rfl,g⟩:=d.agg
  simp only [Ae]
  exact ⟨x,rfl,Qd R c g⟩
 ·obtain ⟨cs,c,e⟩:=Ab h
  simp only [oI]at e
  subst e
  obtain ⟨x,rfl,g⟩:=d.tuple
  simp only [Ae]
  exact ⟨x,rfl,RS R c g⟩
 ·exact (Dg R h).1.2 d
theorem OI (R:Ren μ' μ σ):∀{l r:List Entry} {ms:List MapEntry},ZE σ l=some r→Cb ρ μ' l ms→Cb ρ μ r ms
 |[],r,ms,h,he=>by
  have h:some []=some r:=h
  simp only [oI]at h
  subst h
  exact he
 |e::l,r,ms,h,he=>by
  have h:(AG (J9 σ e.key) fun k=>AG (J9 σ e.val) fun v=>AG (ZE σ l) fun c=>some (⟨k,v,e.born⟩::c))=some r:=h
  obtain ⟨k,q,h⟩:=Ab h
  obtain ⟨v,A,h⟩:=Ab h
  obtain ⟨c,d,h⟩:=Ab h
  simp only [oI]at h
  subst h
  obtain ⟨m,rest,rfl,⟨j,z,x,g⟩,y⟩:=he
  obtain ⟨o,C⟩:=Dg (ρ:=ρ) R q (u:=m.key)
  exact ⟨m,rest,rfl,⟨by rw [C];exact j,o.2 z,(Dg R A).1.2 x,g⟩,OI R d y⟩
theorem ZH (R:Ren μ' μ σ) {B C:Block} (h:X3 σ B=some C) {o:Option Obj} {δ:Nat×Nat} (hB:CL ρ μ' B o δ):CL ρ μ C o δ:=by
 unfold X3 at h
 split at h
 ·rename_i vs
  obtain ⟨us,g,e⟩:=Ab h
  simp only [oI]at e
  subst e
  obtain ⟨O,H⟩:=Kn g
  obtain ⟨c,e,d,x,hc⟩:=hB
  refine ⟨c,e,d,x,fun i a ha=>?_⟩
  obtain ⟨p,z,A⟩:=H i a ha
  obtain ⟨v,D,j,q⟩:=hc i p z
  obtain ⟨y,J⟩:=Dg (ρ:=ρ) R A (u:=v)
  exact ⟨v,D,by rw [J];exact j,y.2 q⟩
 ·rename_i t vs
  obtain ⟨us,g,e⟩:=Ab h
  simp only [oI]at e
  subst e
  obtain ⟨O,H⟩:=Kn g
  obtain ⟨c,d,⟨Z,hs⟩,x,hc⟩:=hB
  refine ⟨c,d,⟨Z,by rw [←O];exact hs⟩,x,fun i a ha=>?_⟩
  obtain ⟨p,z,A⟩:=H i a ha
  obtain ⟨v,D,j,q⟩:=hc i p z
  obtain ⟨y,J⟩:=Dg (ρ:=ρ) R A (u:=v)
  exact ⟨v,D,by rw [J];exact j,y.2 q⟩
 ·simp only [oI]at h
  subst h
  obtain ⟨c,e,M,k,x3,U,x5,x6,x7⟩:=hB
  exact ⟨c,e,M,k,x3,U,x5,x6,by rw [←R.Bf];exact x7⟩
 ·simp only [oI]at h
  subst h
  obtain ⟨N,ms,c,M,k⟩:=hB
  exact ⟨N,ms,c,M,by rw [←R.Bf];exact k⟩
 ·simp only [oI]at h
  subst h
  exact hB
 ·simp only [oI]at h
  subst h
  exact hB
 ·obtain ⟨es,P,e⟩:=Ab h
  simp only [oI]at e
  subst e
  obtain ⟨N,ms,d,Q⟩:=hB
  exact ⟨N,ms,d,OI R P Q⟩
theorem TS (B:Option Block) (r:List (Option Block)) (i:Nat) (h:Al):OJ σ (B::r) i h=AG (Ac2 σ i B h) fun c=>OJ σ r (i+1) c:=rfl
theorem X7 {i:Nat} {B:Option Block} {h g:Al} (c:Ac2 σ i B h=some g):g.next=h.next∧g.fx=h.fx∧∃b,Cn σ i=some b∧∃C,(match B with|some B=>∃D,X3 σ B=some D∧C=some D|none=>C=none)∧∀d,g.get d=if d=b then C else h.get d:=by
 unfold Ac2 at c
 obtain ⟨b,hb,c⟩:=Ab c
 cases B with
 |none=>
  simp only [oI]at c
  subst c
  exact ⟨rfl,rfl,b,hb,none,rfl,fun d=>Al.Bq _ _ _ _⟩
 |some B=>
  obtain ⟨D,j,c⟩:=Ab c
  simp only [oI]at c
  subst c
  exact ⟨rfl,rfl,b,hb,some D,⟨D,j,rfl⟩,fun d=>Al.Bq _ _ _ _⟩
theorem Mv (z:σ.Nodup):∀{l:List (Option Block)} {i:Nat} {h c:Al},OJ σ l i h=some c→c.next=h.next∧c.fx=h.fx∧(∀b,(∀j,j<l.length→Cn σ (i+j)≠some b)→c.get b=h.get b)∧
  ∀j B,l[j]?=some B→∃b,Cn σ (i+j)=some b∧(match B with|some B=>∃D,X3 σ B=some D∧c.get b=some D|none=>c.get b=none)
 |[],i,h,c,g=>by
  have g:some h=some c:=g
  simp only [oI]at g
  subst g
  exact ⟨rfl,rfl,fun _ _=>rfl,fun j B hB=>by simp at hB⟩
 |B::r,i,h,c,g=>by
  rw [TS]at g
  obtain ⟨O,x,A⟩:=Ab g
  obtain ⟨n1,H,b,hb,C,y,g1⟩:=X7 x
  obtain ⟨n2,J,g2,g3⟩:=Mv z A
  refine ⟨n2.trans n1,J.trans H,fun d hd=>?_,fun j D q=>?_⟩
  ·have u:∀j,j<r.length→Cn σ (i+1+j)≠some d:=fun j N=>by
    rw [show i+1+j=i+(j+1) by omega];exact hd (j+1) (by simp;omega)
   have M:d≠b:=fun e=>by
    subst e;exact hd 0 (by simp) (by simpa using hb)
   rw [g2 d u,g1 d,if_neg M]
  ·cases j with
   |zero=>
    simp only [List.getElem?_cons_zero,oI]at q
    subst q
    have k:c.get b=C:=by
     have u:∀j,j<r.length→Cn σ (i+1+j)≠some b:=fun j N e=>by
      have:=Sh z hb e
      omega
     rw [g2 b u,g1 b,if_pos rfl]
    refine ⟨b,by simpa using hb,?_⟩
    cases B with
    |none=>exact k.trans y
    |some B=>obtain ⟨D,o,v⟩:=y;exact ⟨D,o,k.trans v⟩
   |succ j=>
    obtain ⟨d,o,v⟩:=g3 j D (by simpa using q)
    exact ⟨d,by rw [←o];congr 1;omega,v⟩
end
noncomputable def FJ (μ:Aq) (σ:List Nat):Aq:=⟨fun i=>(Cn σ i).bind μ.spot,μ.Bf⟩
structure Fits (Γ:Ao) (h:Al) (σ:List Nat) (pre:List Block) (n:Nat):Prop where
 len:σ.length=pre.length
 ple:pre.length≤n
 nodup:σ.Nodup
 bs:XW Γ h σ pre 0=true
section
variable {ρ:Env} {μ:Aq} {Γ:Ao} {h:Al} {w:World} {σ:List Nat} {pre:List Block} {post:List (Option Block)}
theorem Fits.lt (F:Fits Γ h σ pre post.length) (H:AO ρ μ h w):∀i b,Cn σ i=some b→i<pre.length∧b<h.next:=fun i b e=>by
 have d:=AcD e
 rw [F.len]at d
 obtain ⟨j,A,c,g,_⟩:=Ni F.bs i _ (List.getElem?_eq_getElem d)
 rw [Nat.zero_add,e]at c
 simp only [oI]at c
 subst c
 exact ⟨d,H.F7 g⟩
theorem Fits.ren:Ren (FJ μ σ) μ σ:=⟨fun i b e=>by show (Cn σ i).bind μ.spot=_;rw [e];rfl,rfl⟩
theorem Fits.get (F:Fits Γ h σ pre post.length):∀b B,(Bi pre (empty 0)).get b=some B→∃c A,pre[b]?=some B∧Cn σ b=some c∧h.get c=some A∧Nj Γ σ B A=true:=fun b B e=>by
 rw [C8]at e
 obtain ⟨c,A,d,g,j⟩:=Ni F.bs b B e
 rw [Nat.zero_add]at d
 exact ⟨c,A,e,d,g,j⟩
theorem Fits.own (F:Fits Γ h σ pre post.length):∀r,AU (FJ μ σ) (Bi pre (empty 0)) r→∃i b B δ,Cn σ i=some b∧h.get b=some B∧μ b=some (r,δ):=fun r ⟨b,B,δ,hb,hm⟩=>by
 obtain ⟨c,A,_,d,g,_⟩:=F.get b B hb
 rw [Fits.ren.spot b c d]at hm
 exact ⟨b,c,A,δ,d,g,hm⟩
theorem Fits.before (O:Γ.AL ρ) (F:Fits Γ h σ pre post.length) (H:AO ρ μ h w):AO ρ (FJ μ σ) (Bi pre (empty 0)) w:=by
 have q:∀r,AU (FJ μ σ) (Bi pre (empty 0)) r→AU μ h r:=fun r j=>by
  obtain ⟨i,b,B,δ,_,d,k⟩:=F.own r j
  exact ⟨b,B,δ,d,k⟩
 refine ⟨fun b hb=>?_,fun b B hb=>?_,fun b C B M r δ P hb y u v=>?_,⟨fun g o e=>⟨(H.AY.AY g o e).1,fun j=>(H.AY.AY g o e).2 (q g j)⟩,fun g o e=>⟨(H.AY.Bf g o e).1,fun j=>(H.AY.Bf g o e).2 (q g j)⟩,?_⟩⟩
 ·rw [Cf]at hb
  show (Cn σ b).bind μ.spot=none
  cases e:Cn σ b with
  |none=>rfl
  |some c=>have:=(F.lt H b c e).1;omega
 ·obtain ⟨c,A,_,d,k,J⟩:=F.get b B hb
  obtain ⟨r,δ,u,D⟩:=H.blk c A k
  exact ⟨r,δ,by rw [Fits.ren.spot b c d];exact u,Pm O Fits.ren J D⟩
 ·obtain ⟨c,A,_,d,k,_⟩:=F.get b B hb
  obtain ⟨N,Q,_,x,z,_⟩:=F.get C M y
  rw [Fits.ren.spot b c d]at u
  rw [Fits.ren.spot C N x]at v
  have:=H.inj _ _ _ _ _ _ _ k z u v
  subst this
  exact Sh F.nodup d x
 ·rw [(Cj pre (empty 0)).2.1]
  exact Ao.AL.none ρ
theorem Fits.after (F:Fits Γ h σ pre post.length) (H:AO ρ μ h w) {h1:Al} (am:OJ (σ++Lb post pre.length h.next) post 0 ⟨h.DR,h.next+(post.length-pre.length),h.fx⟩=some h1) {μ':Aq} {w':World} (J:Aw ρ (FJ μ σ) (Bi pre (empty 0)) w μ' (CB post (empty 0)) w'):
  ∃x,Aw ρ μ h w x h1 w'∧Ren μ' x (σ++Lb post pre.length h.next):=by
 have ay:=F.len
 have aE:=F.ple
 have aC:=F.nodup
 have R:=F.lt H
 have own:=F.own (μ:=μ)
 have ao:∀r,AU (FJ μ σ) (Bi pre (empty 0)) r→AU μ h r:=fun r ho=>by
  obtain ⟨i,b,B,δ,_,g,d⟩:=own r ho
  exact ⟨b,B,δ,g,d⟩
 generalize hσ':σ++Lb post pre.length h.next=σ' at am⊢
 have hσ'get:∀i b,Cn σ' i=some b↔(i<pre.length∧Cn σ i=some b)∨(pre.length≤i∧i<post.length∧b=h.next+(i-pre.length)):=fun i b=>by
  rw [←hσ',F6,F6]
  by_cases M:i<pre.length
  ·rw [List.getElem?_append_left (by omega)]
   constructor
   ·intro e;exact .inl ⟨M,e⟩
   ·rintro (⟨_,e⟩|⟨e,_⟩)
    ·exact e
    ·omega
  ·rw [List.getElem?_append_right (by omega),Gb,ay]
   constructor
   ·intro e
    split at e
    ·simp only [oI]at e
     exact .inr ⟨by omega,by omega,e.symm⟩
    ·cases e
   ·rintro (⟨e,_⟩|⟨P,e2,e3⟩)
    ·omega
    ·rw [if_pos (by omega),e3]
 have ax:σ'.Nodup:=by
  rw [←hσ',List.nodup_append]
  refine ⟨aC,?_,fun a ha b hb e=>?_⟩
  ·rw [List.nodup_iff_pairwise_ne,List.pairwise_iff_getElem]
   intro i j M hj aI e
   have P:=List.getElem?_eq_getElem M
   have e2:=List.getElem?_eq_getElem hj
   rw [Gb]at P e2
   split at P<;>split at e2<;>simp at P e2
   omega
  ·subst e
   obtain ⟨i,M⟩:=List.mem_iff_getElem?.1 ha
   obtain ⟨j,hj⟩:=List.mem_iff_getElem?.1 hb
   rw [Gb]at hj
   split at hj
   ·simp only [oI]at hj
    have:=(R i a (by rw [F6];exact M)).2
    omega
   ·cases hj
 obtain ⟨n1,f1,g1,g2⟩:=Mv ax am
 have n1:h1.next=h.next+(post.length-pre.length):=n1
 let x:Aq:=⟨fun b=>if h.next≤b∧b<h.next+(post.length-pre.length)then μ' (pre.length+(b-h.next))else μ b,μ'.Bf⟩
 have u:∀b,b<h.next→x b=μ b:=fun b hb=>by
  show (if _ then _ else _)=_
  rw [if_neg (by omega)]
 have R1:Ren μ' x σ':=⟨fun i b e=>by
  rcases (hσ'get i b).1 e with ⟨M,e⟩|⟨hi1,hi2,rfl⟩
  ·rw [u b (R i b e).2,J.old i (by rw [Cf];exact M)]
   exact Fits.ren.spot i b e
  ·show _=(if _ then _ else _)
   rw [if_pos (by omega)]
   congr 1;omega,rfl⟩
 have av:μ.le x:=⟨fun b y e=>by
  have hb:b<h.next:=by
   rcases Nat.lt_or_ge b h.next with hb|hb
   ·exact hb
   ·rw [H.fresh b hb]at e;cases e
  rw [u b hb];exact e,fun k o e=>J.le.Bf k o e⟩
 have af:∀b B,h1.get b=some B→(∃i O,Cn σ' i=some b∧(CB post (empty 0)).get i=some O∧X3 σ' O=some B)∨((∀i,Cn σ i≠some b)∧h.get b=some B):=fun b B hb=>by
  by_cases hex:∃i,Cn σ' i=some b
  ·obtain ⟨i,M⟩:=hex
   left
   have au:i<post.length:=by
    rcases (hσ'get i b).1 M with ⟨q,_⟩|⟨_,q,_⟩
    ·omega
    ·exact q
   obtain ⟨b',g,d⟩:=g2 i _ (List.getElem?_eq_getElem au)
   rw [Nat.zero_add,M]at g
   simp only [oI]at g
   subst g
   cases U:post[i]with
   |none=>rw [U]at d;simp only at d;rw [hb]at d;cases d
   |some O=>
    rw [U]at d
    obtain ⟨D,z,k4⟩:=d
    rw [hb]at k4
    simp only [oI]at k4
    subst k4
    refine ⟨i,O,M,?_,z⟩
    rw [DB,List.getElem?_eq_getElem au,U];rfl
  ·right
   have Q:∀i,Cn σ' i≠some b:=fun i e=>hex ⟨i,e⟩
   refine ⟨fun i e=>Q i ((hσ'get i b).2 (.inl ⟨(R i b e).1,e⟩)),?_⟩
   have:=g1 b fun j _=>by rw [Nat.zero_add];exact Q j
   rw [this]at hb
   exact hb
 have ag:∀r,AU μ' (CB post (empty 0)) r→∀b B δ,(∀i,Cn σ i≠some b)→h.get b=some B→μ b=some (r,δ)→False:=fun r ho b B δ Q hb v=>by
  have aB:=H.lt hb v
  refine (J.kept r aB fun U=>?_).2 ho
  obtain ⟨i,c,C,δ',g,d,z⟩:=own r U
  have:=H.inj _ _ _ _ _ _ _ hb d v z
  subst this
  exact Q i g
 have ap:∀r,AU x h1 r→AU μ' (CB post (empty 0)) r∨∃b B δ,(∀i,Cn σ i≠some b)∧h.get b=some B∧μ b=some (r,δ):=fun r ⟨b,B,δ,hb,v⟩=>by
  rcases af b B hb with ⟨i,O,g,d,z⟩|⟨g,d⟩
  ·left
   rw [←R1.spot i b g]at v
   exact ⟨i,O,δ,d,v⟩
  ·right
   rw [u b (H.F7 d)]at v
   exact ⟨b,B,δ,g,d,v⟩
 have ah:∀r,r<w.heap.size→¬AU μ h r→w'.heap[r]?=w.heap[r]?∧¬AU x h1 r:=fun r hr ho=>by
  obtain ⟨N,Z⟩:=J.kept r hr fun U=>ho (ao r U)
  refine ⟨N,fun hq=>?_⟩
  rcases ap r hq with hq|⟨b,B,δ,_,d,z⟩
  ·exact Z hq
  ·exact ho ⟨b,B,δ,d,z⟩
 have al:∀k o,μ'.Bf k=some o→μ.Bf k=some o∨AU (FJ μ σ) (Bi pre (empty 0)) k∨w.heap.size≤k:=J.icy
 have H1:AO ρ x h1 w':=by
  refine ⟨fun b hb=>?_,fun b B hb=>?_,fun b b' B B' r δ δ' hb aD v A=>?_,⟨fun k o hk=>?_,fun k o hk=>?_,?_⟩⟩
  ·rw [n1]at hb
   show (if _ then _ else _)=none
   rw [if_neg (by omega)]
   exact H.fresh b (by omega)
  ·rcases af b B hb with ⟨i,O,g,d,z⟩|⟨g,d⟩
   ·obtain ⟨r,δ,P,e2⟩:=J.rel.blk i O d
    exact ⟨r,δ,by rw [←R1.spot i b g];exact P,ZH R1 z e2⟩
   ·obtain ⟨r,δ,P,e2⟩:=H.blk b B d
    refine ⟨r,δ,by rw [u b (H.F7 d)];exact P,?_⟩
    have Q:¬AU (FJ μ σ) (Bi pre (empty 0)) r:=fun U=>by
     obtain ⟨i,c,C,δ',N,Z,q3⟩:=own r U
     have:=H.inj _ _ _ _ _ _ _ d Z P q3
     subst this
     exact g i N
    rw [(J.kept r (H.lt d P) Q).1]
    exact e2.mono av
  ·rcases af b B hb with ⟨i,O,g,d,z⟩|⟨g,d⟩<;>rcases af b' B' aD with ⟨i',Bp',k1',k2',k3'⟩|⟨k1',k2'⟩
   ·rw [←R1.spot i b g]at v
    rw [←R1.spot i' b' k1']at A
    have:=J.rel.inj _ _ _ _ _ _ _ d k2' v A
    subst this
    rw [g]at k1'
    simpa using k1'
   ·rw [←R1.spot i b g]at v
    rw [u b' (H.F7 k2')]at A
    exact (ag r ⟨i,O,δ,d,v⟩ b' B' δ' k1' k2' A).elim
   ·rw [←R1.spot i' b' k1']at A
    rw [u b (H.F7 d)]at v
    exact (ag r ⟨i',Bp',δ',k2',A⟩ b B δ g d v).elim
   ·rw [u b (H.F7 d)]at v
    rw [u b' (H.F7 k2')]at A
    exact H.inj _ _ _ _ _ _ _ d k2' v A
  ·obtain ⟨N,Z⟩:=H.AY.AY k o hk
   obtain ⟨q3,q4⟩:=ah k (Array.getElem?_eq_some_iff.1 N).1 Z
   exact ⟨q3.trans N,q4⟩
  ·obtain ⟨N,Z⟩:=J.rel.AY.Bf k o hk
   refine ⟨N,fun hq=>?_⟩
   rcases ap k hq with hq|⟨b,B,δ,g,d,z⟩
   ·exact Z hq
   ·rcases al k o hk with i1|i1|i1
    ·exact (H.AY.Bf k o i1).2 ⟨b,B,δ,d,z⟩
    ·obtain ⟨i,c,C,δ',N,Z,q3⟩:=own k i1
     have:=H.inj _ _ _ _ _ _ _ d Z z q3
     subst this
     exact g i N
    ·have:=H.lt d z;omega
  ·rw [f1];exact H.AY.facts
 refine ⟨x,⟨av,H1,J.size,ah,J.os,J.output,by rw [n1];omega,u,fun k o hk=>?_,f1⟩,R1⟩
 ·rcases al k o hk with i1|i1|i1
  ·exact .inl i1
  ·exact .inr (.inl (ao k i1))
  ·exact .inr (.inr i1)
end
end Go.AM
end
section
namespace Go.AM
section
variable {P:Program} {Γ:Ao} {ρ:Env} {pl:List C3} {nt:Nat} {call:C1} {fuel:Nat}
theorem QL (d:Bool) (l:List Step) (k:Nat) (f:Fr):FE Γ call fuel (.region d l) k f=Qe Γ call d l f:=rfl
theorem XU (a b:IC) (k:Nat) (f:Fr):FE Γ call fuel (.seq a b) k f=AG (FE Γ call fuel a k f) fun r=>andThen r fun c=>FE Γ call fuel b k c:=rfl
theorem Nc (c:C9) (a b:IC) (k:Nat) (f:Fr):FE Γ call fuel (.cond c a b) k f=AaG (ev f.tm c) (FE Γ call fuel a k f) (FE Γ call fuel b k f):=rfl
theorem SF (id:Nat) (b:IC) (k:Nat) (f:Fr):FE Γ call fuel (.block id b) k f=AG (FE Γ call fuel b id f) fun r=>some (Gv id r):=rfl
theorem UA (b:IC) (k:Nat) (f:Fr):FE Γ call fuel (.loop b) k f=iter (fun f=>I7 Γ k f Γ.loops) (fun f=>FE Γ call fuel b k f) fuel f:=rfl
def Dr:Nat→Code→List (Nat×Code)
 |k,.seq a b=>Dr k a++Dr k b
 |k,.cond _ a b=>Dr k a++Dr k b
 |_,.block id b=>Dr id b
 |k,.loop b=>(k,b)::Dr k b
 |_,_=>[]
def BF.Ph (k:BF):Exit:=bif k.out then .ret else .exit k.id
theorem BF.Aax (k:BF) {ρ:Env} {μ:Aq}:Abv ρ μ k.Na k.Ph:=by
 unfold BF.Na BF.Ph
 cases k.out<;>exact rfl
theorem BF.AcN {k:BF} {ρ:Env} {μ:Aq} {e:Exit} (h:Abv ρ μ k.Na e):e=k.Ph:=by
 unfold BF.Na at h
 unfold BF.Ph
 cases hk:k.out<;>rw [hk]at h<;>exact h
def Ef (P:Program) (ρ:Env) (nt:Nat) (x:Code) (k:BF):Prop:=
 ∃n,∀μ a w (Q:Exit→Act→World→Prop),CY ρ μ nt ⟨Oz k.Xo .nil,Bi k.pre (empty 0),k.df⟩ a w→
  (∀c d w',CY ρ c nt ⟨Oz k.NP .nil,CB k.post (empty 0),k.df⟩ d w'→Aw ρ μ (Bi k.pre (empty 0)) w c (CB k.post (empty 0)) w'→Q k.Ph d w')→Code.rounds P x Q n a w
def DE (P:Program) (ρ:Env) (nt:Nat) (l:List BF) (cur:Nat) (c:Code):Prop:=∀y∈Dr cur c,∀k∈l,k.id=y.1→Ef P ρ nt y.2 k
theorem DE.none {P:Program} {ρ:Env} {nt cur:Nat} {c:Code}:DE P ρ nt [] cur c:=fun _ _ k d=>by cases d
theorem P3:∀(l:List (Nat×Aa)) (t:Tr Aa) (n:Nat) (v:Aa),(Oz l t).get n=some v→(n,v)∈l∨t.get n=some v
 |[],t,n,v,e=>.inr e
 |x::l,t,n,v,e=>by
  have e:(Oz l (t.set x.1 (some x.2))).get n=some v:=e
  rcases P3 l _ n v e with k|k
  ·exact .inl (List.mem_cons_of_mem _ k)
  ·rw [Tr.Bq]at k
   split at k
   ·rename_i hb
    simp only [oI]at k
    subst k
    rw [hb]
    exact .inl (List.mem_cons_self)
   ·exact .inr k
theorem K7 {σ:List Nat} {t:Tr Aa}:∀{l:List (Nat×Aa)},WN Γ σ t l=true→∀i v,(i,v)∈l→Nk Γ σ v (E9 (t.get i))=true
 |[],_,b,B,hm=>by simp at hm
 |x::l,hf,b,B,hm=>by
  have hf:(Nk Γ σ x.2 (E9 (t.get x.1))&&WN Γ σ t l)=true:=hf
  rw [aT]at hf
  rcases List.mem_cons.1 hm with e|hm
  ·subst e
   exact hf.1
  ·exact K7 hf.2 b B hm
theorem Mr {σ:List Nat}:∀{l:List (Nat×Aa)} {t t' u:Tr Aa},TP σ l t=some t'→(∀n v,t.get n=some v→∃p,u.get n=some p∧TQ σ p=some v)→∀n v,t'.get n=some v→∃p,(Oz l u).get n=some p∧TQ σ p=some v
 |[],t,t',u,h,ht,n,v,e=>by
  have h:some t=some t':=h
  simp only [oI]at h
  subst h
  exact ht n v e
 |x::l,t,t',u,h,ht,n,v,e=>by
  have h:(AG (TQ σ x.2) fun v=>TP σ l (Tr.set t x.1 (some v)))=some t':=h
  obtain ⟨y,j,h⟩:=Ab h
  refine Mr (u:=u.set x.1 (some x.2)) h (fun m z c=>?_) n v e
  rw [Tr.Bq]at c
  by_cases hm:m=x.1
  ·rw [if_pos hm]at c
   simp only [oI]at c
   subst c
   exact ⟨x.2,by rw [Tr.Bq,if_pos hm],j⟩
  ·rw [if_neg hm]at c
   obtain ⟨p,d,g⟩:=ht m z c
   exact ⟨p,by rw [Tr.Bq,if_neg hm];exact d,g⟩
theorem SL {μ d:Aq} {σ:List Nat} (u:Γ.AL ρ) (R:Ren d μ σ) {p q:List (FuncId×List Aa)} (h:AcO Γ σ p q=true) {ds:List Deferred} (hd:CJ ρ μ q ds):CJ ρ d p ds:=by
 unfold AcO at h
 split at h
 ·exact hd
 ·rw [aT]at h
  obtain ⟨c,rest,j,⟨cap,o,g⟩,k⟩:=hd
  exact ⟨c,rest,j,⟨cap,by rw [o,An.1 h.1],GB u R h.2 g⟩,k⟩
 ·cases h
theorem X2 {μ d:Aq} {σ:List Nat} (R:Ren d μ σ) {p q:List (FuncId×List Aa)} (h:ZF σ p=some q) {ds:List Deferred} (hd:CJ ρ d p ds):CJ ρ μ q ds:=by
 unfold ZF at h
 split at h
 ·simp only [oI]at h
  subst h
  exact hd
 ·obtain ⟨l,hl,h⟩:=Ab h
  simp only [oI]at h
  subst h
  obtain ⟨c,rest,j,⟨cap,o,g⟩,k⟩:=hd
  exact ⟨c,rest,j,⟨cap,o,Wu R hl g⟩,k⟩
 ·cases h
theorem NY {x:Code} {k:BF} (J:Ef P ρ nt x k) {f:Fr} {r:Bm×Fr} (c:LI Γ k f=some r) (D:Γ.AL ρ):
  ∃n,∀{μ:Aq} {a:Act} {w:World} {Q:Exit→Act→World→Prop},CY ρ μ nt f a w→D7 ρ nt μ f.h w Q r→Code.rounds P x Q n a w:=by
 obtain ⟨n,J⟩:=J
 refine ⟨n,fun {μ a w Q} F L=>?_⟩
 unfold LI at c
 obtain ⟨g,c⟩:=Ap c
 generalize Rt f.h k.pre 0 (Yw k.df f.df (Tl f.tm k.Xo []))=σ at g c
 unfold Ad5 at g
 rw [aT,aT,aT,aT,aT]at g
 obtain ⟨U,j,d,Z,M,O⟩:=g
 have j:=An.1 j
 rw [Dq,EX]at j
 have d:=AX.1 d
 rw [EX,Gs]at d
 unfold AaT at c
 obtain ⟨h1,o,c⟩:=Ab c
 obtain ⟨tm,z,c⟩:=Ab c
 obtain ⟨df,C,c⟩:=Ab c
 simp only [oI]at c
 subst c
 rw [EX]at o z C
 rw [Gs]at o
 have H:=F.heap
 have R:Fits Γ f.h σ k.pre k.post.length:=⟨j,d,Fh Z,O⟩
 refine J (FJ μ σ) a w Q ⟨fun t=>?_,F.size,Fits.before D R H,SL D Fits.ren U F.defs⟩ fun μ' a' w' N g'=>?_
 ·show Ae ρ (FJ μ σ) (E9 ((Oz k.Xo .nil).get t)) _
  cases hg:(Oz k.Xo .nil).get t with
  |none=>trivial
  |some v=>
   rcases P3 _ _ _ _ hg with q|q
   ·exact KF D Fits.ren (K7 M t v q) (F.tmps t)
   ·cases q
 ·obtain ⟨y,A,R1⟩:=R.after H o g'
  refine L y a' w' k.Ph ⟨fun t=>?_,N.size,A.rel,?_⟩ A k.Aax
  ·show Ae ρ y (E9 (tm.get t)) _
   cases hg:tm.get t with
   |none=>trivial
   |some v=>
    obtain ⟨p,k1,k2⟩:=Mr (u:=.nil) z (fun n v e=>by cases e) t v hg
    have:=N.tmps t
    rw [k1]at this
    exact RU R1 k2 this
  ·exact X2 R1 C N.defs
theorem Ld {x:Code} {cur:Nat} {f:Fr} {r:Bm×Fr} (d:Γ.AL ρ):∀{l:List BF},(∀k∈l,k.id=cur→Ef P ρ nt x k)→I7 Γ cur f l=some r→
  ∃n,∀{μ:Aq} {a:Act} {w:World} {Q:Exit→Act→World→Prop},CY ρ μ nt f a w→D7 ρ nt μ f.h w Q r→Code.rounds P x Q n a w
 |[],_,h=>by cases h
 |k::l,hl,h=>by
  have h:(bif Nat.beq k.id cur then (match LI Γ k f with|some x=>some x|none=>I7 Γ cur f l)else I7 Γ cur f l)=some r:=h
  have rest:I7 Γ cur f l=some r→∃n,∀{μ:Aq} {a:Act} {w:World} {Q:Exit→Act→World→Prop},CY ρ μ nt f a w→D7 ρ nt μ f.h w Q r→Code.rounds P x Q n a w:=Ld d fun y c=>hl y (List.mem_cons_of_mem _ c)
  rw [AP]at h
  split at h
  ·rename_i e
   split at h
   ·rename_i y c
    simp only [oI]at h
    subst h
    exact NY (hl k List.mem_cons_self e) c d
   ·exact rest h
  ·exact rest h
theorem IW {μ:Aq} {h:Al} {w:World} {z r:Bm×Fr} {k:Fr→Option (Bm×Fr)} (d:andThen z k=some r) {K:Act→World→Prop} {Q:Exit→Act→World→Prop} (L:D7 ρ nt μ h w Q r)
  (A:∀j,z=(.normal,j)→k j=some r→∀o q w',CY ρ o nt j q w'→Aw ρ μ h w o j.h w'→K q w'):D7 ρ nt μ h w (Exit.then K Q) z:=by
 intro o q w' e F g c
 obtain ⟨x,j⟩:=z
 cases x with
 |normal=>
  have c:e=.normal:=c
  subst c
  exact A j rfl d o q w' F g
 |exit i=>
  have d:some (Bm.exit i,j)=some r:=d
  simp only [oI]at d
  subst d
  have y:=L o q w' e F g c
  have c:e=.exit i:=c
  subst c
  exact y
 |ret=>
  have d:some (Bm.ret,j)=some r:=d
  simp only [oI]at d
  subst d
  have y:=L o q w' e F g c
  have c:e=.ret:=c
  subst c
  exact y
 |panic v=>
  have d:some (Bm.panic v,j)=some r:=d
  simp only [oI]at d
  subst d
  have y:=L o q w' e F g c
  obtain ⟨u,rfl,_⟩:=c
  exact y
theorem So {μ:Aq} {h:Al} {w:World} {id:Nat} {r:Bm×Fr} {Q:Exit→Act→World→Prop} (L:D7 ρ nt μ h w Q (Gv id r)):D7 ρ nt μ h w (Exit.inBlock id Q) r:=by
 intro j d w' e F g c
 obtain ⟨x,o⟩:=r
 cases x with
 |normal=>
  have k:=L j d w' e F g c
  have c:e=.normal:=c
  subst c
  exact k
 |ret=>
  have k:=L j d w' e F g c
  have c:e=.ret:=c
  subst c
  exact k
 |panic v=>
  have k:=L j d w' e F g c
  obtain ⟨u,rfl,_⟩:=c
  exact k
 |exit i=>
  have c:e=.exit i:=c
  subst c
  unfold Gv at L
  simp only at L
  show if i=id then Q .normal d w' else Q (.exit i) d w'
  rw [AP]at L
  by_cases hi:i=id
  ·rw [if_pos hi]at L
   rw [if_pos hi]
   exact L j d w' .normal F g rfl
  ·rw [if_neg hi]at L
   rw [if_neg hi]
   exact L j d w' (.exit i) F g rfl
theorem Ff {x:Code} {cur:Nat} {body:Fr→Option (Bm×Fr)} (q:Γ.AL ρ) (o:∀k∈Γ.loops,k.id=cur→Ef P ρ nt x k)
  (hb:∀{μ:Aq} {f:Fr} {a:Act} {w:World} {r:Bm×Fr} {Q:Exit→Act→World→Prop},body f=some r→CY ρ μ nt f a w→D7 ρ nt μ f.h w Q r→x.wp P Q a w):
  ∀(n:Nat) {f:Fr} {r:Bm×Fr},iter (fun f=>I7 Γ cur f Γ.loops) body n f=some r→∃m,∀{μ:Aq} {a:Act} {w:World} {Q:Exit→Act→World→Prop},CY ρ μ nt f a w→D7 ρ nt μ f.h w Q r→Code.rounds P x Q m a w
 |0,f,r,c=>by cases c
 |n+1,f,r,c=>by
  have c:(match I7 Γ cur f Γ.loops with
   |some r=>some r
   |none=>AG (body f) fun r=>andThen r fun j=>iter (fun f=>I7 Γ cur f Γ.loops) body n j)=some r:=c
  split at c
  ·rename_i y u
   simp only [oI]at c
   subst c
   exact Ld q o u
  ·obtain ⟨C,d,c⟩:=Ab c
   obtain ⟨A,H⟩:=C
   cases A with
   |normal=>
    obtain ⟨m,v⟩:=Ff q o hb n c
    refine ⟨m+1,fun {μ a w Q} F L=>?_⟩
    rw [rounds_succ]
    refine hb d F (IW c L fun j e z J M w' D g=>?_)
    simp only [Prod.mk.injEq,true_and]at e
    subst e
    exact v D (L.grow g)
   |_=>
    refine ⟨1,fun {μ a w Q} F L=>?_⟩
    rw [rounds_succ]
    exact hb d F (IW c L fun j e z=>by simp at e)
theorem HK (J:Γ.AL ρ) (hc:BM P ρ call) (Z:P.follows .mixedOrders=true):∀(c:Code) {cur:Nat} (_:DE P ρ nt Γ.loops cur c) {u:IC} {μ:Aq} {f:Fr} {a:Act} {w:World} {r:Bm×Fr} {Q:Exit→Act→World→Prop},
  Bd P pl nt c=some u→FE Γ call fuel u cur f=some r→CY ρ μ nt f a w→D7 ρ nt μ f.h w Q r→c.wp P Q a w:=by
 intro c
 induction c with
 |skip=>
  intro cur q u μ f a w r Q d o F L
  simp only [Bd,oI]at d
  subst d
  have o:some (Bm.normal,f)=some r:=o
  simp only [oI]at o
  subst o
  exact wp_skip (L μ a w .normal F (Aw.refl F.heap) rfl)
 |exit id=>
  intro cur q u μ f a w r Q d o F L
  simp only [Bd,oI]at d
  subst d
  have o:some (Bm.exit id,f)=some r:=o
  simp only [oI]at o
  subst o
  exact wp_exit (L μ a w (.exit id) F (Aw.refl F.heap) rfl)
 |ret=>
  intro cur q u μ f a w r Q d o F L
  simp only [Bd,oI]at d
  subst d
  have o:some (Bm.ret,f)=some r:=o
  simp only [oI]at o
  subst o
  exact wp_ret (L μ a w .ret F (Aw.refl F.heap) rfl)
 |region id ops draw=>
  intro cur q u μ f a w r Q d o F L
  simp only [Bd]at d
  obtain ⟨M,hs,e⟩:=mS d
  subst e
  rw [QL]at o
  unfold Qe at o
  obtain ⟨x,N,e⟩:=Ab o
  simp only [oI]at e
  subst e
  clear o
  have L:=PY J L
  cases draw with
  |true=>
   simp only [GF,if_true]at hs
   exact UF J hc Z hs N F L
  |false=>
   simp only [GF,Bool.false_eq_true,if_false]at hs
   refine wp_region ?_
   rw [List.range_eq_range',←Array.length_toList]
   exact OD J hc ops.toList M 0 (fun j=>by simp) hs N F L
 |seq x y ihx ihy=>
  intro cur q u μ f a w r Q d o F L
  simp only [Bd]at d
  split at d
  ·rename_i U i2 C O
   simp only [oI]at d
   subst d
   rw [XU]at o
   obtain ⟨r1,v,o⟩:=Ab o
   have H:DE P ρ nt Γ.loops cur x:=fun y A=>q y (List.mem_append_left _ A)
   have ab:DE P ρ nt Γ.loops cur y:=fun z hz=>q z (List.mem_append_right _ hz)
   exact wp_seq (ihx H C v F (IW o L fun f' _ R μ' a' w' F' g=>ihy ab O R F' (L.grow g)))
  ·cases d
 |cond c x y ihx ihy=>
  intro cur q u μ f a w r Q d o F L
  simp only [Bd]at d
  split at d
  ·rename_i U i2 C O
   simp only [oI]at d
   subst d
   rw [Nc]at o
   have D:=Au F.tmps c
   unfold AaG at o
   split at o
   ·rename_i b e1
    rw [e1]at D
    have D:=Ae.bool D
    simp only [SB.den]at D
    refine wp_cond D ?_
    cases b with
    |true=>exact ihx (fun y A=>q y (List.mem_append_left _ A)) C o F L
    |false=>exact ihy (fun y A=>q y (List.mem_append_right _ A)) O o F L
   ·cases o
  ·cases d
 |block id x ih=>
  intro cur q u μ f a w r Q d o F L
  simp only [Bd]at d
  obtain ⟨U,C,e⟩:=mS d
  subst e
  rw [SF]at o
  obtain ⟨r1,v,o⟩:=Ab o
  simp only [oI]at o
  subst o
  exact wp_block (ih q C v F (So L))
 |loop x ih=>
  intro cur q u μ f a w r Q d o F L
  simp only [Bd]at d
  obtain ⟨U,C,e⟩:=mS d
  subst e
  rw [UA]at o
  have H:DE P ρ nt Γ.loops cur x:=fun y A=>q y (List.mem_cons_of_mem _ A)
  have aa:∀k∈Γ.loops,k.id=cur→Ef P ρ nt x k:=fun k R e=>q (cur,x) List.mem_cons_self k R e
  obtain ⟨m,key⟩:=Ff J aa (fun v F L=>ih H C v F L) fuel o
  exact wp_loop_rounds m (key F L)
 |refuse why=>
  intro cur q u μ f a w r Q d o F L
  simp only [Bd,oI]at d
  subst d
  rw [Nc]at o
  cases o
 |_=>
  intro cur q u μ f a w r Q d
  simp [Bd]at d
theorem Nb (q:Γ.AL ρ) (o:Γ.loops=[]) (hc:BM P ρ call) (d:P.follows .mixedOrders=true) (c:Code) {g:IC} {μ:Aq} {f:Fr} {a:Act} {w:World} {r:Bm×Fr} {Q:Exit→Act→World→Prop} (j:Bd P pl nt c=some g) (k:exec Γ call fuel g f=some r) (F:CY ρ μ nt f a w) (L:D7 ρ nt μ f.h w Q r):c.wp P Q a w:=
 HK q hc d c (cur:=0) (by rw [o];exact DE.none) j k F L
end
end Go.AM
end
section
namespace Go.AM
section
variable {P:Program} {Γ:Ao} {ρ:Env} {μ:Aq} {tm:Tr Aa} {a:Act} {w:World} {h:Al} {pl:List C3} {call:C1} {fuel:Nat}
theorem N7:∀(l:List Aa) (i:Nat) (t:Tr Aa) (n:Nat),(N9 l i t).get n=if i≤n∧n<i+l.length then l[n-i]? else t.get n
 |[],i,t,n=>by
  show t.get n=_
  rw [if_neg (by simp)]
 |v::r,i,t,n=>by
  have e:N9 (v::r) i t=N9 r (i+1) (t.set i (some v)):=rfl
  rw [e,N7 r,Tr.Bq]
  simp only [lC]
  by_cases h1:i+1≤n∧n<i+1+r.length
  ·rw [if_pos h1,if_pos (by omega)]
   rw [show n-i=(n-(i+1))+1 from by omega,List.getElem?_cons_succ]
  ·rw [if_neg h1]
   by_cases h2:n=i
   ·subst h2
    rw [if_pos rfl,if_pos (by omega)]
    simp
   ·rw [if_neg h2,if_neg (by omega)]
theorem AaS {F:EF} {args:List Aa} {c:Array Value} (g:A9 ρ μ args c.toList) (k:Nat):Be ρ μ (Ht F args h).tm {tmps:=c++Array.replicate k undef,defers:=[]}:=by
 intro t
 show Ae ρ μ (E9 ((N9 args 0 (Tr.full Aa F.depth)).get t)) _
 rw [N7]
 split
 ·rename_i o
  rw [Nat.sub_zero,List.getElem?_eq_getElem (by omega)]
  obtain ⟨v,d,j⟩:=g.get (List.getElem?_eq_getElem (show t<args.length from by omega))
  have hs:t<c.size:=by
   have:=(List.getElem?_eq_some_iff.1 d).1
   simpa using this
  have:(c++Array.replicate k undef).getD t undef=v:=by
   rw [Array.getD_eq_getD_getElem?,Array.getElem?_append_left hs]
   rw [Array.getElem?_toList]at d
   rw [d];rfl
  simp only [this]
  exact j
 ·rw [Tr.JL]
  trivial
theorem X1 (x:Ro) (r:List Ro):ZA tm h (x::r)=AG (Qc tm h x) fun v=>AG (ZA tm h r) fun vs=>some (v::vs):=rfl
def J5 (tmps:Array Value):ResultVar→Sem Value
 |.tmp t=>pure (tmps.getD t undef)
 |.cell a t=>do loadVar t (←asAddr (tmps.getD a undef))
theorem Qb (H:AO ρ μ h w) (A:Be ρ μ tm a) {x:ResultVar} {i:Ro} (hc:GD P x=some i) {v:Aa} (g:Qc tm h i=some v):∃u,(J5 a.tmps x).run P w=.ok u w∧Ae ρ μ v u:=by
 cases x with
 |tmp t=>
  simp only [GD,oI]at hc
  subst hc
  simp only [Qc,oI]at g
  subst g
  exact ⟨_,rfl,A t⟩
 |cell b t=>
  obtain ⟨n,C,e⟩:=mS hc
  subst e
  have g:MC h.fx h n (E9 (tm.get b))=some v:=g
  obtain ⟨u,o,z⟩:=MB H.AY.facts H C (A b) g
  have k:=A b
  unfold MC at g
  split at g
  ·rename_i D J j y q
   rw [q]at k
   obtain ⟨r,m,_,d,_⟩:=k.vptr
   refine ⟨u,?_,z⟩
   rw [d]at o
   show (do loadVar t (←asAddr (a.tmps.getD b undef)):Sem Value).run P w=_
   rw [d]
   exact o
  ·rename_i c j y q
   rw [q]at k
   obtain ⟨r,δ,_,_,_,d,_⟩:=k.lptr
   refine ⟨u,?_,z⟩
   rw [d]at o
   show (do loadVar t (←asAddr (a.tmps.getD b undef)):Sem Value).run P w=_
   rw [d]
   exact o
  ·rename_i c y q
   rw [q]at k
   obtain ⟨r,δ,m,_,d⟩:=k.ptr
   refine ⟨u,?_,z⟩
   rw [d]at o
   show (do loadVar t (←asAddr (a.tmps.getD b undef)):Sem Value).run P w=_
   rw [d]
   exact o
  ·cases g
theorem Mq (H:AO ρ μ h w) (k:Be ρ μ tm a):∀{l:List ResultVar} {is:List Ro} {vs:List Aa},BE (l.map (GD P))=some is→ZA tm h is=some vs→∃us:List Value,(l.mapM (J5 a.tmps)).run P w=.ok us w∧A9 ρ μ vs us
 |[],is,vs,hc,c=>by
  simp only [List.map_nil,BE,oI]at hc
  subst hc
  have c:some []=some vs:=c
  simp only [oI]at c
  subst c
  exact ⟨[],by simp,by simp only [A9]⟩
 |x::l,is,vs,hc,c=>by
  have d:=Dy hc
  cases is with
  |nil=>simp at d
  |cons i is=>
   simp only [List.map_cons,List.cons.injEq]at d
   obtain ⟨A,g⟩:=d
   have q:BE (l.map (GD P))=some is:=by
    rw [g]
    clear g hc c
    induction is with
    |nil=>rfl
    |cons x r ih=>simp only [List.map_cons,BE,ih,Option.map_some]
   rw [X1]at c
   obtain ⟨v,o,c⟩:=Ab c
   obtain ⟨J,j,c⟩:=Ab c
   simp only [oI]at c
   subst c
   obtain ⟨u,z,D⟩:=Qb H k A o
   obtain ⟨us,C,y⟩:=Mq H k q j
   refine ⟨u::us,?_,?_⟩
   ·rw [List.mapM_cons]
    simp [z,C]
   ·simp only [A9]
    exact ⟨_,_,rfl,D,y⟩
theorem FK (H:AO ρ μ h w) (q:Be ρ μ tm a) {fn:Func} {is:List Ro} (hc:BE (fn.results.toList.map (GD P))=some is) {vs:List Aa} (j:ZA tm h is=some vs):∃u,(results fn a.tmps).run P w=.ok u w∧Ae ρ μ (oneOf vs) u:=by
 obtain ⟨us,g,c⟩:=Mq H q hc j
 have x:(fn.results.mapM (J5 a.tmps)).run P w=.ok us.toArray w:=by
  rw [Array.mapM_eq_mapM_toList]
  simp [g]
 have e:results fn a.tmps=(do
   let vs←fn.results.mapM (J5 a.tmps)
   pure (if h:vs.size=1 then vs[0]else .tuple vs)):=by
  unfold results
  congr 2
 rw [e]
 refine ⟨(if h:us.toArray.size=1 then us.toArray[0]else .tuple us.toArray),by simp only [Sem.run_bind,x,Result.andThen_ok,Sem.run_pure],?_⟩
 cases vs with
 |nil=>
  simp only [A9]at c
  subst c
  simp only [oneOf,Ae]
  exact ⟨#[],by simp,by simp only [A9]⟩
 |cons v vs=>
  cases vs with
  |nil=>
   simp only [A9]at c
   obtain ⟨u,_,rfl,k,rfl⟩:=c
   simpa [oneOf]using k
  |cons v' vs=>
   have d:=c
   simp only [A9]at d
   obtain ⟨u,_,rfl,_,o,r,rfl,_⟩:=d
   simp only [oneOf,Ae]
   exact ⟨(u::o::r).toArray,by simp,c⟩
end
end Go.AM
end
section
namespace Go.AM
section
variable {P:Program} {Γ:Ao} {ρ:Env} {μ:Aq} {tm:Tr Aa} {a:Act} {w:World} {h:Al} {pl:List C3} {call:C1} {dcall:Rp} {fuel:Nat}
def Ft (ρ:Env) (μ:Aq):CS→FrameMode→Prop
 |.returning,u=>u=.returning
 |.panicking v,u=>∃x,u=.panicking (Ii x)∧Ae ρ μ v x
theorem Ft.mono {c:Aq} (hl:μ.le c) {m:CS} {u:FrameMode} (d:Ft ρ μ m u):Ft ρ c m u:=by
 cases m with
 |returning=>exact d
 |panicking v=>obtain ⟨x,e,g⟩:=d;exact ⟨x,e,g.mono hl⟩
theorem Ft.settle {m:CS} {u:FrameMode} (c:Ft ρ μ m u):settle u=u:=by
 cases m with
 |returning=>have c:u=.returning:=c;subst c;rfl
 |panicking v=>obtain ⟨x,rfl,d⟩:=c;rfl
theorem Ft.AeX {m:CS} {u:FrameMode} (c:Ft ρ μ m u):u≠.run:=by
 cases m with
 |returning=>have c:u=.returning:=c;subst c;simp
 |panicking v=>obtain ⟨x,rfl,d⟩:=c;simp
def Yt (ρ:Env) (μ:Aq) (h:Al) (w:World) (g:CS) (d:Al) (e:Ending) (j:FrameMode) (w':World):Prop:=
 ∃c,Aw ρ μ h w c d w'∧Ft ρ c g (Go.settle j)∧∃v,e=.returned v
def Ve (P:Program) (ρ:Env) (dcall:Rp):Prop:=
 ∀g args m h j d,dcall g args m h=some (j,d)→Kc P g∧∀μ w (c:Array Value) u,AO ρ μ h w→A9 ρ μ args c.toList→Ft ρ μ m u→CallsD P g c u w (Yt ρ μ h w j d)
theorem Sm (d:FuncId×List Aa) (ds:List (FuncId×List Aa)) (m:CS) (h:Al):Qw dcall (d::ds) m h=AG (dcall d.1 d.2 m h) fun r=>Qw dcall ds r.1 r.2:=rfl
theorem Lf (hd:Ve P ρ dcall) {fn:Func} {tmps:Array Value} {R:Ending→World→Prop}:∀(ds:List (FuncId×List Aa)) {cs:List Deferred} {μ:Aq} {m:CS} {u:FrameMode} {h:Al} {w:World} {r:CS×Al},
  Qw dcall ds m h=some r→CJ ρ μ ds cs→AO ρ μ h w→Ft ρ μ m u→(∀y w' x,Aw ρ μ h w y r.2 w'→Ft ρ y r.1 x→Leaves P fn tmps R [] x w')→Leaves P fn tmps R cs u w
 |[],cs,μ,m,u,h,w,r,j,k,H,hm,hR=>by
  have j:some (m,h)=some r:=j
  simp only [oI]at j
  subst j
  have k:cs=[]:=k
  subst k
  exact hR μ w u (Aw.refl H) hm
 |d::ds,cs,μ,m,u,h,w,r,j,k,H,hm,hR=>by
  rw [Sm]at j
  obtain ⟨⟨Z,h1⟩,O,j⟩:=Ab j
  obtain ⟨c,rest,rfl,⟨cap,D,M⟩,o⟩:=k
  obtain ⟨hf,q⟩:=hd _ _ _ _ _ _ O
  refine ⟨hm.AeX,.func d.1,cap,d.1,c.args++cap,D,?_,?_⟩
  ·rw [D]
   simp only [invoke]
   exact GP hf _
  ·refine CallsD.mono (q μ w (c.args++cap) u H M hm) fun e x w' Q=>?_
   obtain ⟨y,g,N,v,rfl⟩:=Q
   exact Lf hd ds j (o.mono g.le) g.rel N fun A J C U z=>hR A J C (g.trans U) z
theorem Ed {fn:Func} {F:EF} (hc:ET P pl fn=some F):∃c,fn.body=some c∧Bd P pl fn.ntmps c=some F.body∧BE (fn.results.toList.map (GD P))=some F.results:=by
 unfold ET at hc
 split at hc
 ·cases hc
 ·rename_i c hb
  split at hc
  ·rename_i body results d g
   simp only [oI]at hc
   subst hc
   exact ⟨c,hb,d,g⟩
  ·cases hc
theorem Kk {F:EF} {args:List Aa} {c:Array Value} (H:AO ρ μ h w) (d:A9 ρ μ args c.toList) (n:Nat):CY ρ μ n (Ht F args h) {tmps:=c++Array.replicate (n-c.size) undef,defers:=[]} w:=
 ⟨AaS d _,by simp;omega,H,rfl⟩
theorem N2 (hΓ:Γ.AL ρ) (hc:BM P ρ call) (hd:Ve P ρ dcall) (Q:P.follows .mixedOrders=true) {g:FuncId} {fn:Func} (hf:P.funcs[g]?=some fn) {F:EF} (D:ET P pl fn=some F) (hL:∀c,fn.body=some c→DE P ρ fn.ntmps Γ.loops 0 c) {args:List Aa} {r:NK} {M:Al}
  (d:Pt Γ call dcall fuel F args h=some (r,M)) {A:Array Value} (H:AO ρ μ h w) (hv:A9 ρ μ args A.toList):Calls P g A w fun e w'=>∃o,Aw ρ μ h w o M w'∧KL ρ o r e:=by
 obtain ⟨c,hb,ab,U⟩:=Ed D
 unfold Pt at d
 obtain ⟨x,ae,d⟩:=Ab d
 obtain ⟨m,j,d⟩:=Ab d
 obtain ⟨y,ac,d⟩:=Ab d
 refine calls_of_wp_defers hf hb (HK hΓ hc Q c (hL c hb) ab ae (Kk H hv fn.ntmps) ?_)
 intro o a' w' e R C q
 have C:Aw ρ μ h w o x.2.h w':=C
 have fin:∀u,Ft ρ o m u→Leaves P fn a'.tmps (fun e w'=>∃o,Aw ρ μ h w o M w'∧KL ρ o r e) a'.defers u w':=fun u hm=>by
  refine Lf hd x.2.df ac R.defs R.heap hm fun J am Z g2 k=>?_
  unfold Ady at d
  split at d
  ·rename_i O
   obtain ⟨vs,aa,d⟩:=Ab d
   simp only [oI,Prod.mk.injEq]at d
   obtain ⟨rfl,rfl⟩:=d
   rw [O]at k
   have k:Z=.returning:=k
   subst k
   obtain ⟨v,h1,h2⟩:=FK g2.rel (R.tmps.mono g2.le) U aa
   exact ⟨v,h1,J,C.trans g2,h2⟩
  ·rename_i v O
   simp only [oI,Prod.mk.injEq]at d
   obtain ⟨rfl,rfl⟩:=d
   rw [O]at k
   obtain ⟨z,rfl,N⟩:=k
   exact ⟨J,C.trans g2,z,rfl,N⟩
 obtain ⟨x1,x2⟩:=x
 cases x1 with
 |normal=>
  have q:e=.normal:=q
  subst q
  simp only [Qq,oI]at j
  subst j
  exact fin .returning rfl
 |ret=>
  have q:e=.ret:=q
  subst q
  simp only [Qq,oI]at j
  subst j
  exact fin .returning rfl
 |exit i=>cases j
 |panic v=>
  obtain ⟨z,rfl,N⟩:=q
  simp only [Qq,oI]at j
  subst j
  exact fin _ ⟨z,rfl,N⟩
theorem Pp {m k:CS} {r:Bm×Fr} {j:Al} (c:Gg m r=some (k,j)):k=m∧j=r.2.h∧r.2.df=[]∧(r.1=.normal∨r.1=.ret):=by
 unfold Gg at c
 split at c
 ·rename_i d g
  simp only [oI,Prod.mk.injEq]at c
  exact ⟨c.1.symm,c.2.symm,g,.inl d⟩
 ·rename_i d g
  simp only [oI,Prod.mk.injEq]at c
  exact ⟨c.1.symm,c.2.symm,g,.inr d⟩
 ·cases c
theorem SO (hΓ:Γ.AL ρ) (h0:Γ.loops=[]) (hc:BM P ρ call) (D:P.follows .mixedOrders=true) {g:FuncId} {fn:Func} (hf:P.funcs[g]?=some fn) {F:EF} (z:ET P pl fn=some F) (C:F.results=[]) {args:List Aa} {m O:CS} {N:Al} {x:Bm×Fr}
  (ab:exec Γ call fuel F.body (Ht F args h)=some x) (hx:Gg m x=some (O,N)) {k:Array Value} {u:FrameMode} (H:AO ρ μ h w) (hv:A9 ρ μ args k.toList) (U:Ft ρ μ m u):CallsD P g k u w (Yt ρ μ h w O N):=by
 obtain ⟨c,hb,aa,A⟩:=Ed z
 obtain ⟨rfl,rfl,Q,o⟩:=Pp hx
 refine CallsD.mono (callsD_of_wp (R:=fun e w'=>∃j,Aw ρ μ h w j x.2.h w'∧∃v,e=.returned v) hf hb (Nb hΓ h0 hc D c aa ab (Kk H hv fn.ntmps) ?_)) fun e u' w' d=>?_
 ·intro j J w' e M y d
  have y:Aw ρ μ h w j x.2.h w':=y
  have q:=M.defs
  rw [Q]at q
  have q:J.defers=[]:=q
  rw [C]at A
  obtain ⟨v,h1,_⟩:=FK (vs:=[]) M.heap M.tmps A rfl
  have fin:J.defers=[]∧∃v,(results fn J.tmps).run P w'=.ok v w'∧∃j,Aw ρ μ h w j x.2.h w'∧∃v',Ending.returned v=.returned v':=⟨q,v,h1,j,y,v,rfl⟩
  rcases o with o|o<;>rw [o]at d
  ·have d:e=.normal:=d
   subst d
   exact fin
  ·have d:e=.ret:=d
   subst d
   exact fin
 ·obtain ⟨rfl,j,y,Z⟩:=d
  exact ⟨j,y,by rw [U.settle];exact U.mono y.le,Z⟩
theorem RV {o:Oper} (hc:D9 P pl o=some (.m .recover)):(execOp a.eval o).run P w=.ok .recover w:=by
 cases hop:o.op<;>simp only [D9,hop,reduceCtorEq,oI]at hc
 case call c=>
  unfold Fm at hc
  split at hc
  ·split at hc
   ·split at hc
    ·simp at hc
    ·split at hc
     ·split at hc<;>simp at hc
     ·split at hc
      ·split at hc<;>simp at hc
      ·cases hc
   ·cases hc
  ·simp at hc
  ·cases hc
  ·rename_i b hb
   split at hc
   ·split at hc<;>simp at hc
   ·exfalso
    unfold EU at hc
    split at hc<;>first|cases hc|skip
    all_goals (split at hc<;>first|(cases hc;done) |(split at hc<;>simp at hc))
   ·exfalso
    split at hc<;>first|(cases hc;done) |(obtain ⟨_,_,e⟩:=mS hc;cases e)
   ·simp at hc
   ·simp at hc
   ·rename_i q
    have j:c.args=#[]:=by rw [←Array.toList_inj];simpa using q
    simp [execOp,hop,resolve,hb,j,invoke,builtin]
   ·simp at hc
   ·exfalso
    split at hc
    ·split at hc<;>simp at hc
    ·cases hc
   ·cases hc
 case convert s d x=>
  rcases CV hc with ⟨k0,k,hs,hd,e⟩|⟨hs,hd,e⟩|⟨t,n,hs,hd,hn,e⟩|⟨u,n,hs,hd,hn,e⟩|⟨el,hs,he,hd,e⟩<;>cases e
 case typeAssert x xt t ok=>
  obtain ⟨d,i,z,D,hd,v,C,e⟩:=Cv hc
  cases e
 case defer c=>
  obtain ⟨g,args,A⟩:=c
  cases g<;>simp at hc
 case makeFunc fn x c=>cases fn<;>simp at hc
 case binOp op t x y yt=>obtain ⟨_,_,e⟩:=mS hc;cases e
 case slice t x lo v mx=>
  exfalso
  split at hc
  ·simp at hc
  ·obtain ⟨_,_,e⟩:=mS hc;cases e
  ·split at hc
   ·obtain ⟨_,_,e⟩:=mS hc;cases e
   ·cases hc
  ·cases hc
 case build t parts=>
  exfalso
  split at hc
  ·split at hc
   ·obtain ⟨_,_,e⟩:=mS hc;cases e
   ·cases hc
  ·obtain ⟨_,_,hc⟩:=Option.bind_eq_some_iff.1 hc
   obtain ⟨_,_,e⟩:=mS hc;cases e
  ·cases hc
 case fieldAddr t x f=>
  exfalso
  split at hc
  ·obtain ⟨_,_,hc⟩:=Option.bind_eq_some_iff.1 hc
   split at hc<;>simp at hc
  ·cases hc
 case field t x f=>
  exfalso
  split at hc
  ·obtain ⟨_,_,hc⟩:=Option.bind_eq_some_iff.1 hc
   obtain ⟨_,_,e⟩:=mS hc;cases e
  ·cases hc
 all_goals
  exfalso
  first
   |(cases hc;done)
   |(split at hc<;>first|(cases hc;done) |(simp at hc;done) |(obtain ⟨_,_,e⟩:=mS hc;cases e;done) |(split at hc<;>first|(cases hc;done) |(simp at hc;done) |(obtain ⟨_,_,e⟩:=mS hc;cases e;done) |(split at hc<;>first|(cases hc;done) |(simp at hc;done) |(obtain ⟨_,_,e⟩:=mS hc;cases e;done))))
   |(obtain ⟨_,_,e⟩:=mS hc;cases e;done)
theorem Mj (O:Γ.AL ρ) (hc:BM P ρ call) {nt:Nat} {y:Array Oper} {cs:List Frame} {Q:Exit→Act→List Frame→World→Prop}:∀(l:List Oper) (c:List Step) (k:Nat) {μ:Aq} {a:Act} {w:World} {f:Fr} {r:Cp},(∀j,l[j]?=y[k+j]?)→BE (l.map fun o=>stepOf P pl nt y o 0)=some c→
  TK Γ call c f=some r→CY ρ μ nt f a w→D7 ρ nt μ f.h w (fun e z w'=>Q e z cs w') (FN r)→wpOpsS P y Q (List.range' k l.length) a cs w
 |[],c,k,μ,a,w,f,r,hl,hs,q,F,L=>by
  simp only [List.map_nil,BE,oI]at hs
  subst hs
  have q:some (Cp.go f)=some r:=q
  simp only [oI]at q
  subst q
  exact L μ a w .normal F (Aw.refl F.heap) rfl
 |o::l,c,k,μ,a,w,f,r,hl,hs,q,F,L=>by
  have A:=Dy hs
  cases c with
  |nil=>simp at A
  |cons s c=>
   simp only [List.map_cons,List.cons.injEq]at A
   obtain ⟨h1,J⟩:=A
   have U:BE (l.map fun o=>stepOf P pl nt y o 0)=some c:=by
    rw [J]
    clear J q hs
    induction c with
    |nil=>rfl
    |cons x r ih=>simp only [List.map_cons,BE,ih,Option.map_some]
   rw [OE]at q
   obtain ⟨x,Z,q⟩:=Ab q
   have ho:y[k]?=some o:=by simpa using (hl 0).symm
   have N:∀j,l[j]?=y[k+1+j]?:=fun j=>by simpa [Nat.add_assoc,Nat.add_comm 1 j]using hl (j+1)
   rw [lC,List.range'_succ]
   have M:Vd ρ nt μ f.h a w (fun z w'=>wpOpsS P y Q (List.range' (k+1) l.length) z cs w') (fun e z w'=>Q e z cs w') x:=by
    cases x with
    |go f'=>exact fun R z w' H g=>Mj O hc l c (k+1) N U q H (L.grow g)
    |panic v f'=>
     simp only [goes,oI]at q
     subst q
     exact fun R u w' H g hv=>L R a w' _ H g ⟨u,rfl,hv⟩
   have d:=O9 O hc F (F3 h1) Z M
   unfold wpOpsS
   rw [ho]
   simp only
   split
   ·rename_i D
    rw [if_pos D]at d
    unfold Oper.wp at d
    split
    ·rename_i w' C
     rw [C]at d
     exact d.elim
    ·exact d
   ·rename_i D
    rw [if_neg D]at d
    exact d
theorem Qf {m:CS} {c₀:Frame} {cs:List Frame} (c:Ft ρ μ m c₀.mode):
  ∃v d,(match recoverD (c₀::cs)with|some (v,cs')=>(v,cs') |none=>(.nilIface,c₀::cs))=(v,{c₀ with mode:=d}::cs)∧settle d=.returning∧Ae ρ μ (recovered m) v:=by
 cases m with
 |returning=>
  have c:c₀.mode=.returning:=c
  refine ⟨.nilIface,c₀.mode,?_,by rw [c];rfl,by simp only [recovered,Ae]⟩
  have e:recoverD (c₀::cs)=none:=by simp [recoverD,c]
  rw [e]
 |panicking v=>
  obtain ⟨x,j,g⟩:=c
  refine ⟨x,.panicking [{v:=x,recovered:=true}],?_,rfl,g⟩
  simp [recoverD,j,Ii]
theorem Oo (hΓ:Γ.AL ρ) (h0:Γ.loops=[]) (hc:BM P ρ call) (af:P.follows .mixedOrders=true) {g:FuncId} {fn:Func} (hf:P.funcs[g]?=some fn) {F:EF} (ad:ET P pl fn=some F) (ai:F.results=[]) {dst:Option Nat} {bk:Nat} {y:List Step} {rest:IC}
  (Q:F.body=.seq (.region false (⟨dst,none,.m .recover,bk⟩::y)) rest) {args:List Aa} {m m':CS} {h':Al} {r:Cp} {x:Bm×Fr}
  (hr:TK Γ call y ⟨DY (Ht F args h).tm dst (recovered m),h,[]⟩=some r) (C:(andThen (FN r) fun f=>exec Γ call fuel rest f)=some x) (hx:Gg .returning x=some (m',h')) {q:Array Value} {u:FrameMode} (H:AO ρ μ h w) (hv:A9 ρ μ args q.toList) (hm:Ft ρ μ m u):
  CallsD P g q u w (Yt ρ μ h w m' h'):=by
 obtain ⟨c,hb,k,ae⟩:=Ed ad
 obtain ⟨rfl,rfl,av,A⟩:=Pp hx
 rw [Q]at k
 cases c<;>simp only [Bd,reduceCtorEq,oI]at k
 case region=>obtain ⟨_,_,e⟩:=mS k;cases e
 case cond=>split at k<;>simp at k
 case block=>obtain ⟨_,_,e⟩:=mS k;cases e
 case loop=>obtain ⟨_,_,e⟩:=mS k;cases e
 case seq c1 c2=>
  split at k
  case h_2=>cases k
  rename_i i1 i2 D h2
  simp only [oI,IC.seq.injEq]at k
  obtain ⟨rfl,rfl⟩:=k
  cases c1<;>simp only [Bd,reduceCtorEq,oI]at D
  case seq=>split at D<;>simp at D
  case cond=>split at D<;>simp at D
  case block=>obtain ⟨_,_,e⟩:=mS D;cases e
  case loop=>obtain ⟨_,_,e⟩:=mS D;cases e
  case region id ops draw=>
   obtain ⟨st,U,e⟩:=mS D
   simp only [IC.region.injEq]at e
   obtain ⟨rfl,rfl⟩:=e
   simp only [GF,Bool.false_eq_true,if_false]at U
   have J:=Dy U
   generalize hol:ops.toList=ol at U J
   cases ol with
   |nil=>simp at J
   |cons o l=>
    simp only [List.map_cons,List.cons.injEq]at J
    obtain ⟨k1,k2⟩:=J
    have az:BE (l.map fun o=>stepOf P pl fn.ntmps ops o 0)=some y:=by
     rw [k2]
     clear k2 hr U Q D
     induction y with
     |nil=>rfl
     |cons x r ih=>simp only [List.map_cons,BE,ih,Option.map_some]
    have M:=F3 k1
    have O:∀j:Nat,(o::l)[j]?=ops[j]?:=fun j=>by rw [←hol,Array.getElem?_toList]
    have ho:ops[0]?=some o:=by simpa using (O 0).symm
    have aw:ops.size=l.length+1:=by
     have:=cL hol
     simpa using this
    refine callsD_of_wpS hf hb fun c₀ cs hu=>wpS_seq (wpS_region ?_)
    rw [List.range_eq_range',aw,List.range'_succ]
    have F0:=Kk (F:=F) H hv fn.ntmps
    unfold wpOpsS
    rw [ho]
    simp only
    rw [EO F0.tmps M.guard (fun d b e=>Nat.lt_of_lt_of_le (M.seen d b e) F0.size) (b:=true) rfl]
    simp only [if_true]
    rw [RV M.op]
    simp only
    obtain ⟨v,u',z,ag,ap⟩:=Qf (c₀:=c₀) (cs:=cs) (m:=m) (ρ:=ρ) (μ:=μ) (by rw [hu];exact hm)
    have F1:CY ρ μ fn.ntmps ⟨DY (Ht F args h).tm dst (recovered m),h,[]⟩ (Act.put {tmps:=q++Array.replicate (fn.ntmps-q.size) undef,defers:=[]} o.dst v) w:=by
     have:=F0.put (d:=o.dst) μ.le_refl F0.heap M.small ap
     rw [←M.dst]at this⊢
     exact this
    have aa:wpOpsS P ops (Exit.thenS (c2.wpS P (bodyPostS P fn c₀ cs (Yt ρ μ h w .returning x.2.h))) (bodyPostS P fn c₀ cs (Yt ρ μ h w .returning x.2.h))) (List.range' 1 l.length)
      (Act.put {tmps:=q++Array.replicate (fn.ntmps-q.size) undef,defers:=[]} o.dst v) ({c₀ with mode:=u'}::cs) w:=by
     refine Mj hΓ hc l y 1 (fun j=>by have:=O (j+1);simpa [Nat.add_comm 1 j]using this) az hr F1 ?_
     intro μ1 a1 w1 e1 F2 g1 ab
     have g1:Aw ρ μ h w μ1 (FN r).2.h w1:=g1
     cases r with
     |panic v f'=>
      exfalso
      have C:some (Bm.panic v,f')=some x:=C
      simp only [oI]at C
      subst C
      rcases A with A|A<;>cases A
     |go f'=>
     have ab:e1=.normal:=ab
     subst ab
     have C:exec Γ call fuel i2 f'=some x:=C
     refine wpS_of_wp (Nb hΓ h0 hc af c2 h2 C F2 ?_)
     intro μ' Z w' e F' g' N
     have g':Aw ρ μ h w μ' x.2.h w':=g1.trans g'
     have R:=F'.defs
     rw [av]at R
     have R:Z.defers=[]:=R
     rw [ai]at ae
     obtain ⟨vr,r1,_⟩:=FK (vs:=[]) F'.heap F'.tmps ae rfl
     have fin:Z.defers=[]∧∃u2,({c₀ with mode:=u'}::cs:List Frame)={c₀ with mode:=u2}::cs∧∃v,(results fn Z.tmps).run P w'=.ok v w'∧Yt ρ μ h w .returning x.2.h (.returned v) u2 w':=
      ⟨R,u',rfl,vr,r1,μ',g',by rw [ag];rfl,vr,rfl⟩
     rcases A with A|A<;>rw [A]at N
     ·have N:e=.normal:=N
      subst N
      exact fin
     ·have N:e=.ret:=N
      subst N
      exact fin
    cases hrd:recoverD (c₀::cs)with
    |none=>
     rw [hrd]at z
     simp only [Prod.mk.injEq]at z
     obtain ⟨rfl,ay⟩:=z
     simp only
     rw [ay]
     exact aa
    |some p=>
     obtain ⟨pv,aR⟩:=p
     rw [hrd]at z
     simp only [Prod.mk.injEq]at z
     obtain ⟨rfl,rfl⟩:=z
     exact aa
def Py (P:Program) (pl:List C3) (DR:FuncId→Option EF):Prop:=
 ∀g F,DR g=some F→∃fn,P.funcs[g]?=some fn∧ET P pl fn=some F∧(fn.name== "runtime.NumGoroutine")=false
theorem Kc.Qm {g:FuncId} {fn:Func} {F:EF} (hf:P.funcs[g]?=some fn) (d:ET P pl fn=some F) (j:(fn.name== "runtime.NumGoroutine")=false):Kc P g:=by
 obtain ⟨c,hb,_⟩:=Ed d
 exact ⟨fn,hf,by rw [hb];rfl,j⟩
theorem OC (y:Γ.AL ρ) (v:Γ.loops=[]) (hc:BM P ρ call) (k:P.follows .mixedOrders=true) {DR:FuncId→Option EF} (Q:Py P pl DR):Ve P ρ fun f args m h=>AG (DR f) fun F=>KG Γ call fuel F args m h:=by
 intro g args m h m' h' j
 obtain ⟨F,O,j⟩:=Ab j
 obtain ⟨fn,hf,c,R⟩:=Q g F O
 refine ⟨Kc.Qm hf c R,fun μ w M u H D z=>?_⟩
 unfold KG at j
 split at j
 ·rename_i dst Z N rest q d
  obtain ⟨r,U,C⟩:=Ab j
  obtain ⟨x,o,A⟩:=Ab C
  exact Oo y v hc k hf c d q U o A H D z
 ·rename_i d _
  obtain ⟨x,o,J⟩:=Ab j
  exact SO y v hc k hf c d o J H D z
 ·cases j
def CD (P:Program) (ρ:Env) (f:FuncId) (o:By):Prop:=
 ∀args h r g,o args h=some (r,g)→Kc P f∧∀μ w (c:Array Value),AO ρ μ h w→A9 ρ μ args c.toList→
  Calls P f c w fun e w'=>∃d,Aw ρ μ h w d g w'∧KL ρ d r e
theorem HV (D:Γ.AL ρ) (C:Γ.loops=[]) (u:P.follows .mixedOrders=true) {DR:FuncId→Option EF} (A:Py P pl DR) {k:FuncId→Option By} (x:∀f o,k f=some o→CD P ρ f o):∀d:Nat,BM P ρ (Lp Γ k DR fuel d)
 |0=>fun g args h r y j=>by cases j
 |d+1=>fun g args h r y j=>by
  have ih:=HV D C u A x d
  have j:Qj (k g) args h (fun _=>AG (DR g) fun F=>Pt Γ (Lp Γ k DR fuel d) (fun f args m h=>AG (DR f) fun F=>KG Γ (Lp Γ k DR fuel d) fuel F args m h) fuel F args h)=some (r,y):=j
  have z:(AG (DR g) fun F=>Pt Γ (Lp Γ k DR fuel d) (fun f args m h=>AG (DR f) fun F=>KG Γ (Lp Γ k DR fuel d) fuel F args m h) fuel F args h)=some (r,y)→Kc P g∧∀μ w (q:Array Value),AO ρ μ h w→A9 ρ μ args q.toList→
    Calls P g q w fun e w'=>∃M,Aw ρ μ h w M y w'∧KL ρ M r e:=fun j=>by
   obtain ⟨F,N,j⟩:=Ab j
   obtain ⟨fn,hf,v,O⟩:=A g F N
   exact ⟨Kc.Qm hf v O,fun μ w q H R=>N2 D ih (OC D C ih u A) u hf v (fun c _=>by rw [C];exact DE.none) j H R⟩
  unfold Qj at j
  split at j
  ·rename_i o Q
   split at j
   ·rename_i U J
    simp only [oI]at j
    subst j
    exact x g o Q args h r y J
   ·exact z j
  ·exact z j
theorem Ao.AL.bare {Γ:Ao} {ρ:Env} (h:Γ.AL ρ):Γ.bare.AL ρ:=⟨h.DZ,h.tests,h.strs,h.EK,h.BA,h.Ad,h.elems,h.defs,h.looks,h.Lx,h.CQ,h.CO⟩
theorem Tm (y:Γ.AL ρ) (j:P.follows .mixedOrders=true) {DR:FuncId→Option EF} (x:Py P pl DR) {u:FuncId→Option By} (v:∀f o,u f=some o→CD P ρ f o) (d:Nat) {g:FuncId}
  (C:∀fn c,P.funcs[g]?=some fn→fn.body=some c→DE P ρ fn.ntmps Γ.loops 0 c):CD P ρ g (AdV Γ u DR fuel d g):=by
 intro args h r M q
 unfold AdV at q
 obtain ⟨F,A,q⟩:=Ab q
 obtain ⟨fn,hf,k,D⟩:=x g F A
 have ih:=HV y.bare rfl j x v d (fuel:=fuel)
 exact ⟨Kc.Qm hf k D,fun μ w z H J=>N2 y ih (OC y.bare rfl ih j x) j hf k (fun c hc=>C fn c hf hc) q H J⟩
end
end Go.AM
end
section
namespace Go.AM
open Go.ChangeShapes Go.WideShapes Go.ChangeAt Go.RowKit
def Kept (W w':World):Prop:=W.keptBut w' (fun _=>False)∧(∀b c,b<W.heap.size→w'.frozen? ⟨b,c,none⟩=W.frozen? ⟨b,c,none⟩)∧W.heap.size≤w'.heap.size
theorem Kept.of_same {W w':World} (c:∀r,r<W.heap.size→w'.heap[r]?=W.heap[r]?) (hs:W.heap.size≤w'.heap.size) (d:w'.os=W.os) (g:w'.output=W.output):Kept W w':=by
 refine ⟨⟨d,g,fun i j=>?_⟩,fun b k hb=>?_,hs⟩
 ·rw [c i j]
  cases W.heap[i]? with
  |none=>trivial
  |some o=>cases o<;>simp
 ·unfold World.frozen?
  simp only [c b hb]
theorem Kept.frame {W w':World} (h:Kept W w') (c:List MemPlace):W.keptBut w' (·∈c):=World.keptBut_mono (fun _ h=>h.elim) h.1
section
variable {H:Type} {enc:TypeId×Value→H} {P:Program}
theorem Qg {f:Func} {s:ChangeSpec} {apart fresh q J:Bool} {W u:World} {args:Array Value} {v:Value} {ds x:List (DataW H)} {before y pv:List MemPlace}
  (D:DataW.Whole enc P f.params.toList s.vars apart W args.toList ds x before)
  (A:∀(b:Nat) (d:Nat→Bool) (hd:Bool),DataW.TrodAll enc P u b d hd f.resultTypes.toList (v.resultList f.resultTypes.size) (s.fn H (ds++x)).results [])
  (o:∀d:Nat→Bool,(∀p∈before,d p.block=true)→DataW.TrodAll enc P u 0 d true f.params.toList args.toList (s.fn H (ds++x)).args y)
  (k:∀d:Nat→Bool,(∀p∈before,d p.block=true)→DataW.TrodVars enc P u d s.vars (s.fn H (ds++x)).vars pv)
  (g:before=y++pv) (O:Kept W u)
  (M:∀(j:Nat) (t:TypeId) (r:Value),f.resultTypes[j]?=some t→(v.resultList f.resultTypes.size)[j]?=some r→Value.okWide P u .any 0 t r):
  s.post enc P f apart fresh q J W args v u:=by
 have z:∀p∈before,(fun b=>decide (b<W.heap.size)) p.block=true:=fun p c=>by simpa using D.lt p c
 have N:=D.lt
 refine ⟨ds,x,before,[],y,pv,D,A _ _ _,o _ z,k _ z,World.keptBut_mono (fun p c=>⟨c,?_⟩) (O.frame before),fun _=>?_⟩
 ·rw [g,List.mem_append]at c
  exact Or.inr c
 ·obtain ⟨_,_,_,_,_,R,Q⟩:=D
  refine ⟨M,_,_,([]++y)++pv,⟨[]++y,pv,trodAll_append (o _ (fun _ _=>rfl)) (A _ _ _),k _ (fun _ _=>rfl),rfl,?_,?_⟩,?_⟩
  ·intro b C c
   have hb:MemPlace.cell b C∈before:=by rw [g];simpa using c
   rw [O.2.1 b C (N _ hb)]
   exact R b C hb
  ·intro ha
   have:=Q ha
   rw [g]at this
   simpa using this
  ·intro p c _
   rw [g]
   simpa using c
end
theorem Aw.idle {ρ:Env} {μ:Aq} {h:Al} {w w':World} (H:AO ρ μ h w) (g:∀r,r<w.heap.size→w'.heap[r]?=w.heap[r]?) (hs:w.heap.size≤w'.heap.size) (o:w'.os=w.os) (q:w'.output=w.output):Aw ρ μ h w μ h w':=by
 have c:∀r,r<w.heap.size→¬AU μ h r→w'.heap[r]?=w.heap[r]?∧¬AU μ h r:=fun r d j=>⟨g r d,j⟩
 refine ⟨μ.le_refl,⟨H.fresh,fun b B hb=>?_,H.inj,H.Gl c⟩,hs,c,o,q,Nat.le_refl _,fun _ _=>rfl,fun _ _ h=>.inl h,rfl⟩
 obtain ⟨r,δ,k,d⟩:=H.blk b B hb
 exact ⟨r,δ,k,by rw [g r (H.lt hb k)];exact d⟩
theorem OL {f:Nat}:∀{l:List (Nat×By)} {o:By},Sb f l=some o→(f,o)∈l
 |[],o,h=>by cases h
 |x::r,o,h=>by
  have h:(bif Nat.beq x.1 f then some x.2 else Sb f r)=some o:=h
  rw [AP]at h
  by_cases e:x.1=f
  ·rw [if_pos e]at h
   simp only [oI]at h
   rw [←e,←h]
   exact List.mem_cons_self
  ·rw [if_neg e]at h
   exact List.mem_cons_of_mem _ (OL h)
theorem Pz (k:IntKind) (n:Int) (h:k.min≤n∧n≤k.max):k.wrap n=n:=by
 obtain ⟨c,d⟩:=h
 unfold IntKind.wrap
 unfold IntKind.min at c
 unfold IntKind.max at d
 cases k<;>simp [IntKind.signed,IntKind.bits]at c d⊢<;>(try split)<;>omega
theorem Bz {α:Type} {p:α→Prop} {x:α} {l:List α} (h:p x) (d:∀y∈l,p y):∀y∈x::l,p y:=fun y c=>by
 rcases List.mem_cons.1 c with rfl|c
 ·exact h
 ·exact d y c
end Go.AM
end
section
namespace Go.AM
def Holds (P:Program) (ρ:Env) (g:FuncId) (x:BC):Prop:=
 Kc P g∧∀μ w (c:Array Value),AO ρ μ (Bi x.pre (empty 0)) w→A9 ρ μ x.args c.toList→
  Calls P g c w fun e w'=>∃d,Aw ρ μ (Bi x.pre (empty 0)) w d (CB x.post (empty 0)) w'∧KL ρ d (.ret x.res) e
theorem QW {P:Program} {ρ:Env} {g:FuncId} {x:BC} (D:Holds P ρ g x):CD P ρ g (QX x):=by
 intro args h r h' o
 unfold QX at o
 generalize Rt h x.pre 0 (Vi x.args args [])=σ at o
 simp only at o
 obtain ⟨k,C⟩:=Ap o
 clear o
 unfold Ad4 at k
 rw [aT,aT,aT,aT]at k
 obtain ⟨d,c,Q,q,O⟩:=k
 have d:=An.1 d
 rw [Dq,EX]at d
 have c:=AX.1 c
 rw [EX,Gs]at c
 have F:Fits h.fx h σ x.pre x.post.length:=⟨d,c,Fh Q,O⟩
 unfold AaU at C
 obtain ⟨h1,j,J⟩:=Ab C
 obtain ⟨v,U,A⟩:=Ab J
 simp only [oI,Prod.mk.injEq]at A
 obtain ⟨rfl,rfl⟩:=A
 rw [EX]at j U
 rw [Gs]at j
 refine ⟨D.1,fun μ w z H N=>?_⟩
 refine (D.2 _ w z (Fits.before H.AY.facts F H) (GB H.AY.facts Fits.ren q N)).mono fun e w' y=>?_
 obtain ⟨μ',g',y⟩:=y
 obtain ⟨M,R,Z⟩:=F.after H j g'
 refine ⟨M,R,?_⟩
 ·cases e
  case returned u=>exact RU Z U (show Ae ρ μ' x.res u from y)
  all_goals exact y.elim
theorem HN {P:Program} {ρ:Env} {g:FuncId}:∀{l:List BC},(∀x∈l,Holds P ρ g x)→CD P ρ g (JW l)
 |[],_,args,h,r,h',hr=>by cases hr
 |x::l,hl,args,h,r,h',hr=>by
  have e:JW (x::l) args h=(match QX x args h with|some y=>some y|none=>JW l args h):=rfl
  rw [e]at hr
  split at hr
  ·rename_i y c
   simp only [oI]at hr
   subst hr
   exact QW (hl x List.mem_cons_self) args h r h' c
  ·exact HN (fun y c=>hl y (List.mem_cons_of_mem _ c)) args h r h' hr
end Go.AM
end
