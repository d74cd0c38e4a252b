/- Part 4 of the proof of TypesAccepts. -/
import Derived.Test.YtbmofjdmgjpfoaaGreatDoorC3
set_option linter.all false
section
namespace Go.AM
def Env.of (AY:Nat→Option Obj) (n:List Int) (s:List (List Nat)) (l:List (List (List PV))) (m:List (List (List Nat×List PV))):Env:=
 {val:=fun i=>n.getD i 0,AY:=AY,str:=fun i=>s.getD i [],lst:=fun i=>l.getD i [],map:=fun i=>m.getD i []}
structure De where
 n:List ST:=[]
 s:List Aa:=[]
 l:List Nat:=[]
 m:List Nat:=[]
def B4 (ρ:Env) (v:Aa):List Nat:=(Eo ρ v).getD []
def Env.sub (ρ:Env) (τ:De):Env:=Env.of ρ.AY (τ.n.map (·.den ρ)) (τ.s.map (B4 ρ)) (τ.l.map ρ.lst) (τ.m.map ρ.map)
def ST.sub (τ:De):ST→Option ST
 |.lit n=>some (.lit n)
 |.var i=>τ.n[i]?
 |.bin op k a b=>match a.sub τ,b.sub τ with
  |some a,some b=>some (.bin op k a b)
  |_,_=>none
 |.conv k a=>(a.sub τ).map (.conv k)
def AcW (op:BinOp) (a b:ST):SB:=
 match a,b with
 |.lit x,.lit y=>(match AaH op x y with|some v=>.lit v|none=>.cmp op (.lit x) (.lit y))
 |a,b=>.cmp op a b
theorem SR {ρ:Env} (op:BinOp) (a b:ST):(AcW op a b).den ρ=(SB.cmp op a b).den ρ:=by
 unfold AcW
 split
 ·split
  ·rename_i x y v h
   simp only [SB.den,ST.den]
   exact (Nv h).1
  ·rfl
 ·rfl
def SB.sub (τ:De):SB→Option SB
 |.lit b=>some (.lit b)
 |.cmp op a b=>match a.sub τ,b.sub τ with
  |some a,some b=>some (AcW op a b)
  |_,_=>none
 |.no a=>(a.sub τ).map .no
def Aa.isStr:Aa→Bool
 |.str _=>true
 |.svar _=>true
 |_=>false
def Aa.To (τ:De):Aa→Option Aa
 |.bool b=>(b.sub τ).map .bool
 |.int k n=>(n.sub τ).map (.int k)
 |.str s=>some (.str s)
 |.ptr b o=>some (.ptr b o)
 |.nilPtr=>some .nilPtr
 |.slice b o l c=>some (.slice b o l c)
 |.gslice b o l e=>some (.gslice b o l e)
 |.nilSlice=>some .nilSlice
 |.map b=>some (.map b)
 |.nilMap=>some .nilMap
 |.nilFunc=>some .nilFunc
 |.nilIface=>some .nilIface
 |.gbytes b=>some (.gbytes b)
 |.svar i=>match τ.s[i]? with
  |some v=>if v.isStr then some v else none
  |none=>none
 |.lst f i es n=>match τ.l[i]?,n.sub τ with
  |some j,some n=>some (.lst f j es n)
  |_,_=>none
 |.lptr i j o=>match τ.l[i]?,j.sub τ with
  |some k,some j=>some (.lptr k j o)
  |_,_=>none
 |.vec b es n=>(n.sub τ).map (.vec b es)
 |.vptr b es j o=>(j.sub τ).map fun j=>.vptr b es j o
 |.anyStr n=>some (.anyStr n)
 |_=>none
def LY (τ:De):List Aa→Option (List Aa)
 |[]=>some []
 |v::r=>match v.To τ,LY τ r with
  |some v,some r=>some (v::r)
  |_,_=>none
def Aa.Xt (τ:De):Aa→Option Aa
 |.func f a c=>match LY τ a,LY τ c with
  |some a,some c=>some (.func f a c)
  |_,_=>none
 |v=>v.To τ
def R9 (τ:De):List Entry→Option (List Entry)
 |[]=>some []
 |e::r=>match e.key.Xt τ,e.val.Xt τ,R9 τ r with
  |some k,some v,some es=>some (⟨k,v,e.born⟩::es)
  |_,_,_=>none
def Aa.AdY (τ:De):Aa→Option Aa
 |.agg cs=>(LY τ cs).map .agg
 |v=>v.Xt τ
def R8 (τ:De):List Aa→Option (List Aa)
 |[]=>some []
 |v::r=>match v.AdY τ,R8 τ r with
  |some v,some r=>some (v::r)
  |_,_=>none
def Aa.R7 (τ:De):Aa→Option Aa
 |.agg cs=>(LY τ cs).map .agg
 |.tuple cs=>(R8 τ cs).map .tuple
 |v=>v.Xt τ
def O5 (τ:De):List Aa→Option (List Aa)
 |[]=>some []
 |v::r=>match v.R7 τ,O5 τ r with
  |some v,some r=>some (v::r)
  |_,_=>none
def Block.sub (τ:De):Block→Option Block
 |.cells vs=>(LY τ vs).map .cells
 |.typed e vs=>(LY τ vs).map (.typed e)
 |.bytes n e=>some (.bytes n e)
 |.sbytes t e=>(t.sub τ).map fun t=>.sbytes t e
 |.list i d=>(τ.l[i]?).map fun j=>.list j d
 |.smap i=>(τ.m[i]?).map .smap
 |.map d c=>(R9 τ d).map fun d=>.map d c
def I1 (τ:De):List Block→Option (List Block)
 |[]=>some []
 |B::r=>match B.sub τ,I1 τ r with
  |some B,some r=>some (B::r)
  |_,_=>none
def I0 (τ:De):List (Option Block)→Option (List (Option Block))
 |[]=>some []
 |none::r=>(I0 τ r).map (none::·)
 |some B::r=>match B.sub τ,I0 τ r with
  |some B,some r=>some (some B::r)
  |_,_=>none
def BC.sub (τ:De) (x:BC):Option BC:=
 match O5 τ x.args,I1 τ x.pre,x.res.R7 τ,I0 τ x.post with
 |some args,some pre,some res,some post=>some ⟨args,pre,res,post⟩
 |_,_,_,_=>none
section
variable {ρ:Env} {μ:Aq} {τ:De}
theorem getD_map {α β:Type} {f:α→β} {l:List α} {i:Nat} {x:α} {d:β} (h:l[i]?=some x):(l.map f).getD i d=f x:=by
 rw [List.getD_eq_getElem?_getD,List.getElem?_map,h];rfl
theorem ST.CZ:∀{t u:ST},t.sub τ=some u→u.den ρ=t.den (ρ.sub τ)
 |.lit n,u,h=>by simp only [ST.sub,oI]at h;subst h;rfl
 |.var i,u,h=>by
  simp only [ST.sub]at h
  exact (getD_map (f:=fun x:ST=>x.den ρ) h).symm
 |.bin op k a b,u,h=>by
  simp only [ST.sub]at h
  split at h
  ·rename_i c d ha hb
   simp only [oI]at h
   subst h
   simp only [ST.den,ST.CZ ha,ST.CZ hb]
  ·cases h
 |.conv k a,u,h=>by
  simp only [ST.sub]at h
  obtain ⟨c,ha,rfl⟩:=mS h
  simp only [ST.den,ST.CZ ha]
theorem SB.CZ:∀{t u:SB},t.sub τ=some u→u.den ρ=t.den (ρ.sub τ)
 |.lit n,u,h=>by simp only [SB.sub,oI]at h;subst h;rfl
 |.cmp op a b,u,h=>by
  simp only [SB.sub]at h
  split at h
  ·rename_i c d ha hb
   simp only [oI]at h
   subst h
   rw [SR]
   simp only [SB.den,ST.CZ ha,ST.CZ hb]
  ·cases h
 |.no a,u,h=>by
  simp only [SB.sub]at h
  obtain ⟨c,ha,rfl⟩:=mS h
  simp only [SB.den,SB.CZ ha]
theorem DU {p a:Aa} (h:p.To τ=some a) {u:Value}:(Ae (ρ.sub τ) μ p u↔Ae ρ μ a u)∧a.single=p.single:=by
 cases p<;>simp only [Aa.To,oI,reduceCtorEq]at h
 case bool b=>
  obtain ⟨y,hb,rfl⟩:=mS h
  simp only [Ae,SB.CZ (ρ:=ρ) hb,Aa.single,and_self]
 case int k n=>
  obtain ⟨g,c,rfl⟩:=mS h
  simp only [Ae,ST.CZ (ρ:=ρ) c,Aa.single,and_self]
 case svar i=>
  split at h
  ·rename_i v x
   split at h
   ·rename_i hs
    simp only [oI]at h
    subst h
    have e:(ρ.sub τ).str i=B4 ρ v:=getD_map (f:=B4 ρ) x
    cases v<;>simp only [Aa.isStr,Bool.false_eq_true]at hs
    case str s=>simp only [Ae,e,B4,Eo,Option.getD_some,Aa.single,and_self]
    case svar j=>simp only [Ae,e,B4,Eo,Option.getD_some,Aa.single,and_self]
   ·cases h
  ·cases h
 case lst f i es n=>
  split at h
  ·rename_i j g d c
   simp only [oI]at h
   subst h
   have e:(ρ.sub τ).lst i=ρ.lst j:=getD_map (f:=ρ.lst) d
   simp only [Ae,e,ST.CZ (ρ:=ρ) c,Aa.single,and_self]
  ·cases h
 case lptr i j o=>
  split at h
  ·rename_i k j' q d
   simp only [oI]at h
   subst h
   have e:(ρ.sub τ).lst i=ρ.lst k:=getD_map (f:=ρ.lst) q
   simp only [Ae,e,ST.CZ (ρ:=ρ) d,Aa.single,and_self]
  ·cases h
 case vec b es n=>
  obtain ⟨g,c,rfl⟩:=mS h
  simp only [Ae,ST.CZ (ρ:=ρ) c,Aa.single,and_self]
 case vptr b es j o=>
  obtain ⟨g,c,rfl⟩:=mS h
  simp only [Ae,ST.CZ (ρ:=ρ) c,Aa.single,and_self]
 all_goals
  subst h
  simp only [Ae,Aa.single,and_self]
theorem Xs (v:Aa) (r:List Aa):LY τ (v::r)=match v.To τ,LY τ r with
  |some v,some r=>some (v::r)
  |_,_=>none:=rfl
theorem Fc:∀{l r:List Aa},LY τ l=some r→l.length=r.length∧(∀{us:List Value},Ax (ρ.sub τ) μ l us↔Ax ρ μ r us)∧(∀{us:List Value},A9 (ρ.sub τ) μ l us↔A9 ρ μ r us)∧
  ∀(i:Nat),(∀p,l[i]?=some p→∃a,r[i]?=some a∧p.To τ=some a)∧(∀a,r[i]?=some a→∃p,l[i]?=some p∧p.To τ=some a)
 |[],r,h=>by
  simp only [LY,oI]at h
  subst h
  exact ⟨rfl,by simp only [Ax,implies_true],by simp only [A9,implies_true],fun i=>⟨fun p h=>by simp at h,fun p h=>by simp at h⟩⟩
 |v::l,r,h=>by
  rw [Xs]at h
  split at h
  ·rename_i y z d o
   simp only [oI]at h
   subst h
   obtain ⟨x,j,k,q⟩:=Fc o
   refine ⟨by simp [x],fun {us}=>?_,fun {us}=>?_,fun i=>?_⟩
   ·simp only [Ax]
    constructor
    ·rintro ⟨u,rest,rfl,⟨h1,h2⟩,h3⟩
     obtain ⟨c,g⟩:=DU (ρ:=ρ) (μ:=μ) d (u:=u)
     exact ⟨u,rest,rfl,⟨by rw [g];exact h1,c.1 h2⟩,j.1 h3⟩
    ·rintro ⟨u,rest,rfl,⟨h1,h2⟩,h3⟩
     obtain ⟨c,g⟩:=DU (ρ:=ρ) (μ:=μ) d (u:=u)
     exact ⟨u,rest,rfl,⟨by rw [←g];exact h1,c.2 h2⟩,j.2 h3⟩
   ·simp only [A9]
    constructor
    ·rintro ⟨u,rest,rfl,h2,h3⟩
     obtain ⟨c,g⟩:=DU (ρ:=ρ) (μ:=μ) d (u:=u)
     exact ⟨u,rest,rfl,c.1 h2,k.1 h3⟩
    ·rintro ⟨u,rest,rfl,h2,h3⟩
     obtain ⟨c,g⟩:=DU (ρ:=ρ) (μ:=μ) d (u:=u)
     exact ⟨u,rest,rfl,c.2 h2,k.2 h3⟩
   ·cases i with
    |zero=>
     simp only [List.getElem?_cons_zero,oI]
     exact ⟨fun p e=>⟨y,rfl,e▸d⟩,fun a e=>⟨v,rfl,e▸d⟩⟩
    |succ i=>simpa using q i
  ·cases h
theorem Hs {p a:Aa} (h:p.Xt τ=some a) {u:Value}:(Ae (ρ.sub τ) μ p u↔Ae ρ μ a u)∧a.single=p.single:=by
 unfold Aa.Xt at h
 split at h
 ·split at h
  ·rename_i x y j g
   simp only [oI]at h
   subst h
   obtain ⟨_,_,c,_⟩:=Fc (ρ:=ρ) (μ:=μ) j
   obtain ⟨_,_,d,_⟩:=Fc (ρ:=ρ) (μ:=μ) g
   simp only [Ae,c,d,Aa.single,and_self]
  ·cases h
 ·exact DU h
theorem O8:∀{l r:List Entry} {ms:List MapEntry},R9 τ l=some r→(Cb (ρ.sub τ) μ l ms↔Cb ρ μ r ms)
 |[],r,ms,h=>by
  simp only [R9,oI]at h
  subst h
  simp only [Cb]
 |e::l,r,ms,h=>by
  simp only [R9]at h
  split at h
  ·rename_i k v j c g d
   simp only [oI]at h
   subst h
   simp only [Cb,Abw,(Hs (ρ:=ρ) (μ:=μ) c).1,(Hs (ρ:=ρ) (μ:=μ) (u:=.bool true) c).2,(Hs (ρ:=ρ) (μ:=μ) g).1,O8 d]
  ·cases h
theorem YD {p a:Aa} (h:p.AdY τ=some a) {u:Value}:Ae (ρ.sub τ) μ p u↔Ae ρ μ a u:=by
 unfold Aa.AdY at h
 split at h
 ·obtain ⟨cs,c,rfl⟩:=mS h
  obtain ⟨_,k,_⟩:=Fc (ρ:=ρ) (μ:=μ) c
  simp only [Ae,k]
 ·exact (Hs h).1
theorem O7:∀{l r:List Aa} {us:List Value},R8 τ l=some r→(A9 (ρ.sub τ) μ l us↔A9 ρ μ r us)
 |[],r,us,h=>by
  simp only [R8,oI]at h
  subst h
  simp only [A9]
 |v::l,r,us,h=>by
  simp only [R8]at h
  split at h
  ·rename_i g j d c
   simp only [oI]at h
   subst h
   simp only [A9,YD (ρ:=ρ) (μ:=μ) d,O7 c]
  ·cases h
theorem Hr {p a:Aa} (h:p.R7 τ=some a) {u:Value}:Ae (ρ.sub τ) μ p u↔Ae ρ μ a u:=by
 unfold Aa.R7 at h
 split at h
 ·obtain ⟨cs,c,rfl⟩:=mS h
  obtain ⟨_,k,_⟩:=Fc (ρ:=ρ) (μ:=μ) c
  simp only [Ae,k]
 ·obtain ⟨cs,c,rfl⟩:=mS h
  simp only [Ae,fun us=>O7 (ρ:=ρ) (μ:=μ) (us:=us) c]
 ·exact (Hs h).1
theorem FU:∀{l r:List Aa} {us:List Value},O5 τ l=some r→(A9 (ρ.sub τ) μ l us↔A9 ρ μ r us)
 |[],r,us,h=>by
  simp only [O5,oI]at h
  subst h
  simp only [A9]
 |v::l,r,us,h=>by
  simp only [O5]at h
  split at h
  ·rename_i g j d c
   simp only [oI]at h
   subst h
   simp only [A9,Hr (ρ:=ρ) (μ:=μ) d,FU c]
  ·cases h
theorem EW {B C:Block} (h:B.sub τ=some C) {o:Option Obj} {δ:Nat×Nat}:CL (ρ.sub τ) μ B o δ↔CL ρ μ C o δ:=by
 cases B<;>simp only [Block.sub,oI,reduceCtorEq]at h
 case cells vs=>
  obtain ⟨us,A,rfl⟩:=mS h
  obtain ⟨_,_,_,k⟩:=Fc (ρ:=ρ) (μ:=μ) A
  simp only [CL]
  constructor
  ·rintro ⟨c,e,ho,hm,hc⟩
   refine ⟨c,e,ho,hm,fun i a ha=>?_⟩
   obtain ⟨p,q,hs⟩:=(k i).2 a ha
   obtain ⟨v,x,d,z⟩:=hc i p q
   obtain ⟨g,y⟩:=DU (ρ:=ρ) (μ:=μ) hs (u:=v)
   exact ⟨v,x,by rw [y];exact d,g.1 z⟩
  ·rintro ⟨c,e,ho,hm,hc⟩
   refine ⟨c,e,ho,hm,fun i p q=>?_⟩
   obtain ⟨a,ha,hs⟩:=(k i).1 p q
   obtain ⟨v,x,d,z⟩:=hc i a ha
   obtain ⟨g,y⟩:=DU (ρ:=ρ) (μ:=μ) hs (u:=v)
   exact ⟨v,x,by rw [←y];exact d,g.2 z⟩
 case typed t vs=>
  obtain ⟨us,A,rfl⟩:=mS h
  obtain ⟨J,_,_,k⟩:=Fc (ρ:=ρ) (μ:=μ) A
  simp only [CL]
  constructor
  ·rintro ⟨c,ho,⟨h0,hs0⟩,hm,hc⟩
   refine ⟨c,ho,⟨h0,by rw [hs0,J]⟩,hm,fun i a ha=>?_⟩
   obtain ⟨p,q,hs⟩:=(k i).2 a ha
   obtain ⟨v,x,d,z⟩:=hc i p q
   obtain ⟨g,y⟩:=DU (ρ:=ρ) (μ:=μ) hs (u:=v)
   exact ⟨v,x,by rw [y];exact d,g.1 z⟩
  ·rintro ⟨c,ho,⟨h0,hs0⟩,hm,hc⟩
   refine ⟨c,ho,⟨h0,by rw [hs0,J]⟩,hm,fun i p q=>?_⟩
   obtain ⟨a,ha,hs⟩:=(k i).1 p q
   obtain ⟨v,x,d,z⟩:=hc i a ha
   obtain ⟨g,y⟩:=DU (ρ:=ρ) (μ:=μ) hs (u:=v)
   exact ⟨v,x,by rw [←y];exact d,g.2 z⟩
 case map es c=>
  obtain ⟨N,H,rfl⟩:=mS h
  simp only [CL,O8 (ρ:=ρ) (μ:=μ) H]
 case bytes n e=>subst h;simp only [CL]
 case sbytes t e=>
  obtain ⟨t',M,rfl⟩:=mS h
  simp only [CL,ST.CZ (ρ:=ρ) M]
 case list i es=>
  obtain ⟨j,D,rfl⟩:=mS h
  have e:(ρ.sub τ).lst i=ρ.lst j:=getD_map (f:=ρ.lst) D
  simp only [CL,e]
 case smap i=>
  obtain ⟨j,D,rfl⟩:=mS h
  have e:(ρ.sub τ).map i=ρ.map j:=getD_map (f:=ρ.map) D
  simp only [CL,e]
theorem FV:∀{l r:List Block},I1 τ l=some r→l.length=r.length∧∀(i:Nat),(∀p,l[i]?=some p→∃a,r[i]?=some a∧p.sub τ=some a)∧(∀a,r[i]?=some a→∃p,l[i]?=some p∧p.sub τ=some a)
 |[],r,h=>by
  simp only [I1,oI]at h
  subst h
  exact ⟨rfl,fun i=>⟨fun p h=>by simp at h,fun p h=>by simp at h⟩⟩
 |v::l,r,h=>by
  simp only [I1]at h
  split at h
  ·rename_i k o c d
   simp only [oI]at h
   subst h
   obtain ⟨j,g⟩:=FV d
   refine ⟨by simp [j],fun i=>?_⟩
   cases i with
   |zero=>
    simp only [List.getElem?_cons_zero,oI]
    exact ⟨fun p e=>⟨k,rfl,e▸c⟩,fun a e=>⟨v,rfl,e▸c⟩⟩
   |succ i=>simpa using g i
  ·cases h
theorem Ib:∀{l r:List (Option Block)},I0 τ l=some r→l.length=r.length∧∀(i:Nat),(∀p,l[i]?=some (some p)→∃a,r[i]?=some (some a)∧p.sub τ=some a)∧(∀a,r[i]?=some (some a)→∃p,l[i]?=some (some p)∧p.sub τ=some a)
 |[],r,h=>by
  simp only [I0,oI]at h
  subst h
  exact ⟨rfl,fun i=>⟨fun p h=>by simp at h,fun p h=>by simp at h⟩⟩
 |none::l,r,h=>by
  simp only [I0]at h
  obtain ⟨k,c,rfl⟩:=mS h
  obtain ⟨g,d⟩:=Ib c
  refine ⟨by simp [g],fun i=>?_⟩
  cases i with
  |zero=>simp
  |succ i=>simpa using d i
 |some v::l,r,h=>by
  simp only [I0]at h
  split at h
  ·rename_i o k j c
   simp only [oI]at h
   subst h
   obtain ⟨g,d⟩:=Ib c
   refine ⟨by simp [g],fun i=>?_⟩
   cases i with
   |zero=>
    simp only [List.getElem?_cons_zero,oI]
    exact ⟨fun p e=>⟨o,rfl,e▸j⟩,fun a e=>⟨v,rfl,e▸j⟩⟩
   |succ i=>simpa using d i
  ·cases h
theorem AO.over {j:Env} {h d:Al} {w:World} (H:AO ρ μ h w) (J:d.next=h.next) (C:j.AY=ρ.AY) (hf:d.fx.AL j) (hb:∀b c,d.get b=some c→∃B,h.get b=some B∧∀o δ,CL ρ μ B o δ→CL j μ c o δ):AO j μ d w:=by
 have own:∀r,AU μ d r→AU μ h r:=fun r ⟨b,B,δ,z,v⟩=>by
  obtain ⟨c,k,_⟩:=hb b B z
  exact ⟨b,c,δ,k,v⟩
 refine ⟨fun b e=>H.fresh b (J▸e),fun b B e=>?_,fun b M B c r δ P z v y x=>?_,⟨fun g o e=>?_,fun g o e=>?_,hf⟩⟩
 ·obtain ⟨D,u,A⟩:=hb b B e
  obtain ⟨r,δ,y,x⟩:=H.blk b D u
  exact ⟨r,δ,y,A _ _ x⟩
 ·obtain ⟨O,u,_⟩:=hb b B z
  obtain ⟨N,A,_⟩:=hb M c v
  exact H.inj _ _ _ _ _ _ _ u A y x
 ·rw [C]at e
  exact ⟨(H.AY.AY g o e).1,fun q=>(H.AY.AY g o e).2 (own g q)⟩
 ·exact ⟨(H.AY.Bf g o e).1,fun q=>(H.AY.Bf g o e).2 (own g q)⟩
end
section
variable {ρ:Env} {τ:De} {μ:Aq} {w w':World} {pre pre':List Block} {post post':List (Option Block)}
theorem LW (g:I1 τ pre=some pre') (H:AO ρ μ (Bi pre' (empty 0)) w):AO (ρ.sub τ) μ (Bi pre (empty 0)) w:=by
 obtain ⟨d,c⟩:=FV g
 refine H.over (by rw [Cf,Cf,d]) rfl (by rw [(Cj pre (empty 0)).2.1];exact Ao.AL.none _) fun b B hB=>?_
 rw [C8]at hB
 obtain ⟨a,ha,hs⟩:=(c b).1 B hB
 exact ⟨a,by rw [C8];exact ha,fun o δ=>(EW hs).2⟩
theorem Jt (g:I1 τ pre=some pre') (H:AO (ρ.sub τ) μ (Bi pre (empty 0)) w):AO ρ μ (Bi pre' (empty 0)) w:=by
 obtain ⟨d,c⟩:=FV g
 refine H.over (by rw [Cf,Cf,d]) rfl (by rw [(Cj pre' (empty 0)).2.1];exact Ao.AL.none _) fun b B hB=>?_
 rw [C8]at hB
 obtain ⟨a,ha,hs⟩:=(c b).2 B hB
 exact ⟨a,by rw [C8];exact ha,fun o δ=>(EW hs).1⟩
theorem Ki {μ':Aq} (A:I1 τ pre=some pre') (H:I0 τ post=some post') (d:Aw (ρ.sub τ) μ (Bi pre (empty 0)) w μ' (CB post (empty 0)) w'):Aw ρ μ (Bi pre' (empty 0)) w μ' (CB post' (empty 0)) w':=by
 obtain ⟨N,y⟩:=FV A
 obtain ⟨D,x⟩:=Ib H
 have u:∀r,AU μ (Bi pre (empty 0)) r↔AU μ (Bi pre' (empty 0)) r:=fun r=>by
  constructor
  ·rintro ⟨b,B,δ,c,j⟩
   rw [C8]at c
   obtain ⟨a,ha,_⟩:=(y b).1 B c
   exact ⟨b,a,δ,by rw [C8];exact ha,j⟩
  ·rintro ⟨b,B,δ,c,j⟩
   rw [C8]at c
   obtain ⟨a,ha,_⟩:=(y b).2 B c
   exact ⟨b,a,δ,by rw [C8];exact ha,j⟩
 have g:∀{l:List (Option Block)} {b:Nat} {B:Block},(l[b]?).join=some B→l[b]?=some (some B):=fun {l b B} h=>by
  cases e:l[b]? with
  |none=>rw [e]at h;cases h
  |some o=>rw [e]at h;have h:o=some B:=h;rw [h]
 have v:∀r,AU μ' (CB post' (empty 0)) r→AU μ' (CB post (empty 0)) r:=fun r ⟨b,B,δ,c,j⟩=>by
  rw [DB]at c
  obtain ⟨a,ha,_⟩:=(x b).2 B (g c)
  exact ⟨b,a,δ,by rw [DB,ha];rfl,j⟩
 have M:AO ρ μ' (CB post' (empty 0)) w':=by
  refine d.rel.over (by rw [DJ,DJ,D]) rfl (by rw [(CI post' (empty 0)).2.1];exact Ao.AL.none _) fun b B hB=>?_
  rw [DB]at hB
  obtain ⟨a,ha,hs⟩:=(x b).2 B (g hB)
  exact ⟨a,by rw [DB,ha];rfl,fun o δ=>(EW hs).1⟩
 refine ⟨d.le,M,d.size,fun r J z=>?_,d.os,d.output,?_,fun b hb=>d.old b ?_,fun k o C=>?_,?_⟩
 ·obtain ⟨c,j⟩:=d.kept r J fun e=>z ((u r).1 e)
  exact ⟨c,fun e=>j (v r e)⟩
 ·have:=d.next
  rw [Cf,DJ]at this⊢
  show pre'.length≤post'.length
  omega
 ·rw [Cf]at hb⊢
  show b<pre.length
  have hb:b<pre'.length:=hb
  omega
 ·rcases d.icy k o C with q|q|q
  ·exact .inl q
  ·exact .inr (.inl ((u k).1 q))
  ·exact .inr (.inr q)
 ·rw [(CI post' (empty 0)).2.1,(Cj pre' (empty 0)).2.1]
theorem Hp {μ':Aq} (A:I1 τ pre=some pre') (H:I0 τ post=some post') (d:Aw ρ μ (Bi pre' (empty 0)) w μ' (CB post' (empty 0)) w'):Aw (ρ.sub τ) μ (Bi pre (empty 0)) w μ' (CB post (empty 0)) w':=by
 obtain ⟨N,y⟩:=FV A
 obtain ⟨D,x⟩:=Ib H
 have u:∀r,AU μ (Bi pre' (empty 0)) r↔AU μ (Bi pre (empty 0)) r:=fun r=>by
  constructor
  ·rintro ⟨b,B,δ,c,j⟩
   rw [C8]at c
   obtain ⟨a,ha,_⟩:=(y b).2 B c
   exact ⟨b,a,δ,by rw [C8];exact ha,j⟩
  ·rintro ⟨b,B,δ,c,j⟩
   rw [C8]at c
   obtain ⟨a,ha,_⟩:=(y b).1 B c
   exact ⟨b,a,δ,by rw [C8];exact ha,j⟩
 have g:∀{l:List (Option Block)} {b:Nat} {B:Block},(l[b]?).join=some B→l[b]?=some (some B):=fun {l b B} h=>by
  cases e:l[b]? with
  |none=>rw [e]at h;cases h
  |some o=>rw [e]at h;have h:o=some B:=h;rw [h]
 have v:∀r,AU μ' (CB post (empty 0)) r→AU μ' (CB post' (empty 0)) r:=fun r ⟨b,B,δ,c,j⟩=>by
  rw [DB]at c
  obtain ⟨a,ha,_⟩:=(x b).1 B (g c)
  exact ⟨b,a,δ,by rw [DB,ha];rfl,j⟩
 have M:AO (ρ.sub τ) μ' (CB post (empty 0)) w':=by
  refine d.rel.over (by rw [DJ,DJ,D]) rfl (by rw [(CI post (empty 0)).2.1];exact Ao.AL.none _) fun b B hB=>?_
  rw [DB]at hB
  obtain ⟨a,ha,hs⟩:=(x b).1 B (g hB)
  exact ⟨a,by rw [DB,ha];rfl,fun o δ=>(EW hs).2⟩
 refine ⟨d.le,M,d.size,fun r J z=>?_,d.os,d.output,?_,fun b hb=>d.old b ?_,fun k o C=>?_,?_⟩
 ·obtain ⟨c,j⟩:=d.kept r J fun e=>z ((u r).1 e)
  exact ⟨c,fun e=>j (v r e)⟩
 ·have:=d.next
  rw [Cf,DJ]at this⊢
  show pre.length≤post.length
  have this:pre'.length≤post'.length:=this
  omega
 ·rw [Cf]at hb⊢
  show b<pre'.length
  have hb:b<pre.length:=hb
  omega
 ·rcases d.icy k o C with q|q|q
  ·exact .inl q
  ·exact .inr (.inl ((u k).1 q))
  ·exact .inr (.inr q)
 ·rw [(CI post (empty 0)).2.1,(Cj pre (empty 0)).2.1]
theorem Holds.sub {P:Program} {g:FuncId} {x y:BC} (hs:x.sub τ=some y) (k:Holds P (ρ.sub τ) g x):Holds P ρ g y:=by
 unfold BC.sub at hs
 split at hs
 case h_2=>cases hs
 rename_i args pre res post q j z o
 simp only [oI]at hs
 subst hs
 refine ⟨k.1,fun μ w d H v=>(k.2 μ w d (LW j H) ((FU q).2 v)).mono fun e w' c=>?_⟩
 obtain ⟨μ',A,c⟩:=c
 refine ⟨μ',Ki j o A,?_⟩
 cases e
 case returned u=>exact (Hr z).1 (show Ae (ρ.sub τ) μ' x.res u from c)
 all_goals exact c.elim
theorem Holds.Rv {P:Program} {g:FuncId} {x y:BC} (hs:x.sub τ=some y) (k:Holds P ρ g y):Holds P (ρ.sub τ) g x:=by
 unfold BC.sub at hs
 split at hs
 case h_2=>cases hs
 rename_i args pre res post q j z o
 simp only [oI]at hs
 subst hs
 refine ⟨k.1,fun μ w d H v=>(k.2 μ w d (Jt j H) ((FU q).1 v)).mono fun e w' c=>?_⟩
 obtain ⟨μ',A,c⟩:=c
 refine ⟨μ',Hp j o A,?_⟩
 cases e
 case returned u=>exact (Hr z).2 (show Ae ρ μ' res u from c)
 all_goals exact c.elim
def LX (τ:De):List (Nat×Aa)→Option (List (Nat×Aa))
 |[]=>some []
 |v::r=>match v.2.R7 τ,LX τ r with
  |some a,some r=>some ((v.1,a)::r)
  |_,_=>none
def YE (τ:De) (p:List (FuncId×List Aa)):Option (List (FuncId×List Aa)):=
 match p with
 |[]=>some []
 |[p]=>(O5 τ p.2).map fun l=>[(p.1,l)]
 |_=>none
theorem Ic {l r:List (FuncId×List Aa)} (h:YE τ l=some r) {ds:List Deferred}:CJ (ρ.sub τ) μ l ds↔CJ ρ μ r ds:=by
 unfold YE at h
 split at h
 ·simp only [oI]at h
  subst h
  exact Iff.rfl
 ·obtain ⟨l,hl,rfl⟩:=mS h
  constructor
  ·rintro ⟨c,rest,e1,⟨cap,e2,e3⟩,e4⟩
   exact ⟨c,rest,e1,⟨cap,e2,(FU hl).1 e3⟩,e4⟩
  ·rintro ⟨c,rest,e1,⟨cap,e2,e3⟩,e4⟩
   exact ⟨c,rest,e1,⟨cap,e2,(FU hl).2 e3⟩,e4⟩
 ·cases h
def BF.sub (τ:De) (k:BF):Option BF:=
 match LX τ k.Xo,I1 τ k.pre,LX τ k.NP,I0 τ k.post,YE τ k.df with
 |some Xo,some pre,some NP,some post,some df=>some ⟨k.id,Xo,pre,NP,post,df,k.out⟩
 |_,_,_,_,_=>none
theorem O6:∀{l c:List (Nat×Aa)} {t t':Tr Aa},LX τ l=some c→(∀n,match t.get n with|some p=>∃a,t'.get n=some a∧p.R7 τ=some a|none=>t'.get n=none)→
  ∀n,match (Oz l t).get n with|some p=>∃a,(Oz c t').get n=some a∧p.R7 τ=some a|none=>(Oz c t').get n=none
 |[],c,t,t',h,ht,n=>by
  simp only [LX,oI]at h
  subst h
  exact ht n
 |v::r,c,t,t',h,ht,n=>by
  simp only [LX]at h
  split at h
  ·rename_i a d ha g
   simp only [oI]at h
   subst h
   show match (Oz r (t.set v.1 (some v.2))).get n with|some p=>∃b,(Oz d (t'.set v.1 (some a))).get n=some b∧p.R7 τ=some b|none=>(Oz d (t'.set v.1 (some a))).get n=none
   refine O6 g (fun m=>?_) n
   rw [Tr.Bq,Tr.Bq]
   by_cases e:m=v.1
   ·rw [if_pos e,if_pos e];exact ⟨a,rfl,ha⟩
   ·rw [if_neg e,if_neg e];exact ht m
  ·cases h
theorem Ia {l o:List (Nat×Aa)} (h:LX τ l=some o) {a:Act}:Be (ρ.sub τ) μ (Oz l .nil) a↔Be ρ μ (Oz o .nil) a:=by
 have q:=O6 (τ:=τ) (t:=.nil) (t':=.nil) h fun n=>rfl
 constructor
 ·intro k t
  have c:=q t
  have d:=k t
  cases e:(Oz l .nil).get t with
  |none=>rw [e]at c;simp only at c;rw [c];trivial
  |some p=>
   rw [e]at c d
   obtain ⟨b,g,j⟩:=c
   rw [g]
   exact (Hr j).1 d
 ·intro k t
  have c:=q t
  have d:=k t
  cases e:(Oz l .nil).get t with
  |none=>trivial
  |some p=>
   rw [e]at c
   obtain ⟨b,g,j⟩:=c
   rw [g]at d
   exact (Hr j).2 d
theorem Ef.sub {P:Program} {nt:Nat} {x:Code} {k q:BF} (hs:k.sub τ=some q) (d:Ef P (ρ.sub τ) nt x k):Ef P ρ nt x q:=by
 unfold BF.sub at hs
 split at hs
 case h_2=>cases hs
 rename_i Xo pre NP post df y c z o j
 simp only [oI]at hs
 subst hs
 obtain ⟨n,d⟩:=d
 exact ⟨n,fun μ a w Q F A=>d μ a w Q ⟨(Ia y).2 F.tmps,F.size,LW c F.heap,(Ic j).2 F.defs⟩ fun μ' v w' g u=>A μ' v w' ⟨(Ia z).1 g.tmps,g.size,(Ki c o u).rel,(Ic j).1 g.defs⟩ (Ki c o u)⟩
theorem Ef.Rv {P:Program} {nt:Nat} {x:Code} {k q:BF} (hs:k.sub τ=some q) (d:Ef P ρ nt x q):Ef P (ρ.sub τ) nt x k:=by
 unfold BF.sub at hs
 split at hs
 case h_2=>cases hs
 rename_i Xo pre NP post df y c z o j
 simp only [oI]at hs
 subst hs
 obtain ⟨n,d⟩:=d
 exact ⟨n,fun μ a w Q F A=>d μ a w Q ⟨(Ia y).1 F.tmps,F.size,Jt c F.heap,(Ic j).1 F.defs⟩ fun μ' v w' g u=>A μ' v w' ⟨(Ia z).2 g.tmps,g.size,(Hp c o u).rel,(Ic j).2 g.defs⟩ (Hp c o u)⟩
end
noncomputable def JJ (n:Nat):Nat→List Nat:=Nat.rec (motive:=fun _=>Nat→List Nat) (fun _=>[]) (fun _ ih i=>i::ih (i+1)) n
theorem JI:∀(n k i:Nat),(JJ n k)[i]?=if i<n then some (k+i)else none
 |0,k,i=>by rw [if_neg (by omega)];show ([]:List Nat)[i]?=none;simp
 |n+1,k,i=>by
  show (k::JJ n (k+1))[i]?=_
  cases i with
  |zero=>simp
  |succ i=>
   rw [List.getElem?_cons_succ,JI n (k+1) i]
   by_cases h:i<n
   ·rw [if_pos h,if_pos (by omega)];congr 1;omega
   ·rw [if_neg h,if_neg (by omega)]
noncomputable def Aa7 (Γ:Ao) (σ:List Nat) (p a:Aa):Bool:=
 match p,a with
 |.agg ps,.agg as=>GA Γ σ ps as
 |.tuple ps,.tuple as=>KB Γ σ ps as
 |p,a=>HM Γ σ p a
noncomputable def K9 (Γ:Ao) (h:Al) (σ:List Nat) (l:List (Option Block)):Nat→Bool:=
 List.rec (motive:=fun _=>Nat→Bool) (fun _=>true) (fun B _ ih i=>(match B with|some B=>eqB Γ h σ i B|none=>true)&&ih (i+1)) l
noncomputable def WH (k:Nat) (l:List Nat):Bool:=List.rec (motive:=fun _=>Bool) true (fun n _ ih=>Nat.ble k n&&ih) l
noncomputable def Zv (Γ:Ao) (x:BC) (c:List Nat) (r:Option (NK×Al)):Bool:=
 match r with
 |some (.ret v,h)=>Nat.beq (Sf x.post) (GJ x.pre+Iw c)&&(IQ c&&(WH (GJ x.pre) c&&(Aa7 Γ (JJ (GJ x.pre) 0++c) x.res v&&K9 Γ h (JJ (GJ x.pre) 0++c) x.post 0)))
 |_=>false
section
variable {ρ:Env} {μ μ':Aq} {σ:List Nat}
theorem XV {Γ:Ao} (g:Γ.AL ρ) (R:Ren μ' μ σ) {p a:Aa} (h:Aa7 Γ σ p a=true) {u:Value} (c:Ae ρ μ a u):Ae ρ μ' p u:=by
 unfold Aa7 at h
 split at h
 ·obtain ⟨x,e,d⟩:=c.agg
  subst e
  simp only [Ae]
  exact ⟨x,rfl,K8 g R h d⟩
 ·obtain ⟨x,e,d⟩:=c.tuple
  subst e
  simp only [Ae]
  exact ⟨x,rfl,GB g R h d⟩
 ·exact (Ex g R h c).1
theorem SH {Γ:Ao} {h:Al} (W:Option Block) (r:List (Option Block)) (k:Nat):K9 Γ h σ (W::r) k=((match W with|some B=>eqB Γ h σ k B|none=>true)&&K9 Γ h σ r (k+1)):=rfl
theorem Ng {Γ:Ao} {h:Al}:∀{l:List (Option Block)} {k:Nat},K9 Γ h σ l k=true→∀i B,l[i]?=some (some B)→∃b A,Cn σ (k+i)=some b∧h.get b=some A∧Nj Γ σ B A=true
 |[],_,_,i,vs,hv=>by simp at hv
 |W::r,k,hb,i,B,hv=>by
  rw [SH,aT]at hb
  cases i with
  |zero=>
   simp only [List.getElem?_cons_zero,oI]at hv
   subst hv
   have c:=hb.1
   simp only at c
   unfold eqB at c
   split at c
   ·rename_i b j
    split at c
    ·rename_i A o
     exact ⟨b,A,j,o,c⟩
    ·cases c
   ·cases c
  |succ i=>
   obtain ⟨b,A,c,d,g⟩:=Ng hb.2 i B (by simpa using hv)
   exact ⟨b,A,by rw [←c];congr 1;omega,d,g⟩
theorem K0 {k:Nat}:∀{l:List Nat},WH k l=true→∀n∈l,k≤n
 |[],_,n,hn=>by cases hn
 |m::r,h,n,hn=>by
  have h:(Nat.ble k m&&WH k r)=true:=h
  rw [aT]at h
  rcases List.mem_cons.1 hn with rfl|hn
  ·exact AX.1 h.1
  ·exact K0 h.2 n hn
theorem shown {Γ:Ao} (hΓ:Γ.AL ρ) {pre:List Block} {post:List (Option Block)} {M:List Nat} {d:Nat} {h:Al} {w w':World} {C:Aq} (au:post.length=pre.length+M.length) (ai:M.Nodup) (ac:∀n∈M,pre.length≤n) (N:K9 Γ h (JJ pre.length 0++M) post 0=true)
  (H:AO ρ μ (Bi pre (empty 0)) w) (g1:Aw ρ μ (Bi pre (empty d Γ)) w C h w'):∃μ',Aw ρ μ (Bi pre (empty 0)) w μ' (CB post (empty 0)) w'∧Ren μ' C (JJ pre.length 0++M):=by
 generalize hσ:JJ pre.length 0++M=σ at N⊢
 have ah:(JJ pre.length 0).length=pre.length:=by
  apply Nat.le_antisymm
  ·rcases Nat.lt_or_ge pre.length (JJ pre.length 0).length with hlt|hge
   ·have:=List.getElem?_eq_getElem hlt
    rw [JI,if_neg (by omega)]at this
    cases this
   ·exact hge
  ·rcases Nat.lt_or_ge (JJ pre.length 0).length pre.length with hlt|hge
   ·have:=List.getElem?_eq_none (Nat.le_refl (JJ pre.length 0).length)
    rw [JI,if_pos hlt]at this
    cases this
   ·exact hge
 have g:∀i b,Cn σ i=some b↔(i<pre.length∧b=i)∨(pre.length≤i∧M[i-pre.length]?=some b):=fun i b=>by
  rw [←hσ,F6]
  by_cases Z:i<pre.length
  ·rw [List.getElem?_append_left (by omega),JI,if_pos Z]
   simp only [Nat.zero_add,oI]
   constructor
   ·intro e;exact .inl ⟨Z,e.symm⟩
   ·rintro (⟨_,e⟩|⟨e,_⟩)
    ·exact e.symm
    ·omega
  ·rw [List.getElem?_append_right (by omega),ah]
   constructor
   ·intro e;exact .inr ⟨by omega,e⟩
   ·rintro (⟨e,_⟩|⟨_,e⟩)
    ·omega
    ·exact e
 have ae:∀i j b,Cn σ i=some b→Cn σ j=some b→i=j:=fun i j b Z hj=>by
  rcases (g i b).1 Z with ⟨h1,h2⟩|⟨h1,h2⟩<;>rcases (g j b).1 hj with ⟨h3,h4⟩|⟨h3,h4⟩
  ·omega
  ·have:=ac b (List.mem_of_getElem? h4);omega
  ·have:=ac b (List.mem_of_getElem? h2);omega
  ·obtain ⟨l1,e1⟩:=List.getElem?_eq_some_iff.1 h2
   obtain ⟨l2,e2⟩:=List.getElem?_eq_some_iff.1 h4
   have:=(List.getElem_inj ai).1 (e1.trans e2.symm)
   omega
 have P:∀r,AU μ (Bi pre (empty d Γ)) r↔AU μ (Bi pre (empty 0)) r:=fun r=>by
  unfold AU
  simp only [C8]
 let μ':Aq:=⟨fun i=>(Cn σ i).bind C.spot,C.Bf⟩
 have R:Ren μ' C σ:=⟨fun i b e=>by show (Cn σ i).bind C.spot=_;rw [e];rfl,rfl⟩
 have O:∀{l:List (Option Block)} {b:Nat} {B:Block},(l[b]?).join=some B→l[b]?=some (some B):=fun {l b B} h=>by
  cases e:l[b]? with
  |none=>rw [e]at h;cases h
  |some o=>rw [e]at h;have h:o=some B:=h;rw [h]
 have u:∀i B,(CB post (empty 0)).get i=some B→∃b A,Cn σ i=some b∧h.get b=some A∧Nj Γ σ B A=true:=fun i B hB=>by
  rw [DB]at hB
  obtain ⟨b,A,z,J,k3⟩:=Ng N i B (O hB)
  exact ⟨b,A,by rw [←z,Nat.zero_add],J,k3⟩
 have Q:∀b,b<pre.length→μ' b=μ b:=fun b hb=>by
  have e:Cn σ b=some b:=(g b b).2 (.inl ⟨hb,rfl⟩)
  rw [R.spot b b e,g1.old b (by rw [Cf];exact hb)]
 have D:∀r,AU μ' (CB post (empty 0)) r→AU C h r:=fun r ⟨i,B,δ,x,v⟩=>by
  obtain ⟨b,A,z,J,_⟩:=u i B x
  rw [R.spot i b z]at v
  exact ⟨b,A,δ,J,v⟩
 refine ⟨μ',⟨⟨fun b y hy=>?_,g1.le.Bf⟩,⟨fun b hb=>?_,fun b B hB=>?_,fun b b' B B' r δ δ' hb al hm ab=>?_,⟨fun k o U=>?_,fun k o U=>?_,?_⟩⟩,g1.size,fun r hr ho=>?_,g1.os,g1.output,?_,fun b hb=>?_,fun k o U=>?_,?_⟩,R⟩
 ·have hb:b<pre.length:=by
   rcases Nat.lt_or_ge b pre.length with hlt|hge
   ·exact hlt
   ·rw [H.fresh b (by rw [Cf];exact hge)]at hy;cases hy
  rw [Q b hb];exact hy
 ·rw [DJ]at hb
  show (Cn σ b).bind C.spot=none
  cases e:Cn σ b with
  |none=>rfl
  |some c=>
   rcases (g b c).1 e with ⟨q,_⟩|⟨x,v⟩
   ·omega
   ·have:=(List.getElem?_eq_some_iff.1 v).1;omega
 ·obtain ⟨c,A,z,J,k3⟩:=u b B hB
  obtain ⟨r,δ,m1,m2⟩:=g1.rel.blk c A J
  exact ⟨r,δ,by rw [R.spot b c z];exact m1,Pm hΓ R k3 m2⟩
 ·obtain ⟨c,A,z,J,_⟩:=u b B hb
  obtain ⟨c',A',aa,aj,_⟩:=u b' B' al
  rw [R.spot b c z]at hm
  rw [R.spot b' c' aa]at ab
  have:=g1.rel.inj _ _ _ _ _ _ _ J aj hm ab
  subst this
  exact ae b b' c z aa
 ·obtain ⟨x,v⟩:=g1.rel.AY.AY k o U
  exact ⟨x,fun q=>v (D k q)⟩
 ·obtain ⟨x,v⟩:=g1.rel.AY.Bf k o U
  exact ⟨x,fun q=>v (D k q)⟩
 ·rw [(CI post (empty 0)).2.1];exact Ao.AL.none ρ
 ·obtain ⟨x,v⟩:=g1.kept r hr fun q=>ho ((P r).1 q)
  exact ⟨x,fun q=>v (D r q)⟩
 ·rw [Cf,DJ];omega
 ·rw [Cf]at hb
  exact Q b hb
 ·rcases g1.icy k o U with q|q|q
  ·exact .inl q
  ·exact .inr (.inl ((P k).1 q))
  ·exact .inr (.inr q)
 ·rw [(CI post (empty 0)).2.1,(Cj pre (empty 0)).2.1]
theorem AO.withFacts {Γ:Ao} (c:Γ.AL ρ) {pre:List Block} {d:Nat} {w:World} (H:AO ρ μ (Bi pre (empty 0)) w):AO ρ μ (Bi pre (empty d Γ)) w:=by
 refine H.over (by rw [Cf,Cf]) rfl (by rw [(Cj pre (empty d Γ)).2.1];exact c) fun b B hB=>?_
 rw [C8]at hB
 exact ⟨B,by rw [C8];exact hB,fun o δ h=>h⟩
theorem Q5 {P:Program} {Γ:Ao} (A:Γ.AL ρ) {g:FuncId} {call:By} (hc:CD P ρ g call) {x:BC} {d:Nat} {O:List Nat} (c:Zv Γ x O (call x.args (Bi x.pre (empty d Γ)))=true):Holds P ρ g x:=by
 unfold Zv at c
 split at c
 case h_2=>cases c
 rename_i v h j
 rw [aT,aT,aT,aT,An,Gs,EX,Dq]at c
 obtain ⟨z,D,C,y,k⟩:=c
 refine ⟨(hc x.args _ _ _ j).1,fun μ w q H M=>?_⟩
 refine ((hc x.args _ _ _ j).2 μ w q (H.withFacts A) M).mono fun e w' o=>?_
 obtain ⟨N,g1,o⟩:=o
 obtain ⟨μ',J,R⟩:=shown A z (Fh D) (K0 C) k H g1
 refine ⟨μ',J,?_⟩
 cases e
 case returned u=>exact XV A R y (show Ae ρ N v u from o)
 all_goals exact o.elim
def C0 (P:Program) (ρ:Env) (g:FuncId) (k:BF):Prop:=∀fn c,P.funcs[g]?=some fn→fn.body=some c→∀y∈Dr 0 c,y.1=k.id→Ef P ρ fn.ntmps y.2 k
theorem Uf {P:Program} {g:FuncId} {l:List BF} (h:∀k∈l,C0 P ρ g k):∀fn c,P.funcs[g]?=some fn→fn.body=some c→DE P ρ fn.ntmps l 0 c:=
 fun fn c hf hc y d k j e=>h k j fn c hf hc y d e.symm
noncomputable def WK (c:IC):Nat→List (Nat×IC):=
 IC.rec (motive:=fun _=>Nat→List (Nat×IC)) (fun _=>[]) (fun _ _ _=>[]) (fun _ _ a b k=>a k++b k) (fun _ _ _ a b k=>a k++b k) (fun id _ b _=>b id) (fun b ih k=>(k,b)::ih k) (fun _ _=>[]) (fun _=>[]) c
theorem Uq {P:Program} {pl:List C3} {nt:Nat}:∀{c:Code} {q:IC} {k:Nat},Bd P pl nt c=some q→∀y∈Dr k c,∃z,Bd P pl nt y.2=some z∧(y.1,z)∈WK q k:=by
 intro c
 induction c with
 |seq a b iha ihb=>
  intro q k h y d
  simp only [Bd]at h
  split at h
  ·rename_i u C o A
   simp only [oI]at h
   subst h
   rcases List.mem_append.1 d with d|d
   ·obtain ⟨x,g,j⟩:=iha o y d
    exact ⟨x,g,List.mem_append_left _ j⟩
   ·obtain ⟨x,g,j⟩:=ihb A y d
    exact ⟨x,g,List.mem_append_right _ j⟩
  ·cases h
 |cond v a b iha ihb=>
  intro q k h y d
  simp only [Bd]at h
  split at h
  ·rename_i u C o A
   simp only [oI]at h
   subst h
   rcases List.mem_append.1 d with d|d
   ·obtain ⟨x,g,j⟩:=iha o y d
    exact ⟨x,g,List.mem_append_left _ j⟩
   ·obtain ⟨x,g,j⟩:=ihb A y d
    exact ⟨x,g,List.mem_append_right _ j⟩
  ·cases h
 |block id b ih=>
  intro q k h y d
  simp only [Bd]at h
  obtain ⟨u,o,e⟩:=mS h
  subst e
  exact ih o y d
 |loop b ih=>
  intro q k h y d
  simp only [Bd]at h
  obtain ⟨u,o,e⟩:=mS h
  subst e
  rcases List.mem_cons.1 d with rfl|d
  ·exact ⟨u,o,List.mem_cons_self⟩
  ·obtain ⟨x,g,j⟩:=ih o y d
   exact ⟨x,g,List.mem_cons_of_mem _ j⟩
 |_=>intro q k h y d;simp [Dr]at d
noncomputable def Wz (id:Nat) (l:List (Nat×IC)):List IC:=List.rec (motive:=fun _=>List IC) [] (fun x _ ih=>bif Nat.beq x.1 id then x.2::ih else ih) l
theorem Kq {id:Nat} {x:IC}:∀{l:List (Nat×IC)},(id,x)∈l→x∈Wz id l
 |[],h=>by cases h
 |y::r,h=>by
  show x∈(bif Nat.beq y.1 id then y.2::Wz id r else Wz id r)
  rw [AP]
  rcases List.mem_cons.1 h with rfl|h
  ·rw [if_pos rfl];exact List.mem_cons_self
  ·split
   ·exact List.mem_cons_of_mem _ (Kq h)
   ·exact Kq h
def U9 (k:BF) (e:Bm):Bool:=
 match e with
 |.exit i=>!k.out&&Nat.beq i k.id
 |.ret=>k.out
 |_=>false
theorem XT {k:BF} {e:Bm} (h:U9 k e=true):e=k.Na:=by
 unfold U9 at h
 unfold BF.Na
 split at h
 ·rw [aT,An]at h
  obtain ⟨c,rfl⟩:=h
  cases hk:k.out<;>rw [hk]at c
  ·rfl
  ·cases c
 ·rw [h];rfl
 ·cases h
noncomputable def TJ (Γ:Ao) (k:BF) (c:List Nat) (r:Option (Bm×Fr)):Bool:=
 match r with
 |some (e,f)=>U9 k e&&(AcO Γ (JJ (GJ k.pre) 0++c) k.df f.df&&(Nat.beq (Sf k.post) (GJ k.pre+Iw c)&&(IQ c&&(WH (GJ k.pre) c&&(WN Γ (JJ (GJ k.pre) 0++c) f.tm k.NP&&K9 Γ f.h (JJ (GJ k.pre) 0++c) k.post 0)))))
 |_=>false
noncomputable def Qu (Γ:Ao) (call:C1) (fuel d:Nat) (F:EF) (k:BF):Option (Bm×Fr):=
 match Wz k.id (WK F.body 0)with
 |[b]=>iter (fun f=>I7 Γ k.id f Γ.loops) (fun f=>FE Γ call fuel b k.id f) fuel ⟨Oz k.Xo .nil,Bi k.pre (empty d Γ),k.df⟩
 |_=>none
theorem NZ {P:Program} {pl:List C3} {Γ:Ao} (A:Γ.AL ρ) {call:C1} (hc:BM P ρ call) (aa:P.follows .mixedOrders=true) {DR:FuncId→Option EF} (ht:Py P pl DR) {g:FuncId} {F:EF} (hF:DR g=some F) (hl:∀k∈Γ.loops,C0 P ρ g k)
  {fuel d:Nat} {k:BF} {nw:List Nat} (j:TJ Γ k nw (Qu Γ call fuel d F k)=true):C0 P ρ g k:=by
 intro fn c hf M y hy u
 obtain ⟨aA,J,U,_⟩:=ht g F hF
 rw [hf]at J
 simp only [oI]at J
 subst J
 obtain ⟨c',H,ah,_⟩:=Ed U
 rw [M]at H
 simp only [oI]at H
 subst H
 obtain ⟨az,hx,o⟩:=Uq ah y hy
 rw [u]at o
 have o:=Kq o
 unfold Qu at j
 split at j
 case h_2=>cases j
 rename_i b hb
 rw [hb,List.mem_singleton]at o
 subst o
 unfold TJ at j
 split at j
 case h_2=>cases j
 rename_i i f ag
 rw [aT,aT,aT,aT,aT,aT,An,Gs,EX,Dq]at j
 obtain ⟨ai,ak,ac,al,am,af,N⟩:=j
 have Z:DE P ρ fn.ntmps Γ.loops k.id y.2:=fun z hz k' C e=>by
  refine hl k' C fn c hf M z ?_ e.symm
  have sub:∀(c:Code) (cur:Nat),y∈Dr cur c→z∈Dr cur c:=by
   intro c
   induction c with
   |seq a b iha ihb=>intro cur h;rcases List.mem_append.1 h with h|h;exact List.mem_append_left _ (iha _ h);exact List.mem_append_right _ (ihb _ h)
   |cond v a b iha ihb=>intro cur h;rcases List.mem_append.1 h with h|h;exact List.mem_append_left _ (iha _ h);exact List.mem_append_right _ (ihb _ h)
   |block id b ih=>intro cur h;exact ih _ h
   |loop b ih=>
    intro cur h
    rcases List.mem_cons.1 h with e|h
    ·subst e
     refine List.mem_cons_of_mem _ ?_
     have u:cur=k.id:=u
     rw [u]
     exact hz
    ·exact List.mem_cons_of_mem _ (ih _ h)
   |_=>intro cur h;simp [Dr]at h
  exact sub c 0 hy
 obtain ⟨m,hm⟩:=Ff (nt:=fn.ntmps) (x:=y.2) A (fun k' C e=>hl k' C fn c hf M y hy (by rw [u,e])) (fun aj F L=>HK A hc aa y.2 Z hx aj F L) fuel ag
 refine ⟨m,fun μ a w Q D hQ=>hm ⟨D.tmps,D.size,D.heap.withFacts A,D.defs⟩ ?_⟩
 intro μ1 a' w' e F1 g1 O
 rw [XT ai]at O
 have O:=BF.AcN O
 subst O
 obtain ⟨μ',g',R⟩:=shown A ac (Fh al) (K0 am) N D.heap g1
 refine hQ μ' a' w' ⟨fun t=>?_,F1.size,g'.rel,?_⟩ g'
 ·show Ae ρ μ' (E9 ((Oz k.NP .nil).get t)) _
  cases hg:(Oz k.NP .nil).get t with
  |none=>trivial
  |some v=>
   rcases P3 _ _ _ _ hg with q|q
   ·exact KF A R (K7 af t v q) (F1.tmps t)
   ·cases q
 ·exact SL A R ak F1.defs
theorem C0.sub {P:Program} {τ:De} {g:FuncId} {k d:BF} (hs:k.sub τ=some d) (o:C0 P (ρ.sub τ) g k):C0 P ρ g d:=fun fn c hf hc y q e=>by
 have j:d.id=k.id:=by
  unfold BF.sub at hs
  split at hs
  ·simp only [oI]at hs;subst hs;rfl
  ·cases hs
 exact Ef.sub hs (o fn c hf hc y q (by rw [e,j]))
theorem C0.Rv {P:Program} {τ:De} {g:FuncId} {k d:BF} (hs:k.sub τ=some d) (o:C0 P ρ g d):C0 P (ρ.sub τ) g k:=fun fn c hf hc y q e=>by
 have j:d.id=k.id:=by
  unfold BF.sub at hs
  split at hs
  ·simp only [oI]at hs;subst hs;rfl
  ·cases hs
 exact Ef.Rv hs (o fn c hf hc y q (by rw [e,j]))
end
end Go.AM
end
section
namespace Go.AM
structure C5 where
 n:Nat:=0
 s:Nat:=0
 l:Nat:=0
 m:Nat:=0
def C5.add (a b:C5):C5:=⟨a.n+b.n,a.s+b.s,a.l+b.l,a.m+b.m⟩
def C5.eq (a b:C5):Bool:=Nat.beq a.n b.n&&(Nat.beq a.s b.s&&(Nat.beq a.l b.l&&Nat.beq a.m b.m))
structure Ah where
 n:List Int:=[]
 s:List (List Nat):=[]
 l:List (List (List PV)):=[]
 m:List (List (List Nat×List PV)):=[]
def Ah.app (a b:Ah):Ah:=⟨a.n++b.n,a.s++b.s,a.l++b.l,a.m++b.m⟩
def Ah.cnt (v:Ah):C5:=⟨v.n.length,v.s.length,v.l.length,v.m.length⟩
def Ah.env (T:Nat→Option Obj) (v:Ah):Env:=Env.of T v.n v.s v.l v.m
def Ah.e (v:Ah):Env:=v.env fun _=>none
def MW {α:Type} (d:α):Nat→Nat→List α→List α
 |0,_,_=>[]
 |k+1,i,l=>l.getD i d::MW d k (i+1) l
def Ah.fit (c:C5) (v:Ah):Ah:=⟨MW 0 c.n 0 v.n,MW [] c.s 0 v.s,MW [] c.l 0 v.l,MW [] c.m 0 v.m⟩
def De.vals (τ:De) (ρ:Env):Ah:=⟨τ.n.map (·.den ρ),τ.s.map (B4 ρ),τ.l.map ρ.lst,τ.m.map ρ.map⟩
def De.cnt (τ:De):C5:=⟨τ.n.length,τ.s.length,τ.l.length,τ.m.length⟩
def De.app (a b:De):De:=⟨a.n++b.n,a.s++b.s,a.l++b.l,a.m++b.m⟩
def MT {α:Type} (f:Nat→α):Nat→Nat→List α
 |0,_=>[]
 |k+1,i=>f i::MT f k (i+1)
def LP (c d:C5):De:=⟨MT .var d.n c.n,MT .svar d.s c.s,MT id d.l c.l,MT id d.m c.m⟩
inductive CK where
 |int (k:IntKind)
 |bool
 |str
 |list (es:Nat)
 |nilp
def CK.cnt:CK→C5
 |.int _=>{n:=1}
 |.bool=>{n:=1}
 |.str=>{s:=1}
 |.list _=>{n:=1,l:=1}
 |.nilp=>{}
def b01 (b:Bool):Int:=bif b then 1 else 0
def CK.read:CK→PV→Option Ah
 |.int k,.int k' n=>bif Un k k' then some {n:=[n]}else none
 |.bool,.bool b=>some {n:=[b01 b]}
 |.str,.str s=>some {s:=[s]}
 |.list es,.list es' l=>bif Nat.beq es es' then some {n:=[(l.length:Int)],l:=[l]}else none
 |.nilp,.nilp=>some {}
 |_,_=>none
def CK.val (c:C5):CK→Aa
 |.int k=>.int k (.var c.n)
 |.bool=>.bool (.cmp .neq (.var c.n) (.lit 0))
 |.str=>.svar c.s
 |.list es=>.lst false c.l es (.var c.n)
 |.nilp=>.nilPtr
def HR:List CK→C5
 |[]=>{}
 |k::r=>k.cnt.add (HR r)
def Da:List CK→List PV→Option Ah
 |[],[]=>some {}
 |k::sh,p::ps=>match k.read p with
  |some a=>(match Da sh ps with|some b=>some (a.app b) |none=>none)
  |none=>none
 |_,_=>none
def Ny:List CK→C5→List Aa
 |[],_=>[]
 |k::r,c=>k.val c::Ny r (c.add k.cnt)
def ME:List CK→C5→List (Nat×ST)
 |[],_=>[]
 |k::r,c=>match k with
  |.list _=>(c.l,.var c.n)::ME r (c.add k.cnt)
  |_=>ME r (c.add k.cnt)
def GS (ρ:Env):CK→Aa→Option PV
 |.int k,.int k' t=>bif Un k k' then some (.int k (t.den ρ))else none
 |.bool,.bool b=>some (.bool (b.den ρ))
 |.str,.str s=>some (.str s)
 |.str,.svar i=>some (.str (ρ.str i))
 |.list es,.nilSlice=>some (.list es [])
 |.list es,.lst _ i es' _=>bif Nat.beq es es' then some (.list es (ρ.lst i))else none
 |.nilp,.nilPtr=>some .nilp
 |_,_=>none
def CC (ρ:Env):List CK→List Aa→Option (List PV)
 |[],[]=>some []
 |k::sh,a::as=>match GS ρ k a with
  |some p=>(match CC ρ sh as with|some ps=>some (p::ps) |none=>none)
  |none=>none
 |_,_=>none
def GQ (ρ:Env) (c:List CK):List (List Aa)→Option (List (List PV))
 |[]=>some []
 |a::as=>match CC ρ c a with
  |some p=>(match GQ ρ c as with|some ps=>some (p::ps) |none=>none)
  |none=>none
def D6 (ρ:Env) (c:List CK):AQ→Option (List (List PV))
 |.els es=>GQ ρ c es
 |.all i=>some (ρ.lst i)
 |.take i n=>if 0≤n.den ρ∧n.den ρ≤((ρ.lst i).length:Int)then some ((ρ.lst i).take (n.den ρ).toNat)else none
 |.drop i n=>if 0≤n.den ρ∧n.den ρ≤((ρ.lst i).length:Int)then some ((ρ.lst i).drop (n.den ρ).toNat)else none
def CH (ρ:Env) (c:List CK):List AQ→Option (List (List PV))
 |[]=>some []
 |p::ps=>match D6 ρ c p with
  |some a=>(match CH ρ c ps with|some b=>some (a++b) |none=>none)
  |none=>none
def CP (ρ:Env) (c:List CK):List (Aa×List Aa)→Option (List (List Nat×List PV))
 |[]=>some []
 |x::r=>match CC ρ c x.2 with
  |some p=>(match CP ρ c r with|some ps=>some ((B4 ρ x.1,p)::ps) |none=>none)
  |none=>none
def LV (op:BinOp) (x y:Int):Prop:=
 match op with
 |.eql=>x=y
 |.neq=>x≠y
 |.lss=>x<y
 |.leq=>x≤y
 |.gtr=>x>y
 |_=>x≥y
instance AfT (op:BinOp) (x y:Int):Decidable (LV op x y):=
 match op with
 |.eql=>inferInstanceAs (Decidable (x=y))
 |.neq=>inferInstanceAs (Decidable (x≠y))
 |.lss=>inferInstanceAs (Decidable (x<y))
 |.leq=>inferInstanceAs (Decidable (x≤y))
 |.gtr=>inferInstanceAs (Decidable (x>y))
 |.geq|.add|.sub|.mul|.quo|.rem|.and|.or|.xor|.shl|.shr|.andNot=>inferInstanceAs (Decidable (x≥y))
inductive Tree where
 |fail
 |leaf (alt:Nat) (nw:List Nat) (τ:De)
 |test (op:BinOp) (a b:ST) (t e:Tree)
 |Ay (i:Nat) (n:Int) (t e:Tree)
 |sets (i:Nat) (s:List Nat) (t e:Tree)
 |elem (l:Nat) (j:ST) (sh:List CK) (k:Tree)
 |Ad (l:Nat) (t:ST) (k:Tree)
 |BA (s lo hi:Nat) (k:Tree)
 |Fe (x y:Aa) (t e:Tree)
 |cat (x y:Aa) (k:Tree)
 |Az (ps:List AQ) (sh:List CK) (k:Tree)
 |look (m:Nat) (key:Aa) (sh:List CK) (t e:Tree)
 |up (m:Nat) (key:Aa) (cs:List Aa) (sh:List CK) (k:Tree)
 |LA (es:List (Aa×List Aa)) (sh:List CK) (k:Tree)
 |bump (t:ST) (n:Nat) (k:Tree)
 |BI (z:Nat×Nat×Nat×Nat×Nat) (k:Tree)
 |call (c alt:Nat) (τ:De) (o:C5) (k e:Tree)
abbrev Out:=Nat×Ah
abbrev Vf:=Nat→Ah→Option Out
def Nn (l:List (List PV)) (j:Int) (c:List CK) (k:Ah→Option Out):Option Out:=
 if 0≤j then (match l[j.toNat]? with|some ps=>(match Da c ps with|some w=>k (w.fit (HR c)) |none=>none) |none=>none)else none
def IU (m:List (List Nat×List PV)) (s:List Nat) (c:List CK) (k:Ah→Option Out) (e:Option Out):Option Out:=
 match BO m s with
 |some ps=>(match Da c ps with|some w=>k (w.fit (HR c)) |none=>none)
 |none=>e
def Lq (r:Option Out) (c:Nat) (o:C5) (k:Ah→Option Out) (e:Option Out):Option Out:=
 match r with
 |some w=>if w.1=c then k (w.2.fit o)else e
 |none=>none
def Hw {α:Type} (r:Option α) (k:α→Option Out):Option Out:=
 match r with
 |some a=>k a
 |none=>none
def Tree.eval (M:Vf):Tree→Ah→Option Out
 |.fail,_=>none
 |.leaf alt _ τ,v=>some (alt,τ.vals v.e)
 |.test op a b t e,v=>if LV op (a.den v.e) (b.den v.e)then t.eval M v else e.eval M v
 |.Ay i n t e,v=>if v.n.getD i 0=n then t.eval M v else e.eval M v
 |.sets i s t e,v=>if v.s.getD i []=s then t.eval M v else e.eval M v
 |.elem l j sh k,v=>Nn (v.l.getD l []) (j.den v.e) sh fun w=>k.eval M (v.app w)
 |.Ad l t k,v=>if t.den v.e=((v.l.getD l []).length:Int)then k.eval M v else none
 |.BA s lo hi k,v=>if lo≤(v.s.getD s []).length∧(v.s.getD s []).length≤hi then k.eval M (v.app {n:=[((v.s.getD s []).length:Int)]})else none
 |.Fe x y t e,v=>if B4 v.e x=B4 v.e y then t.eval M v else e.eval M v
 |.cat x y k,v=>if (B4 v.e x).length+(B4 v.e y).length≤1048576 then k.eval M (v.app {s:=[B4 v.e x++B4 v.e y]})else none
 |.Az d sh k,v=>Hw (CH v.e sh d) fun l=>k.eval M (v.app {n:=[(l.length:Int)],l:=[l]})
 |.look m key sh t e,v=>IU (v.m.getD m []) (B4 v.e key) sh (fun w=>t.eval M (v.app w)) (e.eval M v)
 |.up m key cs sh k,v=>Hw (CC v.e sh cs) fun d=>k.eval M (v.app {m:=[Bn (v.m.getD m []) (B4 v.e key) d]})
 |.LA es sh k,v=>Hw (CP v.e sh es) fun l=>k.eval M (v.app {m:=[l]})
 |.bump t n k,v=>if t.den v.e+n≤1048576 then k.eval M (v.app {n:=[t.den v.e+n]})else none
 |.BI _ k,v=>k.eval M v
 |.call c alt τ o k e,v=>Lq (M c (τ.vals v.e)) alt o (fun w=>k.eval M (v.app w)) (e.eval M v)
def mir (trees:Nat→Tree):Nat→Vf
 |0,_,_=>none
 |N+1,c,v=>(trees c).eval (mir trees N) v
def ST.Cs (n:Nat):ST→Bool
 |.lit _=>true
 |.var i=>Nat.blt i n
 |.bin _ _ a b=>a.Cs n&&b.Cs n
 |.conv _ a=>a.Cs n
def SB.Cs (n:Nat):SB→Bool
 |.lit _=>true
 |.cmp _ a b=>a.Cs n&&b.Cs n
 |.no a=>a.Cs n
def Aa.Cs (c:C5):Aa→Bool
 |.bool b=>b.Cs c.n
 |.int _ t=>t.Cs c.n
 |.str _=>true
 |.svar i=>Nat.blt i c.s
 |.lst f i _ t=>!f&&(Nat.blt i c.l&&t.Cs c.n)
 |.nilPtr=>true
 |.nilSlice=>true
 |_=>false
def Co {α:Type} (p:α→Bool):List α→Bool
 |[]=>true
 |a::r=>p a&&Co p r
def AQ.Cs (c:C5):AQ→Bool
 |.els es=>Co (Co (Aa.Cs c)) es
 |.all i=>Nat.blt i c.l
 |.take i n=>Nat.blt i c.l&&n.Cs c.n
 |.drop i n=>Nat.blt i c.l&&n.Cs c.n
def LZ (c:C5) (a:Aa):Bool:=a.isStr&&a.Cs c
def De.Cs (c:C5) (τ:De):Bool:=Co (ST.Cs c.n) τ.n&&(Co (LZ c) τ.s&&(Co (fun i=>Nat.blt i c.l) τ.l&&Co (fun i=>Nat.blt i c.m) τ.m))
def Tree.Cs:Tree→C5→Bool
 |.fail,_=>true
 |.leaf _ _ τ,c=>τ.Cs c
 |.test _ a b t e,c=>a.Cs c.n&&(b.Cs c.n&&(t.Cs c&&e.Cs c))
 |.Ay i _ t e,c=>Nat.blt i c.n&&(t.Cs c&&e.Cs c)
 |.sets i _ t e,c=>Nat.blt i c.s&&(t.Cs c&&e.Cs c)
 |.elem l j sh k,c=>Nat.blt l c.l&&(j.Cs c.n&&k.Cs (c.add (HR sh)))
 |.Ad l t k,c=>Nat.blt l c.l&&(t.Cs c.n&&k.Cs c)
 |.BA s _ _ k,c=>Nat.blt s c.s&&k.Cs (c.add {n:=1})
 |.Fe x y t e,c=>LZ c x&&(LZ c y&&(t.Cs c&&e.Cs c))
 |.cat x y k,c=>LZ c x&&(LZ c y&&k.Cs (c.add {s:=1}))
 |.Az ps _ k,c=>Co (AQ.Cs c) ps&&k.Cs (c.add {n:=1,l:=1})
 |.look m key sh t e,c=>Nat.blt m c.m&&(LZ c key&&(t.Cs (c.add (HR sh))&&e.Cs c))
 |.up m key cs _ k,c=>Nat.blt m c.m&&(LZ c key&&(Co (Aa.Cs c) cs&&k.Cs (c.add {m:=1})))
 |.LA es _ k,c=>Co (fun x:Aa×List Aa=>LZ c x.1&&Co (Aa.Cs c) x.2) es&&k.Cs (c.add {m:=1})
 |.bump t _ k,c=>t.Cs c.n&&k.Cs (c.add {n:=1})
 |.BI _ k,c=>k.Cs c
 |.call _ _ τ o k e,c=>τ.Cs c&&(k.Cs (c.add o)&&e.Cs c)
def At (vf:Ah) (c:C5) (w:Ah):Prop:=∃v r:Ah,v.cnt=c∧vf=(v.app w).app r
def Tree.sem (M:Vf) (vf:Ah):Tree→C5→Out→Prop
 |.fail,_,_=>False
 |.leaf alt _ τ,_,o=>o=(alt,τ.vals vf.e)
 |.test op a b t e,c,o=>(LV op (a.den vf.e) (b.den vf.e)∧t.sem M vf c o)∨(¬LV op (a.den vf.e) (b.den vf.e)∧e.sem M vf c o)
 |.Ay i n t e,c,o=>(vf.n.getD i 0=n∧t.sem M vf c o)∨(vf.n.getD i 0≠n∧e.sem M vf c o)
 |.sets i s t e,c,o=>(vf.s.getD i []=s∧t.sem M vf c o)∨(vf.s.getD i []≠s∧e.sem M vf c o)
 |.elem l j sh k,c,o=>0≤j.den vf.e∧∃d w,(vf.l.getD l [])[(j.den vf.e).toNat]?=some d∧Da sh d=some w∧At vf c w∧k.sem M vf (c.add (HR sh)) o
 |.Ad l t k,c,o=>t.den vf.e=((vf.l.getD l []).length:Int)∧k.sem M vf c o
 |.BA s lo hi k,c,o=>lo≤(vf.s.getD s []).length∧(vf.s.getD s []).length≤hi∧At vf c {n:=[((vf.s.getD s []).length:Int)]}∧k.sem M vf (c.add {n:=1}) o
 |.Fe x y t e,c,o=>(B4 vf.e x=B4 vf.e y∧t.sem M vf c o)∨(B4 vf.e x≠B4 vf.e y∧e.sem M vf c o)
 |.cat x y k,c,o=>(B4 vf.e x).length+(B4 vf.e y).length≤1048576∧At vf c {s:=[B4 vf.e x++B4 vf.e y]}∧k.sem M vf (c.add {s:=1}) o
 |.Az d sh k,c,o=>∃l,CH vf.e sh d=some l∧At vf c {n:=[(l.length:Int)],l:=[l]}∧k.sem M vf (c.add {n:=1,l:=1}) o
 |.look m key sh t e,c,o=>(∃d w,BO (vf.m.getD m []) (B4 vf.e key)=some d∧Da sh d=some w∧At vf c w∧t.sem M vf (c.add (HR sh)) o)∨(BO (vf.m.getD m []) (B4 vf.e key)=none∧e.sem M vf c o)
 |.up m key cs sh k,c,o=>∃d,CC vf.e sh cs=some d∧At vf c {m:=[Bn (vf.m.getD m []) (B4 vf.e key) d]}∧k.sem M vf (c.add {m:=1}) o
 |.LA es sh k,c,o=>∃l,CP vf.e sh es=some l∧At vf c {m:=[l]}∧k.sem M vf (c.add {m:=1}) o
 |.bump t n k,c,o=>t.den vf.e+n≤1048576∧At vf c {n:=[t.den vf.e+n]}∧k.sem M vf (c.add {n:=1}) o
 |.BI _ k,c,o=>k.sem M vf c o
 |.call g alt τ u k e,c,o=>(∃w,M g (τ.vals vf.e)=some (alt,w)∧At vf c (w.fit u)∧k.sem M vf (c.add u) o)∨e.sem M vf c o
end Go.AM
end
section
namespace Go.AM
theorem Ah.ext' {a b:Ah} (c:a.n=b.n) (g:a.s=b.s) (j:a.l=b.l) (d:a.m=b.m):a=b:=by
 cases a;cases b;simp only at c g j d;subst c g j d;rfl
theorem Ah.Bw (a b c:Ah):(a.app b).app c=a.app (b.app c):=by
 apply Ah.ext'<;>simp [Ah.app,List.append_assoc]
theorem Ah.Adi (a:Ah):a.app {}=a:=by
 apply Ah.ext'<;>simp [Ah.app]
theorem Ah.Cy (a b:Ah):(a.app b).cnt=a.cnt.add b.cnt:=by
 simp [Ah.app,Ah.cnt,C5.add]
theorem HH {α:Type} (d:α):∀(k i:Nat) (l:List α),(MW d k i l).length=k
 |0,_,_=>rfl
 |k+1,i,l=>by simp [MW,HH d k (i+1) l]
theorem Ah.AcV (c:C5) (v:Ah):(v.fit c).cnt=c:=by
 simp [Ah.fit,Ah.cnt,HH]
theorem SD {α:Type} (d:α):∀(k i j:Nat) (l:List α),j<k→(MW d k i l)[j]?=some (l.getD (i+j) d)
 |0,_,_,_,h=>by omega
 |k+1,i,j,l,h=>by
  cases j with
  |zero=>simp [MW]
  |succ j=>
   show (MW d k (i+1) l)[j]?=_
   rw [SD d k (i+1) j l (by omega)]
   congr 2;omega
theorem XS {α:Type} (d:α) (l:List α):MW d l.length 0 l=l:=by
 apply List.ext_getElem?
 intro j
 by_cases h:j<l.length
 ·rw [SD d _ _ _ _ h,List.getElem?_eq_getElem h]
  simp [List.getD_eq_getElem?_getD,List.getElem?_eq_getElem h]
 ·rw [List.getElem?_eq_none (by rw [HH];omega),List.getElem?_eq_none (by omega)]
theorem Ah.MV {v:Ah} {c:C5} (h:v.cnt=c):v.fit c=v:=by
 subst h
 apply Ah.ext'<;>exact XS _ _
theorem C5.eq_iff {a b:C5}:a.eq b=true↔a=b:=by
 cases a;cases b
 simp [C5.eq]
theorem CK.RW {k:CK} {p:PV} {w:Ah} (h:k.read p=some w):w.cnt=k.cnt:=by
 cases k<;>cases p<;>simp only [CK.read,reduceCtorEq,oI]at h
 case int.int=>
  obtain ⟨_,h⟩:=Ap h
  simp only [oI]at h
  subst h;rfl
 case list.list=>
  obtain ⟨_,h⟩:=Ap h
  simp only [oI]at h
  subst h;rfl
 all_goals subst h;rfl
theorem Ga:∀{c:List CK} {d:List PV} {w:Ah},Da c d=some w→w.cnt=HR c
 |[],[],w,h=>by simp only [Da,oI]at h;subst h;rfl
 |k::c,p::d,w,h=>by
  simp only [Da]at h
  split at h
  ·rename_i a ha
   split at h
   ·rename_i b hb
    simp only [oI]at h
    subst h
    rw [Ah.Cy,CK.RW ha,Ga hb];rfl
   ·cases h
  ·cases h
 |[],_::_,w,h=>by simp [Da]at h
 |_::_,[],w,h=>by simp [Da]at h
section
variable {v r:Ah}
theorem P0 {i:Nat} (h:Nat.blt i v.cnt.n=true):(v.app r).n.getD i 0=v.n.getD i 0:=by
 have h:i<v.n.length:=by rwa [Nat.blt_eq]at h
 simp only [Ah.app,List.getD_eq_getElem?_getD,List.getElem?_append_left h]
theorem Jw {i:Nat} (h:Nat.blt i v.cnt.s=true):(v.app r).s.getD i []=v.s.getD i []:=by
 have h:i<v.s.length:=by rwa [Nat.blt_eq]at h
 simp only [Ah.app,List.getD_eq_getElem?_getD,List.getElem?_append_left h]
theorem Gt {i:Nat} (h:Nat.blt i v.cnt.l=true):(v.app r).l.getD i []=v.l.getD i []:=by
 have h:i<v.l.length:=by rwa [Nat.blt_eq]at h
 simp only [Ah.app,List.getD_eq_getElem?_getD,List.getElem?_append_left h]
theorem LH {i:Nat} (h:Nat.blt i v.cnt.m=true):(v.app r).m.getD i []=v.m.getD i []:=by
 have h:i<v.m.length:=by rwa [Nat.blt_eq]at h
 simp only [Ah.app,List.getD_eq_getElem?_getD,List.getElem?_append_left h]
theorem ST.Cd:∀{t:ST},t.Cs v.cnt.n=true→t.den (v.app r).e=t.den v.e
 |.lit _,_=>rfl
 |.var i,h=>P0 h
 |.bin _ _ a b,h=>by
  simp only [ST.Cs,aT]at h
  simp only [ST.den,ST.Cd h.1,ST.Cd h.2]
 |.conv _ a,h=>by
  simp only [ST.Cs]at h
  simp only [ST.den,ST.Cd h]
theorem SB.Cd:∀{t:SB},t.Cs v.cnt.n=true→t.den (v.app r).e=t.den v.e
 |.lit _,_=>rfl
 |.cmp _ a b,h=>by
  simp only [SB.Cs,aT]at h
  simp only [SB.den,ST.Cd h.1,ST.Cd h.2]
 |.no a,h=>by
  simp only [SB.Cs]at h
  simp only [SB.den,SB.Cd h]
theorem Df {a:Aa} (h:LZ v.cnt a=true):B4 (v.app r).e a=B4 v.e a:=by
 simp only [LZ,aT]at h
 cases a<;>simp only [Aa.isStr,Bool.false_eq_true,false_and]at h
 case str=>rfl
 case svar i=>exact Jw h.2
theorem Ye {k:CK} {a:Aa} (h:a.Cs v.cnt=true):GS (v.app r).e k a=GS v.e k a:=by
 cases k<;>cases a<;>simp only [Aa.Cs,Bool.false_eq_true]at h<;>try rfl
 case int.int=>simp only [GS,ST.Cd h]
 case bool.bool=>simp only [GS,SB.Cd h]
 case str.svar i=>simp only [GS];rw [show (v.app r).e.str i=v.e.str i from Jw h]
 case list.lst es f i es' n=>
  simp only [aT]at h
  simp only [GS];rw [show (v.app r).e.lst i=v.e.lst i from Gt h.2.1]
theorem Gi {α:Type} {p:α→Bool}:∀{l:List α},Co p l=true→∀x∈l,p x=true
 |[],_,_,hx=>by cases hx
 |a::l,h,x,hx=>by
  simp only [Co,aT]at h
  rcases List.mem_cons.1 hx with rfl|hx
  ·exact h.1
  ·exact Gi h.2 x hx
theorem GI:∀{c:List CK} {as:List Aa},Co (Aa.Cs v.cnt) as=true→CC (v.app r).e c as=CC v.e c as
 |[],[],_=>rfl
 |[],_::_,_=>rfl
 |_::_,[],_=>rfl
 |k::c,a::as,h=>by
  simp only [Co,aT]at h
  simp only [CC,Ye h.1,GI h.2]
theorem OH {c:List CK}:∀{as:List (List Aa)},Co (Co (Aa.Cs v.cnt)) as=true→GQ (v.app r).e c as=GQ v.e c as
 |[],_=>rfl
 |a::as,h=>by
  simp only [Co,aT]at h
  simp only [GQ,GI h.1,OH h.2]
theorem XA {c:List CK} {p:AQ} (h:p.Cs v.cnt=true):D6 (v.app r).e c p=D6 v.e c p:=by
 cases p<;>simp only [AQ.Cs,aT]at h
 case els es=>exact OH h
 case all i=>simp only [D6];rw [show (v.app r).e.lst i=v.e.lst i from Gt h]
 case take i n=>simp only [D6];rw [show (v.app r).e.lst i=v.e.lst i from Gt h.1,ST.Cd h.2]
 case drop i n=>simp only [D6];rw [show (v.app r).e.lst i=v.e.lst i from Gt h.1,ST.Cd h.2]
theorem M0 {d:List CK}:∀{c:List AQ},Co (AQ.Cs v.cnt) c=true→CH (v.app r).e d c=CH v.e d c
 |[],_=>rfl
 |p::c,h=>by
  simp only [Co,aT]at h
  simp only [CH,XA h.1,M0 h.2]
theorem JV {d:List CK}:∀{c:List (Aa×List Aa)},Co (fun x:Aa×List Aa=>LZ v.cnt x.1&&Co (Aa.Cs v.cnt) x.2) c=true→CP (v.app r).e d c=CP v.e d c
 |[],_=>rfl
 |x::c,h=>by
  simp only [Co,aT]at h
  simp only [CP,GI h.1.2,Df h.1.1,JV h.2]
theorem Dh {α β:Type} {f g:α→β}:∀{l:List α},(∀x∈l,f x=g x)→l.map f=l.map g
 |[],_=>rfl
 |x::l,h=>by
  rw [List.map_cons,List.map_cons,h x List.mem_cons_self,Dh fun y c=>h y (List.mem_cons_of_mem _ c)]
theorem De.Yz {τ:De} (h:τ.Cs v.cnt=true):τ.vals (v.app r).e=τ.vals v.e:=by
 simp only [De.Cs,aT]at h
 obtain ⟨g,j,k,o⟩:=h
 apply Ah.ext'
 ·exact Dh fun t d=>ST.Cd (Gi g t d)
 ·exact Dh fun t d=>Df (Gi j t d)
 ·exact Dh fun i c=>Gt (Gi k i c)
 ·exact Dh fun i c=>LH (Gi o i c)
end
theorem UD {l:List (List PV)} {j:Int} {q:List CK} {k:Ah→Option Out} {o:Out} (h:Nn l j q k=some o):0≤j∧∃c w,l[j.toNat]?=some c∧Da q c=some w∧k w=some o:=by
 unfold Nn at h
 split at h
 ·rename_i u
  split at h
  ·rename_i c d
   split at h
   ·rename_i w g
    rw [Ah.MV (Ga g)]at h
    exact ⟨u,c,w,d,g,h⟩
   ·cases h
  ·cases h
 ·cases h
theorem Ui {m:List (List Nat×List PV)} {s:List Nat} {j:List CK} {k:Ah→Option Out} {e:Option Out} {o:Out} (h:IU m s j k e=some o):(∃c w,BO m s=some c∧Da j c=some w∧k w=some o)∨(BO m s=none∧e=some o):=by
 unfold IU at h
 split at h
 ·rename_i c g
  split at h
  ·rename_i w d
   rw [Ah.MV (Ga d)]at h
   exact .inl ⟨c,w,g,d,h⟩
  ·cases h
 ·rename_i q
  exact .inr ⟨q,h⟩
theorem UQ {r:Option Out} {c:Nat} {u:C5} {k:Ah→Option Out} {e:Option Out} {o:Out} (h:Lq r c u k e=some o):(∃w,r=some (c,w)∧k (w.fit u)=some o)∨e=some o:=by
 unfold Lq at h
 split at h
 ·rename_i w
  split at h
  ·rename_i ha
   refine .inl ⟨w.2,?_,h⟩
   rw [←ha]
  ·exact .inr h
 ·cases h
theorem IL {α:Type} {r:Option α} {k:α→Option Out} {o:Out} (h:Hw r k=some o):∃a,r=some a∧k a=some o:=by
 unfold Hw at h
 split at h
 ·rename_i a
  exact ⟨a,rfl,h⟩
 ·cases h
theorem B8 {M:Vf}:∀(t:Tree) {v:Ah} {o:Out},t.Cs v.cnt=true→t.eval M v=some o→∃r,t.sem M (v.app r) v.cnt o
 |.fail,v,o,_,h=>by simp [Tree.eval]at h
 |.leaf alt nw τ,v,o,hb,h=>by
  simp only [Tree.eval,oI]at h
  refine ⟨{},?_⟩
  simp only [Tree.sem,Ah.Adi]
  exact h.symm
 |.test op a b t e,v,o,hb,h=>by
  simp only [Tree.Cs,aT]at hb
  simp only [Tree.eval]at h
  split at h
  ·rename_i hc
   obtain ⟨r,d⟩:=B8 t hb.2.2.1 h
   refine ⟨r,.inl ⟨?_,d⟩⟩
   rw [ST.Cd hb.1,ST.Cd hb.2.1];exact hc
  ·rename_i hc
   obtain ⟨r,d⟩:=B8 e hb.2.2.2 h
   refine ⟨r,.inr ⟨?_,d⟩⟩
   rw [ST.Cd hb.1,ST.Cd hb.2.1];exact hc
 |.Ay i n t e,v,o,hb,h=>by
  simp only [Tree.Cs,aT]at hb
  simp only [Tree.eval]at h
  split at h
  ·rename_i hc
   obtain ⟨r,d⟩:=B8 t hb.2.1 h
   exact ⟨r,.inl ⟨by rw [P0 hb.1];exact hc,d⟩⟩
  ·rename_i hc
   obtain ⟨r,d⟩:=B8 e hb.2.2 h
   exact ⟨r,.inr ⟨by rw [P0 hb.1];exact hc,d⟩⟩
 |.sets i s t e,v,o,hb,h=>by
  simp only [Tree.Cs,aT]at hb
  simp only [Tree.eval]at h
  split at h
  ·rename_i hc
   obtain ⟨r,d⟩:=B8 t hb.2.1 h
   exact ⟨r,.inl ⟨by rw [Jw hb.1];exact hc,d⟩⟩
  ·rename_i hc
   obtain ⟨r,d⟩:=B8 e hb.2.2 h
   exact ⟨r,.inr ⟨by rw [Jw hb.1];exact hc,d⟩⟩
 |.elem l j sh k,v,o,hb,h=>by
  simp only [Tree.Cs,aT]at hb
  simp only [Tree.eval]at h
  obtain ⟨C,q,w,g,A,h⟩:=UD h
  have hc:(v.app w).cnt=v.cnt.add (HR sh):=by rw [Ah.Cy,Ga A]
  obtain ⟨r,d⟩:=B8 k (by rw [hc];exact hb.2.2) h
  rw [hc,Ah.Bw]at d
  exact ⟨w.app r,by rw [ST.Cd hb.2.1];exact C,q,w,by rw [ST.Cd hb.2.1,Gt hb.1];exact g,A,⟨v,r,rfl,(Ah.Bw _ _ _).symm⟩,d⟩
 |.Ad l t k,v,o,hb,h=>by
  simp only [Tree.Cs,aT]at hb
  simp only [Tree.eval]at h
  split at h
  ·rename_i hc
   obtain ⟨r,d⟩:=B8 k hb.2.2 h
   exact ⟨r,by rw [ST.Cd hb.2.1,Gt hb.1];exact hc,d⟩
  ·cases h
 |.BA s lo hi k,v,o,hb,h=>by
  simp only [Tree.Cs,aT]at hb
  simp only [Tree.eval]at h
  split at h
  ·rename_i hc
   obtain ⟨r,d⟩:=B8 k (v:=v.app {n:=[((v.s.getD s []).length:Int)]}) (by rw [Ah.Cy];exact hb.2) h
   rw [Ah.Cy,Ah.Bw]at d
   refine ⟨Ah.app {n:=[((v.s.getD s []).length:Int)]} r,?_⟩
   simp only [Tree.sem]
   rw [Jw hb.1]
   exact ⟨hc.1,hc.2,⟨v,r,rfl,(Ah.Bw _ _ _).symm⟩,d⟩
  ·cases h
 |.Fe x y t e,v,o,hb,h=>by
  simp only [Tree.Cs,aT]at hb
  simp only [Tree.eval]at h
  split at h
  ·rename_i hc
   obtain ⟨r,d⟩:=B8 t hb.2.2.1 h
   exact ⟨r,.inl ⟨by rw [Df hb.1,Df hb.2.1];exact hc,d⟩⟩
  ·rename_i hc
   obtain ⟨r,d⟩:=B8 e hb.2.2.2 h
   exact ⟨r,.inr ⟨by rw [Df hb.1,Df hb.2.1];exact hc,d⟩⟩
 |.cat x y k,v,o,hb,h=>by
  simp only [Tree.Cs,aT]at hb
  simp only [Tree.eval]at h
  split at h
  ·rename_i hc
   obtain ⟨r,d⟩:=B8 k (v:=v.app {s:=[B4 v.e x++B4 v.e y]}) (by rw [Ah.Cy];exact hb.2.2) h
   rw [Ah.Cy,Ah.Bw]at d
   refine ⟨Ah.app {s:=[B4 v.e x++B4 v.e y]} r,?_⟩
   simp only [Tree.sem]
   rw [Df hb.1,Df hb.2.1]
   exact ⟨hc,⟨v,r,rfl,(Ah.Bw _ _ _).symm⟩,d⟩
  ·cases h
 |.Az q sh k,v,o,hb,h=>by
  simp only [Tree.Cs,aT]at hb
  simp only [Tree.eval]at h
  obtain ⟨l,hl,h⟩:=IL h
  obtain ⟨r,d⟩:=B8 k (v:=v.app {n:=[(l.length:Int)],l:=[l]}) (by rw [Ah.Cy];exact hb.2) h
  rw [Ah.Cy,Ah.Bw]at d
  refine ⟨Ah.app {n:=[(l.length:Int)],l:=[l]} r,l,?_,⟨v,r,rfl,(Ah.Bw _ _ _).symm⟩,d⟩
  rw [M0 hb.1];exact hl
 |.look m key sh t e,v,o,hb,h=>by
  simp only [Tree.Cs,aT]at hb
  simp only [Tree.eval]at h
  rcases Ui h with ⟨q,w,g,A,h⟩|⟨hn,h⟩
  ·have hc:(v.app w).cnt=v.cnt.add (HR sh):=by rw [Ah.Cy,Ga A]
   obtain ⟨r,d⟩:=B8 t (by rw [hc];exact hb.2.2.1) h
   rw [hc,Ah.Bw]at d
   exact ⟨w.app r,.inl ⟨q,w,by rw [LH hb.1,Df hb.2.1];exact g,A,⟨v,r,rfl,(Ah.Bw _ _ _).symm⟩,d⟩⟩
  ·obtain ⟨r,d⟩:=B8 e hb.2.2.2 h
   exact ⟨r,.inr ⟨by rw [LH hb.1,Df hb.2.1];exact hn,d⟩⟩
 |.up m key cs sh k,v,o,hb,h=>by
  simp only [Tree.Cs,aT]at hb
  simp only [Tree.eval]at h
  obtain ⟨q,g,h⟩:=IL h
  obtain ⟨r,d⟩:=B8 k (v:=v.app {m:=[Bn (v.m.getD m []) (B4 v.e key) q]}) (by rw [Ah.Cy];exact hb.2.2.2) h
  rw [Ah.Cy,Ah.Bw]at d
  refine ⟨Ah.app {m:=[Bn (v.m.getD m []) (B4 v.e key) q]} r,q,?_,?_,d⟩
  ·rw [GI hb.2.2.1];exact g
  ·rw [LH hb.1,Df hb.2.1]
   exact ⟨v,r,rfl,(Ah.Bw _ _ _).symm⟩
 |.LA es sh k,v,o,hb,h=>by
  simp only [Tree.Cs,aT]at hb
  simp only [Tree.eval]at h
  obtain ⟨l,hl,h⟩:=IL h
  obtain ⟨r,d⟩:=B8 k (v:=v.app {m:=[l]}) (by rw [Ah.Cy];exact hb.2) h
  rw [Ah.Cy,Ah.Bw]at d
  refine ⟨Ah.app {m:=[l]} r,l,?_,⟨v,r,rfl,(Ah.Bw _ _ _).symm⟩,d⟩
  rw [JV hb.1];exact hl
 |.bump t n k,v,o,hb,h=>by
  simp only [Tree.Cs,aT]at hb
  simp only [Tree.eval]at h
  split at h
  ·rename_i hc
   obtain ⟨r,d⟩:=B8 k (v:=v.app {n:=[t.den v.e+n]}) (by rw [Ah.Cy];exact hb.2) h
   rw [Ah.Cy,Ah.Bw]at d
   refine ⟨Ah.app {n:=[t.den v.e+n]} r,?_⟩
   simp only [Tree.sem]
   rw [ST.Cd hb.1]
   exact ⟨hc,⟨v,r,rfl,(Ah.Bw _ _ _).symm⟩,d⟩
  ·cases h
 |.BI z k,v,o,hb,h=>by
  obtain ⟨r,d⟩:=B8 k (v:=v) hb h
  exact ⟨r,d⟩
 |.call c alt τ u k e,v,o,hb,h=>by
  simp only [Tree.Cs,aT]at hb
  simp only [Tree.eval]at h
  rcases UQ h with ⟨w,A,h⟩|h
  ·have hc:(v.app (w.fit u)).cnt=v.cnt.add u:=by rw [Ah.Cy,Ah.AcV]
   obtain ⟨r,d⟩:=B8 k (by rw [hc];exact hb.2.1) h
   rw [hc,Ah.Bw]at d
   exact ⟨(w.fit u).app r,.inl ⟨w,by rw [De.Yz hb.1];exact A,⟨v,r,rfl,(Ah.Bw _ _ _).symm⟩,d⟩⟩
  ·obtain ⟨r,d⟩:=B8 e hb.2.2 h
   exact ⟨r,.inr d⟩
end Go.AM
end
section
namespace Go.AM
inductive Kb where
 |call (x:BC)
 |loop (k:BF)
def Kb.sub (τ:De):Kb→Option Kb
 |.call x=>(x.sub τ).map .call
 |.loop k=>(k.sub τ).map .loop
def Kb.Holds (P:Program) (ρ:Env) (g:FuncId):Kb→Prop
 |.call x=>Go.AM.Holds P ρ g x
 |.loop k=>C0 P ρ g k
structure Alt where
 outs:C5
 w:Kb
structure Spec where
 f:Nat
 ins:C5
 alts:List Alt
theorem Kb.AeU {P:Program} {ρ:Env} {τ:De} {g:FuncId} {w y:Kb} (hs:w.sub τ=some y) (h:w.Holds P (ρ.sub τ) g):y.Holds P ρ g:=by
 cases w
 case call x=>
  obtain ⟨z,c,rfl⟩:=mS hs
  exact Go.AM.Holds.sub c h
 case loop k=>
  obtain ⟨z,c,rfl⟩:=mS hs
  exact C0.sub c h
theorem Kb.AdW {P:Program} {ρ:Env} {τ:De} {g:FuncId} {w y:Kb} (hs:w.sub τ=some y) (h:y.Holds P ρ g):w.Holds P (ρ.sub τ) g:=by
 cases w
 case call x=>
  obtain ⟨z,c,rfl⟩:=mS hs
  exact Go.AM.Holds.Rv c h
 case loop k=>
  obtain ⟨z,c,rfl⟩:=mS hs
  exact C0.Rv c h
structure Cx where
 cnt:C5
 fx:Ao
 ks:List (Nat×BC)
 ins:De
def ST.Ay (i:Nat) (n:Int):ST→ST
 |.lit m=>.lit m
 |.var j=>bif Nat.beq i j then .lit n else .var j
 |.bin o k a b=>.bin o k (a.Ay i n) (b.Ay i n)
 |.conv k a=>.conv k (a.Ay i n)
def SB.Ay (i:Nat) (n:Int):SB→SB
 |.lit b=>.lit b
 |.cmp o a b=>AcW o (a.Ay i n) (b.Ay i n)
 |.no a=>(match a.Ay i n with|.lit b=>.lit (!b) |a=>.no a)
def Aa.Ay (i:Nat) (n:Int) (a:Aa):Aa:=
 match a with
 |.bool b=>.bool (b.Ay i n)
 |.int k t=>.int k (t.Ay i n)
 |.lst f j es t=>.lst f j es (t.Ay i n)
 |a=>a
def Aa.sets (i:Nat) (s:List Nat) (a:Aa):Aa:=
 match a with
 |.svar j=>bif Nat.beq i j then .str s else .svar j
 |a=>a
def H9 {α β:Type} (f:α→β):List α→List β
 |[]=>[]
 |a::r=>f a::H9 f r
def Cx.Ay (cx:Cx) (i:Nat) (n:Int):Cx:=
 {cx with ins:={cx.ins with n:=H9 (ST.Ay i n) cx.ins.n},fx:={cx.fx with elems:=H9 (fun x=>(x.1,x.2.1.Ay i n,H9 (Aa.Ay i n) x.2.2)) cx.fx.elems,Ad:=H9 (fun x=>(x.1,x.2.Ay i n)) cx.fx.Ad}}
def Cx.sets (cx:Cx) (i:Nat) (s:List Nat):Cx:=
 {cx with ins:={cx.ins with s:=H9 (Aa.sets i s) cx.ins.s},fx:={cx.fx with elems:=H9 (fun x=>(x.1,x.2.1,H9 (Aa.sets i s) x.2.2)) cx.fx.elems}}
def TW (op:BinOp) (a b:ST) (v:Bool) (l:List (ST×Int)):List (ST×Int):=
 match b with
 |.lit n=>bif v&&NU op .eql||!v&&NU op .neq then (a,n)::l else l
 |_=>l
def Cx.test (cx:Cx) (op:BinOp) (a b:ST) (v:Bool):Cx:=
 {cx with fx:={cx.fx with tests:=(op,a,b,v)::cx.fx.tests,DZ:=TW op a b v cx.fx.DZ}}
noncomputable def Eu (fx:Ao) (a:Aa):Bool:=
 match a with
 |.lst _ i _ t=>(match ER i fx.Ad with|some u=>u.eq t|none=>false)
 |_=>true
noncomputable def AQ.Eu (fx:Ao) (p:AQ):Bool:=
 match p with
 |.els es=>Co (Co (Go.AM.Eu fx)) es
 |_=>true
def Fk (c:Nat):List (Nat×Spec)→Option Spec
 |[]=>none
 |x::r=>bif Nat.beq x.1 c then some x.2 else Fk c r
def XE {α:Type}:List α→Nat→Option α
 |[],_=>none
 |a::_,0=>some a
 |_::r,i+1=>XE r i
def Cx.Aia (cx:Cx) (f g:Nat) (o:C5) (y:Kb):Option Cx:=
 match y with
 |.call x=>some {cx with ks:=(g,x)::cx.ks,cnt:=cx.cnt.add o}
 |.loop k=>bif Nat.beq f g then some {cx with fx:={cx.fx with loops:=k::cx.fx.loops},cnt:=cx.cnt.add o}else none
def Cx.call (cx:Cx) (S:List (Nat×Spec)) (f c g:Nat) (τ:De) (o:C5):Option Cx:=
 AG (Fk c S) fun d=>AG (XE d.alts g) fun A=>bif τ.cnt.eq d.ins&&o.eq A.outs then
  AG (A.w.sub (τ.app (LP cx.cnt o))) fun y=>cx.Aia f d.f o y else none
abbrev Rm:=Ao→List (Nat×BC)→Kb→List Nat→Bool
noncomputable def Tree.ok (S:List (Nat×Spec)) (run:Rm) (f:Nat) (alts:List Alt):Tree→Cx→Bool
 |.fail,_=>true
 |.leaf alt nw τ,cx=>Dv (AG (XE alts alt) fun A=>bif τ.cnt.eq A.outs then AG (A.w.sub (cx.ins.app τ)) fun y=>some (run cx.fx cx.ks y nw)else none)
 |.test op a b t e,cx=>t.ok S run f alts (cx.test op a b true)&&e.ok S run f alts (cx.test op a b false)
 |.Ay i n t e,cx=>t.ok S run f alts (cx.Ay i n)&&e.ok S run f alts (cx.test .eql (.var i) (.lit n) false)
 |.sets i s t e,cx=>t.ok S run f alts (cx.sets i s)&&e.ok S run f alts {cx with fx:={cx.fx with strs:=(.svar i,.str s,false)::cx.fx.strs}}
 |.elem l j sh k,cx=>k.ok S run f alts {cx with fx:={cx.fx with elems:=(l,j,Ny sh cx.cnt)::cx.fx.elems,Ad:=ME sh cx.cnt++cx.fx.Ad},cnt:=cx.cnt.add (HR sh)}
 |.Ad l t k,cx=>k.ok S run f alts {cx with fx:={cx.fx with Ad:=(l,t)::cx.fx.Ad}}
 |.BA s lo hi k,cx=>k.ok S run f alts {cx with fx:={cx.fx with BA:=(s,.var cx.cnt.n,lo,hi)::cx.fx.BA},cnt:=cx.cnt.add {n:=1}}
 |.Fe x y t e,cx=>x.isStr&&(y.isStr&&(t.ok S run f alts {cx with fx:={cx.fx with strs:=(x,y,true)::cx.fx.strs}}&&e.ok S run f alts {cx with fx:={cx.fx with strs:=(x,y,false)::cx.fx.strs}}))
 |.cat x y k,cx=>x.isStr&&(y.isStr&&k.ok S run f alts {cx with fx:={cx.fx with EK:=(x,y,.svar cx.cnt.s)::cx.fx.EK},cnt:=cx.cnt.add {s:=1}})
 |.Az ps _ k,cx=>Co (AQ.Cs cx.cnt) ps&&(Co (AQ.Eu cx.fx) ps&&k.ok S run f alts {cx with fx:={cx.fx with defs:=(cx.cnt.l,ps)::cx.fx.defs,Ad:=(cx.cnt.l,.var cx.cnt.n)::cx.fx.Ad},cnt:=cx.cnt.add {n:=1,l:=1}})
 |.look m key sh t e,cx=>key.isStr&&(t.ok S run f alts {cx with fx:={cx.fx with looks:=(m,key,some (Ny sh cx.cnt))::cx.fx.looks,Ad:=ME sh cx.cnt++cx.fx.Ad},cnt:=cx.cnt.add (HR sh)}&&e.ok S run f alts {cx with fx:={cx.fx with looks:=(m,key,none)::cx.fx.looks}})
 |.up m key cs _ k,cx=>key.isStr&&(Co (Aa.Cs cx.cnt) cs&&(Co (Eu cx.fx) cs&&k.ok S run f alts {cx with fx:={cx.fx with Lx:=(m,key,cs,cx.cnt.m)::cx.fx.Lx},cnt:=cx.cnt.add {m:=1}}))
 |.LA es _ k,cx=>Co (fun x:Aa×List Aa=>x.1.isStr&&(Co (Aa.Cs cx.cnt) x.2&&Co (Eu cx.fx) x.2)) es&&k.ok S run f alts {cx with fx:={cx.fx with CO:=(cx.cnt.m,es)::cx.fx.CO},cnt:=cx.cnt.add {m:=1}}
 |.bump t n k,cx=>k.ok S run f alts {cx with fx:={cx.fx with CQ:=(t,n,.var cx.cnt.n)::cx.fx.CQ},cnt:=cx.cnt.add {n:=1}}
 |.BI z k,cx=>k.ok S run f alts {cx with fx:={cx.fx with BI:=cx.fx.BI++[z]}}
 |.call c alt τ o k e,cx=>Dv (AG (cx.call S f c alt τ o) fun d=>some (k.ok S run f alts d))&&e.ok S run f alts cx
def NH (P:Program) (T:Nat→Option Obj) (f:Nat) (run:Rm):Prop:=
 ∀Γ ks w c (ρ:Env),ρ.AY=T→Γ.AL ρ→(∀x∈ks,Go.AM.Holds P ρ x.1 x.2)→(∀k∈Γ.loops,C0 P ρ f k)→run Γ ks w c=true→w.Holds P ρ f
def Good (P:Program) (T:Nat→Option Obj) (S:List (Nat×Spec)) (M:Vf):Prop:=
 ∀c d,Fk c S=some d→∀v a w,M c v=some (a,w)→v.cnt=d.ins→∃A,d.alts[a]?=some A∧w.cnt=A.outs∧A.w.Holds P ((v.app w).env T) d.f
theorem Qn {α:Type}:∀(l:List α) (i:Nat),XE l i=l[i]?
 |[],_=>by simp [XE]
 |a::r,0=>rfl
 |a::r,i+1=>by rw [XE,Qn r i];simp
section
variable {T:Nat→Option Obj} {vf:Ah}
theorem E5 (a:Aa):Eo (vf.env T) a=Eo vf.e a:=by cases a<;>rfl
theorem YH (a:Aa):B4 (vf.env T) a=B4 vf.e a:=by unfold B4;rw [E5]
theorem Gm {ρ:Env} {a:Aa} (h:a.isStr=true):Eo ρ a=some (B4 ρ a):=by
 cases a<;>simp only [Aa.isStr,Bool.false_eq_true]at h<;>rfl
theorem At.val {c:C5} {w:Ah} (h:At vf c w) (i:Nat) (d:i<w.n.length):vf.n.getD (c.n+i) 0=w.n.getD i 0:=by
 obtain ⟨v,r,rfl,rfl⟩:=h
 simp only [Ah.app,Ah.cnt,List.getD_eq_getElem?_getD,List.append_assoc]
 rw [List.getElem?_append_right (by omega),List.getElem?_append_left (by omega)]
 congr 2;omega
theorem At.str {c:C5} {w:Ah} (h:At vf c w) (i:Nat) (d:i<w.s.length):vf.s.getD (c.s+i) []=w.s.getD i []:=by
 obtain ⟨v,r,rfl,rfl⟩:=h
 simp only [Ah.app,Ah.cnt,List.getD_eq_getElem?_getD,List.append_assoc]
 rw [List.getElem?_append_right (by omega),List.getElem?_append_left (by omega)]
 congr 2;omega
theorem At.lst {c:C5} {w:Ah} (h:At vf c w) (i:Nat) (d:i<w.l.length):vf.l.getD (c.l+i) []=w.l.getD i []:=by
 obtain ⟨v,r,rfl,rfl⟩:=h
 simp only [Ah.app,Ah.cnt,List.getD_eq_getElem?_getD,List.append_assoc]
 rw [List.getElem?_append_right (by omega),List.getElem?_append_left (by omega)]
 congr 2;omega
theorem At.map {c:C5} {w:Ah} (h:At vf c w) (i:Nat) (d:i<w.m.length):vf.m.getD (c.m+i) []=w.m.getD i []:=by
 obtain ⟨v,r,rfl,rfl⟩:=h
 simp only [Ah.app,Ah.cnt,List.getD_eq_getElem?_getD,List.append_assoc]
 rw [List.getElem?_append_right (by omega),List.getElem?_append_left (by omega)]
 congr 2;omega
theorem At.left {c:C5} {a b:Ah} (h:At vf c (a.app b)):At vf c a:=by
 obtain ⟨v,r,hc,rfl⟩:=h
 exact ⟨v,b.app r,hc,by simp only [Ah.Bw]⟩
theorem At.right {c:C5} {a b:Ah} (h:At vf c (a.app b)):At vf (c.add a.cnt) b:=by
 obtain ⟨v,r,rfl,rfl⟩:=h
 exact ⟨v.app a,r,by rw [Ah.Cy],by simp only [Ah.Bw]⟩
theorem Af4 (b:Bool):ED .neq (b01 b) 0=b:=by cases b<;>rfl
theorem CK.ZI {k:CK} {p:PV} {w:Ah} {c:C5} (h:k.read p=some w) (d:At vf c w):LF (vf.env T) (k.val c) p∧(∀j,k=.list j→vf.n.getD c.n 0=((vf.l.getD c.l []).length:Int)):=by
 cases k<;>cases p<;>simp only [CK.read,reduceCtorEq,oI]at h
 case int.int k k' n=>
  obtain ⟨o,h⟩:=Ap h
  simp only [oI]at h
  subst h
  rw [Dt.1 o]
  have g:vf.n.getD c.n 0=n:=d.val 0 (by simp)
  refine ⟨?_,fun _ e=>by cases e⟩
  show PV.int k' n=.int k' (vf.n.getD c.n 0)
  rw [g]
 case bool.bool b=>
  subst h
  have g:vf.n.getD c.n 0=b01 b:=d.val 0 (by simp)
  refine ⟨?_,fun _ e=>by cases e⟩
  show PV.bool b=.bool (ED .neq (vf.n.getD c.n 0) 0)
  rw [g,Af4]
 case str.str s=>
  subst h
  have g:vf.s.getD c.s []=s:=d.str 0 (by simp)
  refine ⟨?_,fun _ e=>by cases e⟩
  show PV.str s=.str (vf.s.getD c.s [])
  rw [g]
 case list.list j es' l=>
  obtain ⟨o,h⟩:=Ap h
  simp only [oI]at h
  subst h
  have e:=An.1 o
  subst e
  have g:vf.n.getD c.n 0=(l.length:Int):=d.val 0 (by simp)
  have hl:vf.l.getD c.l []=l:=d.lst 0 (by simp)
  refine ⟨⟨rfl,?_,?_⟩,fun _ _=>?_⟩
  ·show PV.list j l=.list j (vf.l.getD c.l [])
   rw [hl]
  ·show vf.n.getD c.n 0=((vf.l.getD c.l []).length:Int)
   rw [hl,g]
  ·rw [hl,g]
 case nilp.nilp=>exact ⟨rfl,fun _ e=>by cases e⟩
theorem Kp:∀{j:List CK} {g:List PV} {w:Ah} {c:C5},Da j g=some w→At vf c w→FI (vf.env T) (Ny j c) g∧∀x∈ME j c,x.2.den vf.e=((vf.l.getD x.1 []).length:Int)
 |[],[],w,c,h,hat=>⟨rfl,fun x d=>by cases d⟩
 |k::j,p::g,w,c,h,hat=>by
  simp only [Da]at h
  split at h
  ·rename_i a ha
   split at h
   ·rename_i b hb
    simp only [oI]at h
    subst h
    obtain ⟨u,v⟩:=CK.ZI (T:=T) ha hat.left
    have o:=hat.right
    rw [CK.RW ha]at o
    obtain ⟨y,q⟩:=Kp hb o
    refine ⟨⟨p,g,rfl,u,y⟩,fun x d=>?_⟩
    simp only [ME]at d
    split at d
    ·rename_i z
     rcases List.mem_cons.1 d with rfl|d
     ·exact v z rfl
     ·exact q x d
    ·exact q x d
   ·cases h
  ·cases h
 |[],_::_,w,c,h,_=>by simp [Da]at h
 |_::_,[],w,c,h,_=>by simp [Da]at h
theorem Yd {fx:Ao} (g:fx.AL (vf.env T)) {k:CK} {a:Aa} {p:PV} {c:C5} (hb:a.Cs c=true) (hl:Eu fx a=true) (h:GS vf.e k a=some p):Vh (vf.env T) a p:=by
 cases k<;>cases a<;>simp only [Aa.Cs,Bool.false_eq_true]at hb<;>simp only [GS,reduceCtorEq,oI]at h
 case int.int=>
  obtain ⟨d,h⟩:=Ap h
  simp only [oI]at h
  rw [Dt.1 d]at h
  exact h.symm
 case bool.bool=>exact h.symm
 case str.str=>exact h.symm
 case str.svar=>exact h.symm
 case list.nilSlice es=>exact ⟨es,h.symm⟩
 case list.lst es f i es' n=>
  obtain ⟨d,h⟩:=Ap h
  simp only [oI]at h
  rw [An.1 d]at h
  simp only [aT,Bool.not_eq_true']at hb
  simp only [Eu]at hl
  split at hl
  ·rename_i u j
   refine ⟨hb.1,h.symm,?_⟩
   rw [←ST.Bk hl]
   exact g.Ad _ (CG j)
  ·cases hl
 case nilp.nilPtr=>exact h.symm
theorem GH {fx:Ao} (g:fx.AL (vf.env T)) {c:C5}:∀{j:List CK} {as:List Aa} {d:List PV},Co (Aa.Cs c) as=true→Co (Eu fx) as=true→CC vf.e j as=some d→CR (vf.env T) as d
 |[],[],d,_,_,h=>by simp only [CC,oI]at h;subst h;rfl
 |k::j,a::as,d,hb,hl,h=>by
  simp only [Co,aT]at hb hl
  simp only [CC]at h
  split at h
  ·rename_i p o
   split at h
   ·rename_i q u
    simp only [oI]at h
    subst h
    exact ⟨p,q,rfl,Yd g hb.1 hl.1 o,GH g hb.2 hl.2 u⟩
   ·cases h
  ·cases h
 |[],_::_,_,_,_,h=>by simp [CC]at h
 |_::_,[],_,_,_,h=>by simp [CC]at h
theorem OG {fx:Ao} (g:fx.AL (vf.env T)) {c:C5} {o:List CK}:∀{as:List (List Aa)} {d:List (List PV)},Co (Co (Aa.Cs c)) as=true→Co (Co (Eu fx)) as=true→GQ vf.e o as=some d→Eh (vf.env T) as d
 |[],d,_,_,h=>by simp only [GQ,oI]at h;subst h;rfl
 |a::as,d,hb,hl,h=>by
  simp only [Co,aT]at hb hl
  simp only [GQ]at h
  split at h
  ·rename_i p j
   split at h
   ·rename_i q k
    simp only [oI]at h
    subst h
    exact ⟨p,q,rfl,GH g hb.1 hl.1 j,OG g hb.2 hl.2 k⟩
   ·cases h
  ·cases h
theorem X9 {fx:Ao} (d:fx.AL (vf.env T)) {c:C5} {g:List CK} {p:AQ} {l:List (List PV)} (hb:p.Cs c=true) (hl:p.Eu fx=true) (h:D6 vf.e g p=some l):FG (vf.env T) p l:=by
 cases p<;>simp only [AQ.Cs]at hb<;>simp only [AQ.Eu]at hl<;>simp only [D6,oI]at h
 case els es=>exact OG d hb hl h
 case all i=>exact h.symm
 case take i n=>
  split at h
  ·rename_i hc
   simp only [oI]at h
   exact ⟨hc.1,hc.2,h.symm⟩
  ·cases h
 case drop i n=>
  split at h
  ·rename_i hc
   simp only [oI]at h
   exact ⟨hc.1,hc.2,h.symm⟩
  ·cases h
theorem Mz {fx:Ao} (g:fx.AL (vf.env T)) {c:C5} {k:List CK}:∀{d:List AQ} {l:List (List PV)},Co (AQ.Cs c) d=true→Co (AQ.Eu fx) d=true→CH vf.e k d=some l→B9 (vf.env T) d l
 |[],l,_,_,h=>by simp only [CH,oI]at h;subst h;rfl
 |p::d,l,hb,hl,h=>by
  simp only [Co,aT]at hb hl
  simp only [CH]at h
  split at h
  ·rename_i a ha
   split at h
   ·rename_i b j
    simp only [oI]at h
    subst h
    exact ⟨a,b,rfl,X9 g hb.1 hl.1 ha,Mz g hb.2 hl.2 j⟩
   ·cases h
  ·cases h
theorem JU {fx:Ao} (g:fx.AL (vf.env T)) {c:C5} {o:List CK}:∀{d:List (Aa×List Aa)} {l:List (List Nat×List PV)},Co (fun x:Aa×List Aa=>x.1.isStr&&(Co (Aa.Cs c) x.2&&Co (Eu fx) x.2)) d=true→CP vf.e o d=some l→Abl (vf.env T) d l
 |[],l,_,h=>by simp only [CP,oI]at h;subst h;rfl
 |x::d,l,hb,h=>by
  simp only [Co,aT]at hb
  simp only [CP]at h
  split at h
  ·rename_i p j
   split at h
   ·rename_i q k
    simp only [oI]at h
    subst h
    refine ⟨B4 vf.e x.1,p,q,rfl,?_,GH g hb.1.2.1 hb.1.2.2 j,JU g hb.2 k⟩
    rw [E5];exact Gm hb.1.1
   ·cases h
  ·cases h
theorem Jh (op:BinOp) (x y:Int):ED op x y=decide (LV op x y):=by
 cases op
 case neq=>by_cases h:x=y<;>simp [ED,LV,bne,h]
 all_goals rfl
theorem Ij {α β:Type} (f:α→β):∀l:List α,H9 f l=l.map f
 |[]=>rfl
 |a::r=>by simp [H9,Ij f r]
theorem ST.Cr {i:Nat} {n:Int} (h:vf.n.getD i 0=n):∀t:ST,(t.Ay i n).den vf.e=t.den vf.e
 |.lit _=>rfl
 |.var j=>by
  simp only [ST.Ay]
  rw [AP]
  split
  ·rename_i e;subst e;exact h.symm
  ·rfl
 |.bin o k a b=>by simp only [ST.Ay,ST.den,ST.Cr h a,ST.Cr h b]
 |.conv k a=>by simp only [ST.Ay,ST.den,ST.Cr h a]
theorem SB.Cr {i:Nat} {n:Int} (h:vf.n.getD i 0=n):∀t:SB,(t.Ay i n).den vf.e=t.den vf.e
 |.lit _=>rfl
 |.cmp o a b=>by
  simp only [SB.Ay]
  rw [SR]
  simp only [SB.den,ST.Cr h]
 |.no a=>by
  have ih:=SB.Cr h a
  simp only [SB.Ay]
  split
  ·rename_i b hb
   rw [hb]at ih
   simp only [SB.den]at ih⊢
   rw [ih]
  ·simp only [SB.den,ih]
theorem Aa.Cr {i:Nat} {n:Int} (h:vf.n.getD i 0=n) {a:Aa} {p:PV} (ha:LF (vf.env T) a p):LF (vf.env T) (a.Ay i n) p:=by
 cases a<;>simp only [Aa.Ay]<;>first|exact ha|skip
 case bool b=>
  have ha:p=.bool (b.den vf.e):=ha
  show p=.bool ((b.Ay i n).den vf.e)
  rw [SB.Cr h,ha]
 case int k t=>
  have ha:p=.int k (t.den vf.e):=ha
  show p=.int k ((t.Ay i n).den vf.e)
  rw [ST.Cr h,ha]
 case lst f j es t=>
  obtain ⟨c,d,g⟩:=ha
  refine ⟨c,d,?_⟩
  show (t.Ay i n).den vf.e=_
  rw [ST.Cr h];exact g
theorem Aa.Zy {i:Nat} {s:List Nat} (h:vf.s.getD i []=s) {a:Aa} {p:PV} (ha:LF (vf.env T) a p):LF (vf.env T) (a.sets i s) p:=by
 cases a<;>simp only [Aa.sets]<;>first|exact ha|skip
 rw [AP]
 split
 ·rename_i e
  subst e
  have ha:p=.str (vf.s.getD i []):=ha
  show p=.str s
  rw [ha,h]
 ·exact ha
theorem FI.H9 {f:Aa→Aa} (hf:∀{a p},LF (vf.env T) a p→LF (vf.env T) (f a) p):∀{as:List Aa} {c:List PV},FI (vf.env T) as c→FI (vf.env T) (H9 f as) c
 |[],c,h=>h
 |a::as,c,h=>by
  obtain ⟨p,rest,rfl,d,g⟩:=h
  exact ⟨p,rest,rfl,hf d,FI.H9 hf g⟩
theorem Cx.Xy {cx:Cx} {i:Nat} {n:Int} (h:vf.n.getD i 0=n) (c:cx.fx.AL (vf.env T)):(cx.Ay i n).fx.AL (vf.env T):=by
 refine ⟨c.DZ,c.tests,c.strs,c.EK,c.BA,fun x d=>?_,fun x d=>?_,c.defs,c.looks,c.Lx,c.CQ,c.CO⟩
 ·rw [show (cx.Ay i n).fx.Ad=_ from Ij _ _]at d
  obtain ⟨y,g,rfl⟩:=List.mem_map.1 d
  show (y.2.Ay i n).den vf.e=_
  rw [ST.Cr h]
  exact c.Ad y g
 ·rw [show (cx.Ay i n).fx.elems=_ from Ij _ _]at d
  obtain ⟨y,g,rfl⟩:=List.mem_map.1 d
  obtain ⟨o,j,k,q⟩:=c.elems y g
  refine ⟨o,?_,?_,FI.H9 (Aa.Cr h) q⟩
  ·show 0≤(y.2.1.Ay i n).den vf.e
   rw [ST.Cr h];exact j
  ·show _[((y.2.1.Ay i n).den vf.e).toNat]?=_
   rw [ST.Cr h];exact k
theorem Cx.Xw {cx:Cx} {i:Nat} {s:List Nat} (h:vf.s.getD i []=s) (c:cx.fx.AL (vf.env T)):(cx.sets i s).fx.AL (vf.env T):=by
 refine ⟨c.DZ,c.tests,c.strs,c.EK,c.BA,c.Ad,fun x d=>?_,c.defs,c.looks,c.Lx,c.CQ,c.CO⟩
 rw [show (cx.sets i s).fx.elems=_ from Ij _ _]at d
 obtain ⟨y,k,rfl⟩:=List.mem_map.1 d
 obtain ⟨o,g,j,q⟩:=c.elems y k
 exact ⟨o,g,j,FI.H9 (Aa.Zy h) q⟩
theorem De.Xx {τ:De} {i:Nat} {n:Int} (h:vf.n.getD i 0=n):De.vals {τ with n:=H9 (ST.Ay i n) τ.n} vf.e=τ.vals vf.e:=by
 apply Ah.ext'<;>simp only [De.vals]
 rw [Ij,List.map_map]
 exact Dh fun t _=>ST.Cr h t
theorem De.Xv {τ:De} {i:Nat} {s:List Nat} (h:vf.s.getD i []=s):De.vals {τ with s:=H9 (Aa.sets i s) τ.s} vf.e=τ.vals vf.e:=by
 apply Ah.ext'<;>simp only [De.vals]
 rw [Ij,List.map_map]
 refine Dh fun a _=>?_
 show B4 vf.e (a.sets i s)=B4 vf.e a
 cases a<;>simp only [Aa.sets]
 rename_i j
 rw [AP]
 split
 ·rename_i e;subst e;exact h.symm
 ·rfl
theorem Cx.Kg {cx:Cx} {op:BinOp} {a b:ST} {v:Bool} (h:ED op (a.den vf.e) (b.den vf.e)=v) (c:cx.fx.AL (vf.env T)):(cx.test op a b v).fx.AL (vf.env T):=by
 refine ⟨fun x d=>?_,Bz h c.tests,c.strs,c.EK,c.BA,c.Ad,c.elems,c.defs,c.looks,c.Lx,c.CQ,c.CO⟩
 have d:x∈TW op a b v cx.fx.DZ:=d
 unfold TW at d
 cases b with
 |lit n=>
  simp only at d
  cases e:(v&&NU op .eql||!v&&NU op .neq)with
  |false=>rw [e]at d;exact c.DZ x d
  |true=>
   rw [e]at d
   rcases List.mem_cons.1 d with rfl|d
   ·show a.den vf.e=n
    simp only [Bool.or_eq_true,aT,Bool.not_eq_true']at e
    rcases e with ⟨rfl,e⟩|⟨rfl,e⟩
    ·rw [H7.1 e]at h;simpa [ED,ST.den]using h
    ·rw [H7.1 e]at h;simpa [ED,ST.den]using h
   ·exact c.DZ x d
 |_=>exact c.DZ x d
theorem Gd {α β γ:Type} (f:Nat→α) (g:α→β) (l:List β) (d:β):∀(w:List β) (i:Nat),(∀j,j<w.length→g (f (i+j))=w.getD j d)→(MT f w.length i).map g=w
 |[],i,_=>rfl
 |x::w,i,h=>by
  simp only [lC,MT,List.map_cons]
  rw [show g (f i)=x by simpa using h 0 (by simp),Gd (γ:=γ) f g l d w (i+1) fun j c=>by
   have:=h (j+1) (by simp;omega)
   rw [show i+(j+1)=i+1+j by omega]at this
   simpa using this]
theorem LO {c:C5} {w:Ah} (h:At vf c w):(LP c w.cnt).vals vf.e=w:=by
 apply Ah.ext'<;>simp only [De.vals,LP,Ah.cnt]
 ·exact Gd (γ:=Unit) _ _ w.n 0 w.n c.n fun j d=>h.val j d
 ·exact Gd (γ:=Unit) _ _ w.s [] w.s c.s fun j d=>h.str j d
 ·exact Gd (γ:=Unit) _ _ w.l [] w.l c.l fun j d=>h.lst j d
 ·exact Gd (γ:=Unit) _ _ w.m [] w.m c.m fun j d=>h.map j d
theorem De.Tb (a b:De) (ρ:Env):(a.app b).vals ρ=(a.vals ρ).app (b.vals ρ):=by
 apply Ah.ext'<;>simp [De.app,De.vals,Ah.app]
theorem De.Ru (τ:De) (ρ:Env):(τ.vals ρ).cnt=τ.cnt:=by simp [De.vals,Ah.cnt,De.cnt]
theorem VQ (τ:De):(vf.env T).sub τ=(τ.vals vf.e).env T:=by
 show Env.of T _ _ _ _=Env.of T _ _ _ _
 simp only [De.vals]
 rw [Dh (l:=τ.s) (f:=B4 (vf.env T)) fun a _=>YH a]
 rfl
end
section
variable {P:Program} {T:Nat→Option Obj} {S:List (Nat×Spec)} {run:Rm} {f:Nat} {alts:List Alt} {M:Vf} {vf:Ah}
structure Cx.AL (P:Program) (T:Nat→Option Obj) (f:Nat) (vf ins:Ah) (cx:Cx):Prop where
 fx:cx.fx.AL (vf.env T)
 ks:∀x∈cx.ks,Go.AM.Holds P (vf.env T) x.1 x.2
 ls:∀k∈cx.fx.loops,C0 P (vf.env T) f k
 ins:cx.ins.vals vf.e=ins
theorem Cx.Yf {ins:Ah} (hM:Good P T S M) {cx j:Cx} (H:cx.AL P T f vf ins) {c q:Nat} {τ:De} {o:C5} (hc:cx.call S f c q τ o=some j) {w:Ah} (O:M c (τ.vals vf.e)=some (q,w)) (k:At vf cx.cnt (w.fit o)):j.AL P T f vf ins∧j.cnt=cx.cnt.add o:=by
 unfold Cx.call at hc
 obtain ⟨C,N,Q⟩:=Ab hc
 obtain ⟨A,v,U⟩:=Ab Q
 obtain ⟨x,q3⟩:=Ap U
 obtain ⟨y,hy,g⟩:=Ab q3
 rw [aT]at x
 have R:=C5.eq_iff.1 x.1
 have z:=C5.eq_iff.1 x.2
 obtain ⟨A',D,d,hh⟩:=hM c C N _ _ _ O (by rw [De.Ru];exact R)
 rw [Qn,D]at v
 simp only [oI]at v
 subst v
 rw [z,Ah.MV d]at k
 have Z:(vf.env T).sub (τ.app (LP cx.cnt o))=((τ.vals vf.e).app w).env T:=by
  rw [VQ,De.Tb,z,←d,LO k]
 have u:y.Holds P (vf.env T) C.f:=Kb.AeU hy (by rw [Z];exact hh)
 unfold Cx.Aia at g
 split at g
 ·simp only [oI]at g
  subst g
  exact ⟨⟨H.fx,Bz u H.ks,H.ls,H.ins⟩,rfl⟩
 ·obtain ⟨hf,J⟩:=Ap g
  simp only [oI]at J
  subst J
  have hf:=An.1 hf
  subst hf
  exact ⟨⟨⟨H.fx.DZ,H.fx.tests,H.fx.strs,H.fx.EK,H.fx.BA,H.fx.Ad,H.fx.elems,H.fx.defs,H.fx.looks,H.fx.Lx,H.fx.CQ,H.fx.CO⟩,H.ks,Bz u H.ls,H.ins⟩,rfl⟩
theorem B6 {ins:Ah} (q:NH P T f run) (C:Good P T S M):∀(t:Tree) {cx:Cx} {o:Out},t.ok S run f alts cx=true→t.sem M vf cx.cnt o→cx.AL P T f vf ins→∃A,alts[o.1]?=some A∧o.2.cnt=A.outs∧A.w.Holds P ((ins.app o.2).env T) f
 |.fail,cx,o,_,hs,_=>hs.elim
 |.leaf alt nw τ,cx,o,g,hs,H=>by
  simp only [Tree.ok]at g
  obtain ⟨A,hA,g⟩:=Ab (F9.1 g)
  obtain ⟨he,g⟩:=Ap g
  obtain ⟨y,Q,g⟩:=Ab g
  simp only [oI]at g
  simp only [Tree.sem]at hs
  subst hs
  rw [Qn]at hA
  refine ⟨A,hA,by rw [De.Ru];exact C5.eq_iff.1 he,?_⟩
  have U:=q cx.fx cx.ks y nw (vf.env T) rfl H.fx H.ks H.ls g
  have Z:=Kb.AdW Q U
  rw [VQ,De.Tb,H.ins]at Z
  exact Z
 |.test op a b t e,cx,o,g,hs,H=>by
  simp only [Tree.ok,aT]at g
  rcases hs with ⟨hc,hs⟩|⟨hc,hs⟩
  ·exact B6 q C t (cx:=cx.test op a b true) g.1 hs ⟨Cx.Kg (by rw [Jh];exact decide_eq_true hc) H.fx,H.ks,H.ls,H.ins⟩
  ·exact B6 q C e (cx:=cx.test op a b false) g.2 hs ⟨Cx.Kg (by rw [Jh];exact decide_eq_false hc) H.fx,H.ks,H.ls,H.ins⟩
 |.Ay i n t e,cx,o,g,hs,H=>by
  simp only [Tree.ok,aT]at g
  rcases hs with ⟨hc,hs⟩|⟨hc,hs⟩
  ·exact B6 q C t (cx:=cx.Ay i n) g.1 hs ⟨Cx.Xy hc H.fx,H.ks,H.ls,by rw [←H.ins];exact De.Xx hc⟩
  ·refine B6 q C e (cx:=cx.test .eql (.var i) (.lit n) false) g.2 hs ⟨Cx.Kg ?_ H.fx,H.ks,H.ls,H.ins⟩
   rw [Jh];exact decide_eq_false hc
 |.sets i s t e,cx,o,g,hs,H=>by
  simp only [Tree.ok,aT]at g
  rcases hs with ⟨hc,hs⟩|⟨hc,hs⟩
  ·exact B6 q C t (cx:=cx.sets i s) g.1 hs ⟨Cx.Xw hc H.fx,H.ks,H.ls,by rw [←H.ins];exact De.Xv hc⟩
  ·refine B6 q C e (cx:={cx with fx:={cx.fx with strs:=(.svar i,.str s,false)::cx.fx.strs}}) g.2 hs ⟨⟨H.fx.DZ,H.fx.tests,Bz ⟨vf.s.getD i [],s,rfl,rfl,(decide_eq_false hc).symm⟩ H.fx.strs,H.fx.EK,H.fx.BA,H.fx.Ad,H.fx.elems,H.fx.defs,H.fx.looks,H.fx.Lx,H.fx.CQ,H.fx.CO⟩,H.ks,H.ls,H.ins⟩
 |.elem l j sh k,cx,o,g,hs,H=>by
  simp only [Tree.ok]at g
  obtain ⟨hj,O,w,N,R,v,hs⟩:=hs
  obtain ⟨d1,d2⟩:=Kp (T:=T) R v
  refine B6 q C k g hs ⟨⟨H.fx.DZ,H.fx.tests,H.fx.strs,H.fx.EK,H.fx.BA,fun x D=>?_,Bz ⟨O,hj,N,d1⟩ H.fx.elems,H.fx.defs,H.fx.looks,H.fx.Lx,H.fx.CQ,H.fx.CO⟩,H.ks,H.ls,H.ins⟩
  rcases List.mem_append.1 D with D|D
  ·exact d2 x D
  ·exact H.fx.Ad x D
 |.Ad l t k,cx,o,g,hs,H=>by
  simp only [Tree.ok]at g
  exact B6 q C k g hs.2 ⟨⟨H.fx.DZ,H.fx.tests,H.fx.strs,H.fx.EK,H.fx.BA,Bz hs.1 H.fx.Ad,H.fx.elems,H.fx.defs,H.fx.looks,H.fx.Lx,H.fx.CQ,H.fx.CO⟩,H.ks,H.ls,H.ins⟩
 |.BA s lo hi k,cx,o,g,hs,H=>by
  simp only [Tree.ok]at g
  obtain ⟨U,Z,v,hs⟩:=hs
  exact B6 q C k g hs ⟨⟨H.fx.DZ,H.fx.tests,H.fx.strs,H.fx.EK,Bz ⟨v.val 0 (by simp),U,Z⟩ H.fx.BA,H.fx.Ad,H.fx.elems,H.fx.defs,H.fx.looks,H.fx.Lx,H.fx.CQ,H.fx.CO⟩,H.ks,H.ls,H.ins⟩
 |.Fe x y t e,cx,o,g,hs,H=>by
  simp only [Tree.ok,aT]at g
  have D:Eo (vf.env T) x=some (B4 vf.e x):=by rw [E5];exact Gm g.1
  have Q:Eo (vf.env T) y=some (B4 vf.e y):=by rw [E5];exact Gm g.2.1
  rcases hs with ⟨hc,hs⟩|⟨hc,hs⟩
  ·exact B6 q C t (cx:={cx with fx:={cx.fx with strs:=(x,y,true)::cx.fx.strs}}) g.2.2.1 hs ⟨⟨H.fx.DZ,H.fx.tests,Bz ⟨_,_,D,Q,(decide_eq_true hc).symm⟩ H.fx.strs,H.fx.EK,H.fx.BA,H.fx.Ad,H.fx.elems,H.fx.defs,H.fx.looks,H.fx.Lx,H.fx.CQ,H.fx.CO⟩,H.ks,H.ls,H.ins⟩
  ·exact B6 q C e (cx:={cx with fx:={cx.fx with strs:=(x,y,false)::cx.fx.strs}}) g.2.2.2 hs ⟨⟨H.fx.DZ,H.fx.tests,Bz ⟨_,_,D,Q,(decide_eq_false hc).symm⟩ H.fx.strs,H.fx.EK,H.fx.BA,H.fx.Ad,H.fx.elems,H.fx.defs,H.fx.looks,H.fx.Lx,H.fx.CQ,H.fx.CO⟩,H.ks,H.ls,H.ins⟩
 |.cat x y k,cx,o,g,hs,H=>by
  simp only [Tree.ok,aT]at g
  obtain ⟨hl,v,hs⟩:=hs
  have D:Eo (vf.env T) x=some (B4 vf.e x):=by rw [E5];exact Gm g.1
  have Q:Eo (vf.env T) y=some (B4 vf.e y):=by rw [E5];exact Gm g.2.1
  exact B6 q C k g.2.2 hs ⟨⟨H.fx.DZ,H.fx.tests,H.fx.strs,Bz ⟨_,_,D,Q,congrArg some (v.str 0 (by simp)),hl⟩ H.fx.EK,H.fx.BA,H.fx.Ad,H.fx.elems,H.fx.defs,H.fx.looks,H.fx.Lx,H.fx.CQ,H.fx.CO⟩,H.ks,H.ls,H.ins⟩
 |.Az O sh k,cx,o,g,hs,H=>by
  simp only [Tree.ok,aT]at g
  obtain ⟨l,hl,v,hs⟩:=hs
  have J:vf.l.getD cx.cnt.l []=l:=v.lst 0 (by simp)
  have e2:vf.n.getD cx.cnt.n 0=(l.length:Int):=v.val 0 (by simp)
  have d:=Mz H.fx g.1 g.2.1 hl
  refine B6 q C k g.2.2 hs ⟨⟨H.fx.DZ,H.fx.tests,H.fx.strs,H.fx.EK,H.fx.BA,Bz ?_ H.fx.Ad,H.fx.elems,Bz ?_ H.fx.defs,H.fx.looks,H.fx.Lx,H.fx.CQ,H.fx.CO⟩,H.ks,H.ls,H.ins⟩
  ·show vf.n.getD cx.cnt.n 0=((vf.l.getD cx.cnt.l []).length:Int)
   rw [J,e2]
  ·show B9 _ _ (vf.l.getD cx.cnt.l [])
   rw [J];exact d
 |.look m key sh t e,cx,o,g,hs,H=>by
  simp only [Tree.ok,aT]at g
  have D:Eo (vf.env T) key=some (B4 vf.e key):=by rw [E5];exact Gm g.1
  rcases hs with ⟨O,w,N,R,v,hs⟩|⟨hn,hs⟩
  ·obtain ⟨d1,d2⟩:=Kp (T:=T) R v
   refine B6 q C t (cx:={cx with fx:={cx.fx with looks:=(m,key,some (Ny sh cx.cnt))::cx.fx.looks,Ad:=ME sh cx.cnt++cx.fx.Ad},cnt:=cx.cnt.add (HR sh)}) g.2.1 hs ⟨⟨H.fx.DZ,H.fx.tests,H.fx.strs,H.fx.EK,H.fx.BA,fun x D=>?_,H.fx.elems,H.fx.defs,Bz ⟨_,D,O,N,d1⟩ H.fx.looks,H.fx.Lx,H.fx.CQ,H.fx.CO⟩,H.ks,H.ls,H.ins⟩
   rcases List.mem_append.1 D with D|D
   ·exact d2 x D
   ·exact H.fx.Ad x D
  ·exact B6 q C e (cx:={cx with fx:={cx.fx with looks:=(m,key,none)::cx.fx.looks}}) g.2.2 hs ⟨⟨H.fx.DZ,H.fx.tests,H.fx.strs,H.fx.EK,H.fx.BA,H.fx.Ad,H.fx.elems,H.fx.defs,Bz ⟨_,D,hn⟩ H.fx.looks,H.fx.Lx,H.fx.CQ,H.fx.CO⟩,H.ks,H.ls,H.ins⟩
 |.up m key cs sh k,cx,o,g,hs,H=>by
  simp only [Tree.ok,aT]at g
  obtain ⟨O,N,v,hs⟩:=hs
  have D:Eo (vf.env T) key=some (B4 vf.e key):=by rw [E5];exact Gm g.1
  have J:vf.m.getD cx.cnt.m []=Bn (vf.m.getD m []) (B4 vf.e key) O:=v.map 0 (by simp)
  exact B6 q C k g.2.2.2 hs ⟨⟨H.fx.DZ,H.fx.tests,H.fx.strs,H.fx.EK,H.fx.BA,H.fx.Ad,H.fx.elems,H.fx.defs,H.fx.looks,Bz ⟨_,O,D,GH H.fx g.2.1 g.2.2.1 N,J⟩ H.fx.Lx,H.fx.CQ,H.fx.CO⟩,H.ks,H.ls,H.ins⟩
 |.LA es sh k,cx,o,g,hs,H=>by
  simp only [Tree.ok,aT]at g
  obtain ⟨l,hl,v,hs⟩:=hs
  have J:vf.m.getD cx.cnt.m []=l:=v.map 0 (by simp)
  have d:=JU H.fx g.1 hl
  refine B6 q C k g.2 hs ⟨⟨H.fx.DZ,H.fx.tests,H.fx.strs,H.fx.EK,H.fx.BA,H.fx.Ad,H.fx.elems,H.fx.defs,H.fx.looks,H.fx.Lx,H.fx.CQ,Bz ?_ H.fx.CO⟩,H.ks,H.ls,H.ins⟩
  show Abl _ _ (vf.m.getD cx.cnt.m [])
  rw [J];exact d
 |.bump t n k,cx,o,g,hs,H=>by
  simp only [Tree.ok]at g
  obtain ⟨U,v,hs⟩:=hs
  have J:vf.n.getD cx.cnt.n 0=t.den vf.e+n:=v.val 0 (by simp)
  refine B6 q C k g hs ⟨⟨H.fx.DZ,H.fx.tests,H.fx.strs,H.fx.EK,H.fx.BA,H.fx.Ad,H.fx.elems,H.fx.defs,H.fx.looks,H.fx.Lx,Bz ?_ H.fx.CQ,H.fx.CO⟩,H.ks,H.ls,H.ins⟩
  show t.den vf.e+n≤vf.n.getD cx.cnt.n 0∧vf.n.getD cx.cnt.n 0≤1048576
  rw [J];exact ⟨Int.le_refl _,U⟩
 |.BI z k,cx,o,g,hs,H=>by
  simp only [Tree.ok]at g
  exact B6 q C k g hs ⟨⟨H.fx.DZ,H.fx.tests,H.fx.strs,H.fx.EK,H.fx.BA,H.fx.Ad,H.fx.elems,H.fx.defs,H.fx.looks,H.fx.Lx,H.fx.CQ,H.fx.CO⟩,H.ks,H.ls,H.ins⟩
 |.call c alt τ u k e,cx,o,g,hs,H=>by
  simp only [Tree.ok,aT]at g
  rcases hs with ⟨w,R,v,hs⟩|hs
  ·obtain ⟨aj,ae,aa⟩:=Ab (F9.1 g.1)
   simp only [oI]at aa
   obtain ⟨H',ab⟩:=Cx.Yf C H ae R v
   exact B6 q C k aa (by rw [ab];exact hs) H'
  ·exact B6 q C e g.2 hs H
noncomputable def Spec.ok (S:List (Nat×Spec)) (run:Rm) (c:Spec) (t:Tree):Bool:=
 t.Cs c.ins&&t.ok S run c.f c.alts ⟨c.ins,{},[],LP {} c.ins⟩
theorem At.zero (v r:Ah):At (v.app r) {} v:=⟨{},r,rfl,by
 apply Ah.ext'<;>simp [Ah.app]⟩
theorem Tw {d:Spec} {t:Tree} (j:NH P T d.f run) (q:Good P T S M) (c:d.ok S run t=true) {v w:Ah} {a:Nat} (h:t.eval M v=some (a,w)) (g:v.cnt=d.ins):∃A,d.alts[a]?=some A∧w.cnt=A.outs∧A.w.Holds P ((v.app w).env T) d.f:=by
 unfold Spec.ok at c
 rw [aT]at c
 obtain ⟨r,o⟩:=B8 t (by rw [g];exact c.1) h
 rw [g]at o
 refine B6 (vf:=v.app r) (ins:=v) j q t c.2 o ⟨Ao.AL.none _,fun x k=>(by cases k),fun x k=>(by cases k),?_⟩
 have:=LO (At.zero v r)
 rw [g]at this
 exact this
def Abz (P:Program) (T:Nat→Option Obj) (S:List (Nat×Spec)) (trees:Nat→Tree):Prop:=
 ∀c g,Fk c S=some g→∃j run,(∀k d,Fk k j=some d→Fk k S=some d)∧NH P T g.f run∧g.ok j run (trees c)=true
theorem St {trees:Nat→Tree} (h:Abz P T S trees):∀N,Good P T S (mir trees N)
 |0=>fun c q _ v a w g _=>by cases g
 |N+1=>fun c q u v a w g z=>by
  have ih:=St h N
  obtain ⟨A,run,y,j,k⟩:=h c q u
  exact Tw j (fun x d o=>ih x d (y x d o)) k g z
end
end Go.AM
end
section
namespace Go.AM
def UL (P:Program) (pl:List C3) (i:Nat):Option EF:=
 match P.funcs[i]? with
 |some fn=>bif fn.name== "runtime.NumGoroutine" then none else ET P pl fn
 |none=>none
theorem SQ {P:Program} {pl:List C3} {i:Nat} {F:EF} (h:UL P pl i=some F):∃fn,P.funcs[i]?=some fn∧ET P pl fn=some F∧(fn.name== "runtime.NumGoroutine")=false:=by
 unfold UL at h
 split at h
 ·rename_i fn hf
  cases e:fn.name== "runtime.NumGoroutine" with
  |true=>rw [e]at h;cases h
  |false=>rw [e]at h;exact ⟨fn,hf,h,e⟩
 ·cases h
theorem all_cons {α:Type} {p:α→Prop} {x:α} {l:List α} (h:p x) (d:∀y∈l,p y):∀y∈x::l,p y:=fun y c=>by
 rcases List.mem_cons.1 c with rfl|c
 ·exact h
 ·exact d y c
theorem all_nil {α:Type} {p:α→Prop}:∀y∈([]:List α),p y:=fun y c=>by cases c
end Go.AM
end
section
namespace Go.AM
def RY (g:Nat):List (Nat×BC)→List BC
 |[]=>[]
 |x::r=>bif Nat.beq x.1 g then x.2::RY g r else RY g r
noncomputable def XB (ks:List (Nat×BC)):List (Nat×BC)→List (Nat×By)→List (Nat×By)
 |[],l=>l
 |x::r,l=>(x.1,JW (RY x.1 ks))::XB ks r l
noncomputable def Es (DR:FuncId→Option EF) (fixed:Ao→List (Nat×By)) (fuel d c f:Nat):Rm:=fun Γ ks w j=>
 match w with
 |.call x=>Zv Γ x j (AdV Γ (fun g=>Sb g (XB ks ks (fixed Γ))) DR fuel d f x.args (Bi x.pre (empty c Γ)))
 |.loop k=>match DR f with
  |some F=>TJ Γ k j (Qu Γ (Lp Γ.bare (fun g=>Sb g (XB ks ks (fixed Γ))) DR fuel d) fuel c F k)
  |none=>false
section
variable {P:Program} {pl:List C3} {T:Nat→Option Obj} {DR:FuncId→Option EF} {fixed:Ao→List (Nat×By)}
theorem Kr {g:Nat} {x:BC}:∀{l:List (Nat×BC)},x∈RY g l→(g,x)∈l
 |[],h=>by cases h
 |y::r,h=>by
  simp only [RY]at h
  cases hc:Nat.beq y.1 g with
  |true=>
   rw [hc]at h
   simp only [cond_true,List.mem_cons]at h
   have e:=An.1 hc
   rcases h with rfl|h
   ·rw [←e];exact List.mem_cons_self
   ·exact List.mem_cons_of_mem _ (Kr h)
  |false=>rw [hc]at h;exact List.mem_cons_of_mem _ (Kr h)
theorem M3 {ρ:Env} {ks:List (Nat×BC)} (c:∀x∈ks,Go.AM.Holds P ρ x.1 x.2) {l:List (Nat×By)} (hl:∀x∈l,CD P ρ x.1 x.2):∀(r:List (Nat×BC)),∀x∈XB ks r l,CD P ρ x.1 x.2
 |[],x,hx=>hl x hx
 |y::r,x,hx=>by
  simp only [XB,List.mem_cons]at hx
  rcases hx with rfl|hx
  ·exact HN fun z d=>c _ (Kr d)
  ·exact M3 c hl r x hx
theorem ON (q:P.follows .mixedOrders=true) (y:Py P pl DR) (z:∀Γ (ρ:Env),ρ.AY=T→Γ.AL ρ→∀x∈fixed Γ,CD P ρ x.1 x.2) (fuel d J f:Nat):NH P T f (Es DR fixed fuel d J f):=by
 intro Γ ks w M ρ D v A j c
 have u:∀g o,Sb g (XB ks ks (fixed Γ))=some o→CD P ρ g o:=fun g o H=>M3 A (z Γ ρ D v) ks _ (OL H)
 cases w with
 |call x=>exact Q5 v (Tm v q y u d (Uf j)) c
 |loop k=>
  simp only [Es]at c
  split at c
  ·rename_i F C
   exact NZ v (HV v.bare rfl q y u d) q y C j c
  ·cases c
end
theorem UR {r g:Option Out} (q:∀o,r=some o→g=some o) {c:Nat} {u:C5} {k j:Ah→Option Out} (v:∀w o,k w=some o→j w=some o) {e d:Option Out} (x:∀o,e=some o→d=some o) {o:Out} (h:Lq r c u k e=some o):Lq g c u j d=some o:=by
 unfold Lq at h⊢
 cases hr':r with
 |none=>rw [hr']at h;cases h
 |some w=>
  rw [hr']at h
  rw [q w hr']
  simp only at h⊢
  split at h
  ·rename_i ha;rw [if_pos ha];exact v _ _ h
  ·rename_i ha;rw [if_neg ha];exact x _ h
theorem UE {l:List (List PV)} {j:Int} {c:List CK} {k d:Ah→Option Out} (g:∀w o,k w=some o→d w=some o) {o:Out} (h:Nn l j c k=some o):Nn l j c d=some o:=by
 unfold Nn at h⊢
 split at h
 ·rename_i q
  rw [if_pos q]
  cases hg:l[j.toNat]? with
  |none=>rw [hg]at h;cases h
  |some ps=>
   rw [hg]at h
   simp only at h⊢
   cases hr:Da c ps with
   |none=>rw [hr]at h;cases h
   |some w=>rw [hr]at h;exact g _ _ h
 ·cases h
theorem Uj {m:List (List Nat×List PV)} {s:List Nat} {c:List CK} {k g:Ah→Option Out} (j:∀w o,k w=some o→g w=some o) {e d:Option Out} (q:∀o,e=some o→d=some o) {o:Out} (h:IU m s c k e=some o):IU m s c g d=some o:=by
 unfold IU at h⊢
 cases hg:BO m s with
 |none=>rw [hg]at h;exact q _ h
 |some ps=>
  rw [hg]at h
  simp only at h⊢
  cases hr:Da c ps with
  |none=>rw [hr]at h;cases h
  |some w=>rw [hr]at h;exact j _ _ h
theorem IM {α:Type} {r:Option α} {k c:α→Option Out} (d:∀w o,k w=some o→c w=some o) {o:Out} (h:Hw r k=some o):Hw r c=some o:=by
 unfold Hw at h⊢
 cases r with
 |none=>cases h
 |some a=>exact d _ _ h
theorem EB {c:Prop} [Decidable c] {a d b g:Option Out} (ha:∀o,a=some o→d=some o) (hb:∀o,b=some o→g=some o) {o:Out} (h:(if c then a else b)=some o):(if c then d else g)=some o:=by
 split at h
 ·rename_i hc;rw [if_pos hc];exact ha _ h
 ·rename_i hc;rw [if_neg hc];exact hb _ h
theorem Ba {M M':Vf} (d:∀c v o,M c v=some o→M' c v=some o):∀(t:Tree) (v:Ah) (o:Out),t.eval M v=some o→t.eval M' v=some o
 |.fail,_,_,h=>by cases h
 |.leaf _ _ _,_,_,h=>h
 |.test _ _ _ t e,v,_,h=>EB (Ba d t v) (Ba d e v) h
 |.Ay _ _ t e,v,_,h=>EB (Ba d t v) (Ba d e v) h
 |.sets _ _ t e,v,_,h=>EB (Ba d t v) (Ba d e v) h
 |.elem _ _ _ k,v,_,h=>UE (fun w=>Ba d k (v.app w)) h
 |.Ad _ _ k,v,_,h=>EB (Ba d k v) (fun _ h=>h) h
 |.BA s _ _ k,v,_,h=>EB (Ba d k (v.app {n:=[((v.s.getD s []).length:Int)]})) (fun _ h=>h) h
 |.Fe _ _ t e,v,_,h=>EB (Ba d t v) (Ba d e v) h
 |.cat x y k,v,_,h=>EB (Ba d k (v.app {s:=[B4 v.e x++B4 v.e y]})) (fun _ h=>h) h
 |.Az _ _ k,v,_,h=>IM (fun l=>Ba d k (v.app {n:=[(l.length:Int)],l:=[l]})) h
 |.look _ _ _ t e,v,_,h=>Uj (fun w=>Ba d t (v.app w)) (Ba d e v) h
 |.up m key _ _ k,v,_,h=>IM (fun g=>Ba d k (v.app {m:=[Bn (v.m.getD m []) (B4 v.e key) g]})) h
 |.LA _ _ k,v,_,h=>IM (fun l=>Ba d k (v.app {m:=[l]})) h
 |.bump t n k,v,_,h=>EB (Ba d k (v.app {n:=[t.den v.e+n]})) (fun _ h=>h) h
 |.BI _ k,v,_,h=>Ba d k v _ h
 |.call c _ τ _ k e,v,_,h=>UR (d c (τ.vals v.e)) (fun w=>Ba d k (v.app w)) (Ba d e v) h
theorem Sj {trees:Nat→Tree}:∀(N c:Nat) (v:Ah) (o:Out),mir trees N c v=some o→mir trees (N+1) c v=some o
 |0,_,_,_,h=>by cases h
 |N+1,c,v,o,h=>Ba (Sj N) (trees c) v o h
theorem Qr {trees:Nat→Tree} {N d:Nat} (h:N≤d) {c:Nat} {v:Ah} {o:Out} (g:mir trees N c v=some o):mir trees d c v=some o:=by
 induction h with
 |refl=>exact g
 |step _ ih=>exact Sj _ _ _ _ ih
def Eg (trees:Nat→Tree) (c:Nat) (v:Ah) (Q:Out→Prop):Prop:=∃N o,mir trees N c v=some o∧Q o
abbrev AfB:=Nat→Ah→(Out→Prop)→Prop
def WR (l:List (List PV)) (j:Int) (c:List CK) (k:Ah→Prop):Prop:=
 0≤j∧match l[j.toNat]? with
  |some ps=>(match Da c ps with|some w=>k (w.fit (HR c)) |none=>False)
  |none=>False
def OQ (m:List (List Nat×List PV)) (s:List Nat) (c:List CK) (k:Ah→Prop) (e:Prop):Prop:=
 match BO m s with
 |some ps=>(match Da c ps with|some w=>k (w.fit (HR c)) |none=>False)
 |none=>e
def J1 {α:Type} (r:Option α) (k:α→Prop):Prop:=
 match r with
 |some a=>k a
 |none=>False
abbrev Ai0 (g:(Out→Prop)→Prop) (c:Nat) (u:C5) (k:Ah→Prop) (e:Prop):Prop:=g fun o=>if o.1=c then k (o.2.fit u)else e
def Tree.wp (G:AfB) (Q:Out→Prop):Tree→Ah→Prop
 |.fail,_=>False
 |.leaf alt _ τ,v=>Q (alt,τ.vals v.e)
 |.test op a b t e,v=>if LV op (a.den v.e) (b.den v.e)then t.wp G Q v else e.wp G Q v
 |.Ay i n t e,v=>if v.n.getD i 0=n then t.wp G Q v else e.wp G Q v
 |.sets i s t e,v=>if v.s.getD i []=s then t.wp G Q v else e.wp G Q v
 |.elem l j sh k,v=>WR (v.l.getD l []) (j.den v.e) sh fun w=>k.wp G Q (v.app w)
 |.Ad l t k,v=>if t.den v.e=((v.l.getD l []).length:Int)then k.wp G Q v else False
 |.BA s lo hi k,v=>if lo≤(v.s.getD s []).length∧(v.s.getD s []).length≤hi then k.wp G Q (v.app {n:=[((v.s.getD s []).length:Int)]})else False
 |.Fe x y t e,v=>if B4 v.e x=B4 v.e y then t.wp G Q v else e.wp G Q v
 |.cat x y k,v=>if (B4 v.e x).length+(B4 v.e y).length≤1048576 then k.wp G Q (v.app {s:=[B4 v.e x++B4 v.e y]})else False
 |.Az d sh k,v=>J1 (CH v.e sh d) fun l=>k.wp G Q (v.app {n:=[(l.length:Int)],l:=[l]})
 |.look m key sh t e,v=>OQ (v.m.getD m []) (B4 v.e key) sh (fun w=>t.wp G Q (v.app w)) (e.wp G Q v)
 |.up m key cs sh k,v=>J1 (CC v.e sh cs) fun d=>k.wp G Q (v.app {m:=[Bn (v.m.getD m []) (B4 v.e key) d]})
 |.LA es sh k,v=>J1 (CP v.e sh es) fun l=>k.wp G Q (v.app {m:=[l]})
 |.bump t n k,v=>if t.den v.e+n≤1048576 then k.wp G Q (v.app {n:=[t.den v.e+n]})else False
 |.BI _ k,v=>k.wp G Q v
 |.call c alt τ u k e,v=>Ai0 (G c (τ.vals v.e)) alt u (fun w=>k.wp G Q (v.app w)) (e.wp G Q v)
theorem BP {trees:Nat→Tree} {Q:Out→Prop}:∀(t:Tree) (v:Ah),t.wp (Eg trees) Q v→∃N o,t.eval (mir trees N) v=some o∧Q o
 |.fail,_,h=>h.elim
 |.leaf alt _ τ,v,h=>⟨0,_,rfl,h⟩
 |.test op a b t e,v,h=>by
  simp only [Tree.wp]at h
  simp only [Tree.eval]
  split at h
  ·rename_i hc;simp only [if_pos hc];exact BP t v h
  ·rename_i hc;simp only [if_neg hc];exact BP e v h
 |.Ay i n t e,v,h=>by
  simp only [Tree.wp]at h
  simp only [Tree.eval]
  split at h
  ·rename_i hc;simp only [if_pos hc];exact BP t v h
  ·rename_i hc;simp only [if_neg hc];exact BP e v h
 |.sets i s t e,v,h=>by
  simp only [Tree.wp]at h
  simp only [Tree.eval]
  split at h
  ·rename_i hc;simp only [if_pos hc];exact BP t v h
  ·rename_i hc;simp only [if_neg hc];exact BP e v h
 |.elem l j sh k,v,h=>by
  simp only [Tree.wp,WR]at h
  obtain ⟨D,h⟩:=h
  simp only [Tree.eval,Nn,if_pos D]
  cases hg:(v.l.getD l [])[(j.den v.e).toNat]? with
  |none=>rw [hg]at h;exact h.elim
  |some ps=>
   rw [hg]at h
   simp only at h⊢
   cases hr:Da sh ps with
   |none=>rw [hr]at h;exact h.elim
   |some w=>rw [hr]at h;exact BP k _ h
 |.Ad l t k,v,h=>by
  simp only [Tree.wp]at h
  simp only [Tree.eval]
  split at h
  ·rename_i hc;simp only [if_pos hc];exact BP k _ h
  ·exact h.elim
 |.BA s lo hi k,v,h=>by
  simp only [Tree.wp]at h
  simp only [Tree.eval]
  split at h
  ·rename_i hc;simp only [if_pos hc];exact BP k _ h
  ·exact h.elim
 |.Fe x y t e,v,h=>by
  simp only [Tree.wp]at h
  simp only [Tree.eval]
  split at h
  ·rename_i hc;simp only [if_pos hc];exact BP t v h
  ·rename_i hc;simp only [if_neg hc];exact BP e v h
 |.cat x y k,v,h=>by
  simp only [Tree.wp]at h
  simp only [Tree.eval]
  split at h
  ·rename_i hc;simp only [if_pos hc];exact BP k _ h
  ·exact h.elim
 |.Az ps sh k,v,h=>by
  simp only [Tree.wp,J1]at h
  simp only [Tree.eval,Hw]
  cases hg:CH v.e sh ps with
  |none=>rw [hg]at h;exact h.elim
  |some l=>rw [hg]at h;exact BP k _ h
 |.look m key sh t e,v,h=>by
  simp only [Tree.wp,OQ]at h
  simp only [Tree.eval,IU]
  cases hg:BO (v.m.getD m []) (B4 v.e key)with
  |none=>rw [hg]at h;exact BP e _ h
  |some ps=>
   rw [hg]at h
   simp only at h⊢
   cases hr:Da sh ps with
   |none=>rw [hr]at h;exact h.elim
   |some w=>rw [hr]at h;exact BP t _ h
 |.up m key cs sh k,v,h=>by
  simp only [Tree.wp,J1]at h
  simp only [Tree.eval,Hw]
  cases hg:CC v.e sh cs with
  |none=>rw [hg]at h;exact h.elim
  |some l=>rw [hg]at h;exact BP k _ h
 |.LA es sh k,v,h=>by
  simp only [Tree.wp,J1]at h
  simp only [Tree.eval,Hw]
  cases hg:CP v.e sh es with
  |none=>rw [hg]at h;exact h.elim
  |some l=>rw [hg]at h;exact BP k _ h
 |.bump t n k,v,h=>by
  simp only [Tree.wp]at h
  simp only [Tree.eval]
  split at h
  ·rename_i hc;simp only [if_pos hc];exact BP k _ h
  ·exact h.elim
 |.BI _ k,v,h=>by
  simp only [Tree.wp]at h
  exact BP k v h
 |.call c alt τ u k e,v,h=>by
  simp only [Tree.wp]at h
  obtain ⟨N,o,C,g⟩:=h
  split at g
  ·rename_i ha
   obtain ⟨d,A,z,q⟩:=BP k _ g
   refine ⟨max N d,A,?_,q⟩
   simp only [Tree.eval,Lq,Qr (Nat.le_max_left N d) C,if_pos ha]
   exact Ba (fun _ _ _=>Qr (Nat.le_max_right N d)) k _ _ z
  ·rename_i ha
   obtain ⟨d,A,z,q⟩:=BP e _ g
   refine ⟨max N d,A,?_,q⟩
   simp only [Tree.eval,Lq,Qr (Nat.le_max_left N d) C,if_neg ha]
   exact Ba (fun _ _ _=>Qr (Nat.le_max_right N d)) e _ _ z
theorem Sw {trees:Nat→Tree} {c:Nat} {v:Ah} {Q:Out→Prop} (h:(trees c).wp (Eg trees) Q v):Eg trees c v Q:=by
 obtain ⟨N,o,d,g⟩:=BP _ _ h
 exact ⟨N+1,o,d,g⟩
theorem Eg.elim {trees:Nat→Tree} {c:Nat} {v:Ah} {R:Out→Prop} (h:Eg trees c v R):∃o,R o∧∀Q:Out→Prop,Q o→Eg trees c v Q:=by
 obtain ⟨N,o,d,g⟩:=h
 exact ⟨o,g,fun Q j=>⟨N,o,d,j⟩⟩
def Y7 (c:Nat):List (Nat×Tree)→Tree
 |[]=>.fail
 |x::r=>bif Nat.beq x.1 c then x.2 else Y7 c r
def Abk (P:Program) (T:Nat→Option Obj) (S:List (Nat×Spec)) (g:Spec) (t:Tree):Prop:=
 ∃d run,(∀j c,Fk j d=some c→Fk j S=some c)∧NH P T g.f run∧g.ok d run t=true
def Sub (g S:List (Nat×Spec)):Prop:=∀d c,Fk d g=some c→Fk d S=some c
theorem Ai {S:List (Nat×Spec)}:Sub [] S:=fun _ _ h=>by cases h
theorem YC {g S:List (Nat×Spec)} {c:Nat} {j:Spec} (h:Fk c S=some j) (k:Sub g S):Sub ((c,j)::g) S:=fun o q d=>by
 simp only [Fk]at d
 cases e:Nat.beq c o with
 |true=>
  rw [e]at d
  simp only [cond_true,oI]at d
  rw [←d,←An.1 e];exact h
 |false=>rw [e]at d;exact k _ _ d
def Ab0 (P:Program) (T:Nat→Option Obj) (S:List (Nat×Spec)) (tr:Nat→Tree):List (Nat×Spec)→Prop
 |[]=>True
 |x::r=>Abk P T S x.2 (tr x.1)∧Ab0 P T S tr r
theorem Pf {c:Nat} {d:Spec}:∀{l:List (Nat×Spec)},Fk c l=some d→(c,d)∈l
 |[],h=>by cases h
 |x::r,h=>by
  simp only [Fk]at h
  cases e:Nat.beq x.1 c with
  |true=>
   rw [e]at h
   simp only [cond_true,oI]at h
   rw [←An.1 e,←h];exact List.mem_cons_self
  |false=>rw [e]at h;exact List.mem_cons_of_mem _ (Pf h)
theorem Ab0.mem {P:Program} {T:Nat→Option Obj} {S:List (Nat×Spec)} {tr:Nat→Tree}:∀{l:List (Nat×Spec)},Ab0 P T S tr l→∀x∈l,Abk P T S x.2 (tr x.1)
 |[],_,x,hx=>by cases hx
 |y::r,h,x,hx=>by
  rcases List.mem_cons.1 hx with rfl|hx
  ·exact h.1
  ·exact Ab0.mem h.2 x hx
theorem AaV {P:Program} {T:Nat→Option Obj} {S:List (Nat×Spec)} {tr:Nat→Tree} (h:Ab0 P T S tr S):Abz P T S tr:=fun c d hc=>h.mem (c,d) (Pf hc)
def Tree.parts:Nat→Tree→Cx→List (Tree×Cx)
 |d+1,.test op a b t e,cx=>t.parts d (cx.test op a b true)++e.parts d (cx.test op a b false)
 |_,t,cx=>[(t,cx)]
theorem Tree.My {S:List (Nat×Spec)} {run:Rm} {f:Nat} {alts:List Alt}:∀(d:Nat) (t:Tree) (cx:Cx),(∀p∈t.parts d cx,p.1.ok S run f alts p.2=true)→t.ok S run f alts cx=true
 |0,t,cx,h=>by cases t<;>exact h _ List.mem_cons_self
 |d+1,t,cx,h=>by
  cases t with
  |test op a b t e=>
   simp only [Tree.parts,List.mem_append]at h
   simp only [Tree.ok,aT]
   exact ⟨Tree.My d t _ fun p c=>h p (.inl c),Tree.My d e _ fun p c=>h p (.inr c)⟩
  |_=>exact h _ List.mem_cons_self
noncomputable def Spec.Ql (S:List (Nat×Spec)) (run:Rm) (c:Spec) (t:Tree) (d n i:Nat):Bool:=
 Co (fun p:Tree×Cx=>p.1.ok S run c.f c.alts p.2) (((t.parts d ⟨c.ins,{},[],LP {} c.ins⟩).drop (n*i)).take n)
theorem Spec.AgD {S:List (Nat×Spec)} {run:Rm} {c:Spec} {t:Tree} (d n k:Nat) (hb:t.Cs c.ins=true) (hl:Nat.ble (t.parts d ⟨c.ins,{},[],LP {} c.ins⟩).length (n*k)=true) (h:∀i,i<k→c.Ql S run t d n i=true):c.ok S run t=true:=by
 unfold Spec.ok
 rw [aT]
 refine ⟨hb,Tree.My d t _ fun p v=>?_⟩
 obtain ⟨j,q⟩:=List.mem_iff_getElem?.1 v
 have x:=(List.getElem?_eq_some_iff.1 q).1
 have hl:=Nat.le_of_ble_eq_true hl
 have g:0<n:=by
  rcases Nat.eq_zero_or_pos n with e|e
  ·subst e;rw [Nat.zero_mul]at hl;omega
  ·exact e
 have o:=Nat.div_add_mod j n
 have u:=Nat.mod_lt j g
 refine Gi (h (j/n) ?_) p (List.mem_iff_getElem?.2 ⟨j%n,?_⟩)
 ·exact (Nat.div_lt_iff_lt_mul g).2 (by rw [Nat.mul_comm];omega)
 ·rw [List.getElem?_take,if_pos u,List.getElem?_drop,o];exact q
end Go.AM
end
