/- Part 4 of the proof of TypesRenames. -/
import Derived.Test.YtbmofjdmgjpfoaaGreatDoorE3
set_option linter.all false
section
namespace Go.AM
def Env.of (AS:Nat→Option Obj) (n:List Int) (s:List (List Nat)) (l:List (List (List PV))) (m:List (List (List Nat×List PV))):Env:=
 {val:=fun i=>n.getD i 0,AS:=AS,str:=fun i=>s.getD i [],lst:=fun i=>l.getD i [],map:=fun i=>m.getD i []}
structure Dd where
 n:List ST:=[]
 s:List Aa:=[]
 l:List Nat:=[]
 m:List Nat:=[]
def Br (ρ:Env) (v:Aa):List Nat:=(Et ρ v).getD []
def Env.sub (ρ:Env) (τ:Dd):Env:=Env.of ρ.AS (τ.n.map (·.den ρ)) (τ.s.map (Br ρ)) (τ.l.map ρ.lst) (τ.m.map ρ.map)
def ST.sub (τ:Dd):ST→Option ST
 |.lit n=>some (.lit n)
 |.var i=>τ.n[i]?
 |.bin op k a b=>match a.sub τ,b.sub τ with
  |some a,some b=>some (.bin op k a b)
  |_,_=>none
 |.conv k a=>(a.sub τ).map (.conv k)
def AeY (op:BinOp) (a b:ST):SB:=
 match a,b with
 |.lit x,.lit y=>(match AcD op x y with|some v=>.lit v|none=>.cmp op (.lit x) (.lit y))
 |a,b=>.cmp op a b
theorem TY {ρ:Env} (op:BinOp) (a b:ST):(AeY op a b).den ρ=(SB.cmp op a b).den ρ:=by
 unfold AeY
 split
 ·split
  ·rename_i x y v h
   simp only [SB.den,ST.den]
   exact (NV h).1
  ·rfl
 ·rfl
def SB.sub (τ:Dd):SB→Option SB
 |.lit b=>some (.lit b)
 |.cmp op a b=>match a.sub τ,b.sub τ with
  |some a,some b=>some (AeY op a b)
  |_,_=>none
 |.no a=>(a.sub τ).map .no
def Aa.isStr:Aa→Bool
 |.str _=>true
 |.svar _=>true
 |_=>false
def Aa.Uy (τ:Dd):Aa→Option Aa
 |.bool b=>(b.sub τ).map .bool
 |.int k n=>(n.sub τ).map (.int k)
 |.str s=>some (.str s)
 |.ptr b o=>some (.ptr b o)
 |.nilPtr=>some .nilPtr
 |.slice b o l c=>some (.slice b o l c)
 |.gslice b o l e=>some (.gslice b o l e)
 |.nilSlice=>some .nilSlice
 |.map b=>some (.map b)
 |.nilMap=>some .nilMap
 |.nilFunc=>some .nilFunc
 |.nilIface=>some .nilIface
 |.gbytes b=>some (.gbytes b)
 |.svar i=>match τ.s[i]? with
  |some v=>if v.isStr then some v else none
  |none=>none
 |.lst f i es n=>match τ.l[i]?,n.sub τ with
  |some j,some n=>some (.lst f j es n)
  |_,_=>none
 |.lptr i j o=>match τ.l[i]?,j.sub τ with
  |some k,some j=>some (.lptr k j o)
  |_,_=>none
 |.vec b es n=>(n.sub τ).map (.vec b es)
 |.vptr b es j o=>(j.sub τ).map fun j=>.vptr b es j o
 |.anyStr n=>some (.anyStr n)
 |_=>none
def M9 (τ:Dd):List Aa→Option (List Aa)
 |[]=>some []
 |v::r=>match v.Uy τ,M9 τ r with
  |some v,some r=>some (v::r)
  |_,_=>none
def Aa.YC (τ:Dd):Aa→Option Aa
 |.func f a c=>match M9 τ a,M9 τ c with
  |some a,some c=>some (.func f a c)
  |_,_=>none
 |v=>v.Uy τ
def SE (τ:Dd):List Entry→Option (List Entry)
 |[]=>some []
 |e::r=>match e.key.YC τ,e.val.YC τ,SE τ r with
  |some k,some v,some es=>some (⟨k,v,e.born⟩::es)
  |_,_,_=>none
def Aa.Ahm (τ:Dd):Aa→Option Aa
 |.agg cs=>(M9 τ cs).map .agg
 |v=>v.YC τ
def SD (τ:Dd):List Aa→Option (List Aa)
 |[]=>some []
 |v::r=>match v.Ahm τ,SD τ r with
  |some v,some r=>some (v::r)
  |_,_=>none
def Aa.SC (τ:Dd):Aa→Option Aa
 |.agg cs=>(M9 τ cs).map .agg
 |.tuple cs=>(SD τ cs).map .tuple
 |v=>v.YC τ
def Pf (τ:Dd):List Aa→Option (List Aa)
 |[]=>some []
 |v::r=>match v.SC τ,Pf τ r with
  |some v,some r=>some (v::r)
  |_,_=>none
def Block.sub (τ:Dd):Block→Option Block
 |.cells vs=>(M9 τ vs).map .cells
 |.typed e vs=>(M9 τ vs).map (.typed e)
 |.bytes n e=>some (.bytes n e)
 |.sbytes t e=>(t.sub τ).map fun t=>.sbytes t e
 |.list i d=>(τ.l[i]?).map fun j=>.list j d
 |.smap i=>(τ.m[i]?).map .smap
 |.map d c=>(SE τ d).map fun d=>.map d c
def IL (τ:Dd):List Block→Option (List Block)
 |[]=>some []
 |B::r=>match B.sub τ,IL τ r with
  |some B,some r=>some (B::r)
  |_,_=>none
def IK (τ:Dd):List (Option Block)→Option (List (Option Block))
 |[]=>some []
 |none::r=>(IK τ r).map (none::·)
 |some B::r=>match B.sub τ,IK τ r with
  |some B,some r=>some (some B::r)
  |_,_=>none
def BA.sub (τ:Dd) (x:BA):Option BA:=
 match Pf τ x.args,IL τ x.pre,x.res.SC τ,IK τ x.post with
 |some args,some pre,some res,some post=>some ⟨args,pre,res,post⟩
 |_,_,_,_=>none
section
variable {ρ:Env} {μ:Ap} {τ:Dd}
theorem getD_map {α β:Type} {f:α→β} {l:List α} {i:Nat} {x:α} {d:β} (h:l[i]?=some x):(l.map f).getD i d=f x:=by
 rw [List.getD_eq_getElem?_getD,List.getElem?_map,h];rfl
theorem ST.CY:∀{t u:ST},t.sub τ=some u→u.den ρ=t.den (ρ.sub τ)
 |.lit n,u,h=>by simp only [ST.sub,oI]at h;subst h;rfl
 |.var i,u,h=>by
  simp only [ST.sub]at h
  exact (getD_map (f:=fun x:ST=>x.den ρ) h).symm
 |.bin op k a b,u,h=>by
  simp only [ST.sub]at h
  split at h
  ·rename_i c d ha hb
   simp only [oI]at h
   subst h
   simp only [ST.den,ST.CY ha,ST.CY hb]
  ·cases h
 |.conv k a,u,h=>by
  simp only [ST.sub]at h
  obtain ⟨c,ha,rfl⟩:=mS h
  simp only [ST.den,ST.CY ha]
theorem SB.CY:∀{t u:SB},t.sub τ=some u→u.den ρ=t.den (ρ.sub τ)
 |.lit n,u,h=>by simp only [SB.sub,oI]at h;subst h;rfl
 |.cmp op a b,u,h=>by
  simp only [SB.sub]at h
  split at h
  ·rename_i c d ha hb
   simp only [oI]at h
   subst h
   rw [TY]
   simp only [SB.den,ST.CY ha,ST.CY hb]
  ·cases h
 |.no a,u,h=>by
  simp only [SB.sub]at h
  obtain ⟨c,ha,rfl⟩:=mS h
  simp only [SB.den,SB.CY ha]
theorem DV {p a:Aa} (h:p.Uy τ=some a) {u:Value}:(Ag (ρ.sub τ) μ p u↔Ag ρ μ a u)∧a.single=p.single:=by
 cases p<;>simp only [Aa.Uy,oI,reduceCtorEq]at h
 case bool b=>
  obtain ⟨y,hb,rfl⟩:=mS h
  simp only [Ag,SB.CY (ρ:=ρ) hb,Aa.single,and_self]
 case int k n=>
  obtain ⟨g,c,rfl⟩:=mS h
  simp only [Ag,ST.CY (ρ:=ρ) c,Aa.single,and_self]
 case svar i=>
  split at h
  ·rename_i v hv
   split at h
   ·rename_i hs
    simp only [oI]at h
    subst h
    have e:(ρ.sub τ).str i=Br ρ v:=getD_map (f:=Br ρ) hv
    cases v<;>simp only [Aa.isStr,Bool.false_eq_true]at hs
    case str s=>simp only [Ag,e,Br,Et,Option.getD_some,Aa.single,and_self]
    case svar j=>simp only [Ag,e,Br,Et,Option.getD_some,Aa.single,and_self]
   ·cases h
  ·cases h
 case lst f i es n=>
  split at h
  ·rename_i j g d c
   simp only [oI]at h
   subst h
   have e:(ρ.sub τ).lst i=ρ.lst j:=getD_map (f:=ρ.lst) d
   simp only [Ag,e,ST.CY (ρ:=ρ) c,Aa.single,and_self]
  ·cases h
 case lptr i j o=>
  split at h
  ·rename_i k j' x d
   simp only [oI]at h
   subst h
   have e:(ρ.sub τ).lst i=ρ.lst k:=getD_map (f:=ρ.lst) x
   simp only [Ag,e,ST.CY (ρ:=ρ) d,Aa.single,and_self]
  ·cases h
 case vec b es n=>
  obtain ⟨g,c,rfl⟩:=mS h
  simp only [Ag,ST.CY (ρ:=ρ) c,Aa.single,and_self]
 case vptr b es j o=>
  obtain ⟨g,c,rfl⟩:=mS h
  simp only [Ag,ST.CY (ρ:=ρ) c,Aa.single,and_self]
 all_goals
  subst h
  simp only [Ag,Aa.single,and_self]
theorem YB (v:Aa) (r:List Aa):M9 τ (v::r)=match v.Uy τ,M9 τ r with
  |some v,some r=>some (v::r)
  |_,_=>none:=rfl
theorem Fq:∀{l r:List Aa},M9 τ l=some r→l.length=r.length∧(∀{us:List Value},Aw (ρ.sub τ) μ l us↔Aw ρ μ r us)∧(∀{us:List Value},A7 (ρ.sub τ) μ l us↔A7 ρ μ r us)∧
  ∀(i:Nat),(∀p,l[i]?=some p→∃a,r[i]?=some a∧p.Uy τ=some a)∧(∀a,r[i]?=some a→∃p,l[i]?=some p∧p.Uy τ=some a)
 |[],r,h=>by
  simp only [M9,oI]at h
  subst h
  exact ⟨rfl,by simp only [Aw,implies_true],by simp only [A7,implies_true],fun i=>⟨fun p h=>by simp at h,fun p h=>by simp at h⟩⟩
 |v::l,r,h=>by
  rw [YB]at h
  split at h
  ·rename_i k z hv y
   simp only [oI]at h
   subst h
   obtain ⟨o,g,j,x⟩:=Fq y
   refine ⟨by simp [o],fun {us}=>?_,fun {us}=>?_,fun i=>?_⟩
   ·simp only [Aw]
    constructor
    ·rintro ⟨u,rest,rfl,⟨h1,h2⟩,h3⟩
     obtain ⟨c,d⟩:=DV (ρ:=ρ) (μ:=μ) hv (u:=u)
     exact ⟨u,rest,rfl,⟨by rw [d];exact h1,c.1 h2⟩,g.1 h3⟩
    ·rintro ⟨u,rest,rfl,⟨h1,h2⟩,h3⟩
     obtain ⟨c,d⟩:=DV (ρ:=ρ) (μ:=μ) hv (u:=u)
     exact ⟨u,rest,rfl,⟨by rw [←d];exact h1,c.2 h2⟩,g.2 h3⟩
   ·simp only [A7]
    constructor
    ·rintro ⟨u,rest,rfl,h2,h3⟩
     obtain ⟨c,d⟩:=DV (ρ:=ρ) (μ:=μ) hv (u:=u)
     exact ⟨u,rest,rfl,c.1 h2,j.1 h3⟩
    ·rintro ⟨u,rest,rfl,h2,h3⟩
     obtain ⟨c,d⟩:=DV (ρ:=ρ) (μ:=μ) hv (u:=u)
     exact ⟨u,rest,rfl,c.2 h2,j.2 h3⟩
   ·cases i with
    |zero=>
     simp only [List.getElem?_cons_zero,oI]
     exact ⟨fun p e=>⟨k,rfl,e▸hv⟩,fun a e=>⟨v,rfl,e▸hv⟩⟩
    |succ i=>simpa using x i
  ·cases h
theorem HE {p a:Aa} (h:p.YC τ=some a) {u:Value}:(Ag (ρ.sub τ) μ p u↔Ag ρ μ a u)∧a.single=p.single:=by
 unfold Aa.YC at h
 split at h
 ·split at h
  ·rename_i x y g j
   simp only [oI]at h
   subst h
   obtain ⟨_,_,c,_⟩:=Fq (ρ:=ρ) (μ:=μ) g
   obtain ⟨_,_,d,_⟩:=Fq (ρ:=ρ) (μ:=μ) j
   simp only [Ag,c,d,Aa.single,and_self]
  ·cases h
 ·exact DV h
theorem Pj:∀{l r:List Entry} {ms:List MapEntry},SE τ l=some r→(Ca (ρ.sub τ) μ l ms↔Ca ρ μ r ms)
 |[],r,ms,h=>by
  simp only [SE,oI]at h
  subst h
  simp only [Ca]
 |e::l,r,ms,h=>by
  simp only [SE]at h
  split at h
  ·rename_i k v g c hv d
   simp only [oI]at h
   subst h
   simp only [Ca,Ads,(HE (ρ:=ρ) (μ:=μ) c).1,(HE (ρ:=ρ) (μ:=μ) (u:=.bool true) c).2,(HE (ρ:=ρ) (μ:=μ) hv).1,Pj d]
  ·cases h
theorem ZY {p a:Aa} (h:p.Ahm τ=some a) {u:Value}:Ag (ρ.sub τ) μ p u↔Ag ρ μ a u:=by
 unfold Aa.Ahm at h
 split at h
 ·obtain ⟨cs,c,rfl⟩:=mS h
  obtain ⟨_,k,_⟩:=Fq (ρ:=ρ) (μ:=μ) c
  simp only [Ag,k]
 ·exact (HE h).1
theorem Ph:∀{l r:List Aa} {us:List Value},SD τ l=some r→(A7 (ρ.sub τ) μ l us↔A7 ρ μ r us)
 |[],r,us,h=>by
  simp only [SD,oI]at h
  subst h
  simp only [A7]
 |v::l,r,us,h=>by
  simp only [SD]at h
  split at h
  ·rename_i g d hv c
   simp only [oI]at h
   subst h
   simp only [A7,ZY (ρ:=ρ) (μ:=μ) hv,Ph c]
  ·cases h
theorem HD {p a:Aa} (h:p.SC τ=some a) {u:Value}:Ag (ρ.sub τ) μ p u↔Ag ρ μ a u:=by
 unfold Aa.SC at h
 split at h
 ·obtain ⟨cs,c,rfl⟩:=mS h
  obtain ⟨_,k,_⟩:=Fq (ρ:=ρ) (μ:=μ) c
  simp only [Ag,k]
 ·obtain ⟨cs,c,rfl⟩:=mS h
  simp only [Ag,fun us=>Ph (ρ:=ρ) (μ:=μ) (us:=us) c]
 ·exact (HE h).1
theorem Gk:∀{l r:List Aa} {us:List Value},Pf τ l=some r→(A7 (ρ.sub τ) μ l us↔A7 ρ μ r us)
 |[],r,us,h=>by
  simp only [Pf,oI]at h
  subst h
  simp only [A7]
 |v::l,r,us,h=>by
  simp only [Pf]at h
  split at h
  ·rename_i g d hv c
   simp only [oI]at h
   subst h
   simp only [A7,HD (ρ:=ρ) (μ:=μ) hv,Gk c]
  ·cases h
theorem Fi {B C:Block} (h:B.sub τ=some C) {o:Option Obj} {δ:Nat×Nat}:CM (ρ.sub τ) μ B o δ↔CM ρ μ C o δ:=by
 cases B<;>simp only [Block.sub,oI,reduceCtorEq]at h
 case cells vs=>
  obtain ⟨us,D,rfl⟩:=mS h
  obtain ⟨_,_,_,k⟩:=Fq (ρ:=ρ) (μ:=μ) D
  simp only [CM]
  constructor
  ·rintro ⟨c,e,ho,hm,hc⟩
   refine ⟨c,e,ho,hm,fun i a ha=>?_⟩
   obtain ⟨p,z,hs⟩:=(k i).2 a ha
   obtain ⟨v,y,g,d⟩:=hc i p z
   obtain ⟨A,x⟩:=DV (ρ:=ρ) (μ:=μ) hs (u:=v)
   exact ⟨v,y,by rw [x];exact g,A.1 d⟩
  ·rintro ⟨c,e,ho,hm,hc⟩
   refine ⟨c,e,ho,hm,fun i p z=>?_⟩
   obtain ⟨a,ha,hs⟩:=(k i).1 p z
   obtain ⟨v,y,g,d⟩:=hc i a ha
   obtain ⟨A,x⟩:=DV (ρ:=ρ) (μ:=μ) hs (u:=v)
   exact ⟨v,y,by rw [←x];exact g,A.2 d⟩
 case typed t vs=>
  obtain ⟨us,D,rfl⟩:=mS h
  obtain ⟨M,_,_,k⟩:=Fq (ρ:=ρ) (μ:=μ) D
  simp only [CM]
  constructor
  ·rintro ⟨c,ho,⟨h0,hs0⟩,hm,hc⟩
   refine ⟨c,ho,⟨h0,by rw [hs0,M]⟩,hm,fun i a ha=>?_⟩
   obtain ⟨p,z,hs⟩:=(k i).2 a ha
   obtain ⟨v,y,g,d⟩:=hc i p z
   obtain ⟨A,x⟩:=DV (ρ:=ρ) (μ:=μ) hs (u:=v)
   exact ⟨v,y,by rw [x];exact g,A.1 d⟩
  ·rintro ⟨c,ho,⟨h0,hs0⟩,hm,hc⟩
   refine ⟨c,ho,⟨h0,by rw [hs0,M]⟩,hm,fun i p z=>?_⟩
   obtain ⟨a,ha,hs⟩:=(k i).1 p z
   obtain ⟨v,y,g,d⟩:=hc i a ha
   obtain ⟨A,x⟩:=DV (ρ:=ρ) (μ:=μ) hs (u:=v)
   exact ⟨v,y,by rw [←x];exact g,A.2 d⟩
 case map es c=>
  obtain ⟨O,J,rfl⟩:=mS h
  simp only [CM,Pj (ρ:=ρ) (μ:=μ) J]
 case bytes n e=>subst h;simp only [CM]
 case sbytes t e=>
  obtain ⟨t',N,rfl⟩:=mS h
  simp only [CM,ST.CY (ρ:=ρ) N]
 case list i es=>
  obtain ⟨j,H,rfl⟩:=mS h
  have e:(ρ.sub τ).lst i=ρ.lst j:=getD_map (f:=ρ.lst) H
  simp only [CM,e]
 case smap i=>
  obtain ⟨j,H,rfl⟩:=mS h
  have e:(ρ.sub τ).map i=ρ.map j:=getD_map (f:=ρ.map) H
  simp only [CM,e]
theorem Gl:∀{l r:List Block},IL τ l=some r→l.length=r.length∧∀(i:Nat),(∀p,l[i]?=some p→∃a,r[i]?=some a∧p.sub τ=some a)∧(∀a,r[i]?=some a→∃p,l[i]?=some p∧p.sub τ=some a)
 |[],r,h=>by
  simp only [IL,oI]at h
  subst h
  exact ⟨rfl,fun i=>⟨fun p h=>by simp at h,fun p h=>by simp at h⟩⟩
 |v::l,r,h=>by
  simp only [IL]at h
  split at h
  ·rename_i c k hv j
   simp only [oI]at h
   subst h
   obtain ⟨d,g⟩:=Gl j
   refine ⟨by simp [d],fun i=>?_⟩
   cases i with
   |zero=>
    simp only [List.getElem?_cons_zero,oI]
    exact ⟨fun p e=>⟨c,rfl,e▸hv⟩,fun a e=>⟨v,rfl,e▸hv⟩⟩
   |succ i=>simpa using g i
  ·cases h
theorem It:∀{l r:List (Option Block)},IK τ l=some r→l.length=r.length∧∀(i:Nat),(∀p,l[i]?=some (some p)→∃a,r[i]?=some (some a)∧p.sub τ=some a)∧(∀a,r[i]?=some (some a)→∃p,l[i]?=some (some p)∧p.sub τ=some a)
 |[],r,h=>by
  simp only [IK,oI]at h
  subst h
  exact ⟨rfl,fun i=>⟨fun p h=>by simp at h,fun p h=>by simp at h⟩⟩
 |none::l,r,h=>by
  simp only [IK]at h
  obtain ⟨j,g,rfl⟩:=mS h
  obtain ⟨c,d⟩:=It g
  refine ⟨by simp [c],fun i=>?_⟩
  cases i with
  |zero=>simp
  |succ i=>simpa using d i
 |some v::l,r,h=>by
  simp only [IK]at h
  split at h
  ·rename_i k j hv g
   simp only [oI]at h
   subst h
   obtain ⟨c,d⟩:=It g
   refine ⟨by simp [c],fun i=>?_⟩
   cases i with
   |zero=>
    simp only [List.getElem?_cons_zero,oI]
    exact ⟨fun p e=>⟨k,rfl,e▸hv⟩,fun a e=>⟨v,rfl,e▸hv⟩⟩
   |succ i=>simpa using d i
  ·cases h
theorem AH.over {j:Env} {h d:Ak} {w:World} (H:AH ρ μ h w) (N:d.next=h.next) (M:j.AS=ρ.AS) (hf:d.fx.AG j) (hb:∀b c,d.get b=some c→∃B,h.get b=some B∧∀o δ,CM ρ μ B o δ→CM j μ c o δ):AH j μ d w:=by
 have own:∀r,AP μ d r→AP μ h r:=fun r ⟨b,B,δ,y,u⟩=>by
  obtain ⟨c,k,_⟩:=hb b B y
  exact ⟨b,c,δ,k,u⟩
 refine ⟨fun b e=>H.fresh b (N▸e),fun b B e=>?_,fun b J B c r δ O y u x z=>?_,⟨fun g o e=>?_,fun g o e=>?_,hf⟩⟩
 ·obtain ⟨D,A,C⟩:=hb b B e
  obtain ⟨r,δ,x,z⟩:=H.blk b D A
  exact ⟨r,δ,x,C _ _ z⟩
 ·obtain ⟨P,A,_⟩:=hb b B y
  obtain ⟨Q,C,_⟩:=hb J c u
  exact H.inj _ _ _ _ _ _ _ A C x z
 ·rw [M]at e
  exact ⟨(H.AS.AS g o e).1,fun q=>(H.AS.AS g o e).2 (own g q)⟩
 ·exact ⟨(H.AS.Bb g o e).1,fun q=>(H.AS.Bb g o e).2 (own g q)⟩
end
section
variable {ρ:Env} {τ:Dd} {μ:Ap} {w w':World} {pre pre':List Block} {post post':List (Option Block)}
theorem M7 (d:IL τ pre=some pre') (H:AH ρ μ (Be pre' (empty 0)) w):AH (ρ.sub τ) μ (Be pre (empty 0)) w:=by
 obtain ⟨g,c⟩:=Gl d
 refine H.over (by rw [Ce,Ce,g]) rfl (by rw [(Ci pre (empty 0)).2.1];exact An.AG.none _) fun b B hB=>?_
 rw [C9]at hB
 obtain ⟨a,ha,hs⟩:=(c b).1 B hB
 exact ⟨a,by rw [C9];exact ha,fun o δ=>(Fi hs).2⟩
theorem JC (d:IL τ pre=some pre') (H:AH (ρ.sub τ) μ (Be pre (empty 0)) w):AH ρ μ (Be pre' (empty 0)) w:=by
 obtain ⟨g,c⟩:=Gl d
 refine H.over (by rw [Ce,Ce,g]) rfl (by rw [(Ci pre' (empty 0)).2.1];exact An.AG.none _) fun b B hB=>?_
 rw [C9]at hB
 obtain ⟨a,ha,hs⟩:=(c b).2 B hB
 exact ⟨a,by rw [C9];exact ha,fun o δ=>(Fi hs).1⟩
theorem K4 {μ':Ap} (C:IL τ pre=some pre') (J:IK τ post=some post') (d:Av (ρ.sub τ) μ (Be pre (empty 0)) w μ' (CD post (empty 0)) w'):Av ρ μ (Be pre' (empty 0)) w μ' (CD post' (empty 0)) w':=by
 obtain ⟨O,y⟩:=Gl C
 obtain ⟨A,z⟩:=It J
 have u:∀r,AP μ (Be pre (empty 0)) r↔AP μ (Be pre' (empty 0)) r:=fun r=>by
  constructor
  ·rintro ⟨b,B,δ,c,j⟩
   rw [C9]at c
   obtain ⟨a,ha,_⟩:=(y b).1 B c
   exact ⟨b,a,δ,by rw [C9];exact ha,j⟩
  ·rintro ⟨b,B,δ,c,j⟩
   rw [C9]at c
   obtain ⟨a,ha,_⟩:=(y b).2 B c
   exact ⟨b,a,δ,by rw [C9];exact ha,j⟩
 have g:∀{l:List (Option Block)} {b:Nat} {B:Block},(l[b]?).join=some B→l[b]?=some (some B):=fun {l b B} h=>by
  cases e:l[b]? with
  |none=>rw [e]at h;cases h
  |some o=>rw [e]at h;have h:o=some B:=h;rw [h]
 have x:∀r,AP μ' (CD post' (empty 0)) r→AP μ' (CD post (empty 0)) r:=fun r ⟨b,B,δ,c,j⟩=>by
  rw [DC]at c
  obtain ⟨a,ha,_⟩:=(z b).2 B (g c)
  exact ⟨b,a,δ,by rw [DC,ha];rfl,j⟩
 have D:AH ρ μ' (CD post' (empty 0)) w':=by
  refine d.rel.over (by rw [DM,DM,A]) rfl (by rw [(CJ post' (empty 0)).2.1];exact An.AG.none _) fun b B hB=>?_
  rw [DC]at hB
  obtain ⟨a,ha,hs⟩:=(z b).2 B (g hB)
  exact ⟨a,by rw [DC,ha];rfl,fun o δ=>(Fi hs).1⟩
 refine ⟨d.le,D,d.size,fun r N H=>?_,d.os,d.output,?_,fun b hb=>d.old b ?_,fun k o M=>?_,?_⟩
 ·obtain ⟨c,j⟩:=d.kept r N fun e=>H ((u r).1 e)
  exact ⟨c,fun e=>j (x r e)⟩
 ·have:=d.next
  rw [Ce,DM]at this⊢
  show pre'.length≤post'.length
  omega
 ·rw [Ce]at hb⊢
  show b<pre.length
  have hb:b<pre'.length:=hb
  omega
 ·rcases d.icy k o M with q|q|q
  ·exact .inl q
  ·exact .inr (.inl ((u k).1 q))
  ·exact .inr (.inr q)
 ·rw [(CJ post' (empty 0)).2.1,(Ci pre' (empty 0)).2.1]
theorem HB {μ':Ap} (C:IL τ pre=some pre') (J:IK τ post=some post') (d:Av ρ μ (Be pre' (empty 0)) w μ' (CD post' (empty 0)) w'):Av (ρ.sub τ) μ (Be pre (empty 0)) w μ' (CD post (empty 0)) w':=by
 obtain ⟨O,y⟩:=Gl C
 obtain ⟨A,z⟩:=It J
 have u:∀r,AP μ (Be pre' (empty 0)) r↔AP μ (Be pre (empty 0)) r:=fun r=>by
  constructor
  ·rintro ⟨b,B,δ,c,j⟩
   rw [C9]at c
   obtain ⟨a,ha,_⟩:=(y b).2 B c
   exact ⟨b,a,δ,by rw [C9];exact ha,j⟩
  ·rintro ⟨b,B,δ,c,j⟩
   rw [C9]at c
   obtain ⟨a,ha,_⟩:=(y b).1 B c
   exact ⟨b,a,δ,by rw [C9];exact ha,j⟩
 have g:∀{l:List (Option Block)} {b:Nat} {B:Block},(l[b]?).join=some B→l[b]?=some (some B):=fun {l b B} h=>by
  cases e:l[b]? with
  |none=>rw [e]at h;cases h
  |some o=>rw [e]at h;have h:o=some B:=h;rw [h]
 have x:∀r,AP μ' (CD post (empty 0)) r→AP μ' (CD post' (empty 0)) r:=fun r ⟨b,B,δ,c,j⟩=>by
  rw [DC]at c
  obtain ⟨a,ha,_⟩:=(z b).1 B (g c)
  exact ⟨b,a,δ,by rw [DC,ha];rfl,j⟩
 have D:AH (ρ.sub τ) μ' (CD post (empty 0)) w':=by
  refine d.rel.over (by rw [DM,DM,A]) rfl (by rw [(CJ post (empty 0)).2.1];exact An.AG.none _) fun b B hB=>?_
  rw [DC]at hB
  obtain ⟨a,ha,hs⟩:=(z b).1 B (g hB)
  exact ⟨a,by rw [DC,ha];rfl,fun o δ=>(Fi hs).2⟩
 refine ⟨d.le,D,d.size,fun r N H=>?_,d.os,d.output,?_,fun b hb=>d.old b ?_,fun k o M=>?_,?_⟩
 ·obtain ⟨c,j⟩:=d.kept r N fun e=>H ((u r).1 e)
  exact ⟨c,fun e=>j (x r e)⟩
 ·have:=d.next
  rw [Ce,DM]at this⊢
  show pre.length≤post.length
  have this:pre'.length≤post'.length:=this
  omega
 ·rw [Ce]at hb⊢
  show b<pre'.length
  have hb:b<pre.length:=hb
  omega
 ·rcases d.icy k o M with q|q|q
  ·exact .inl q
  ·exact .inr (.inl ((u k).1 q))
  ·exact .inr (.inr q)
 ·rw [(CJ post (empty 0)).2.1,(Ci pre (empty 0)).2.1]
theorem Holds.sub {P:Program} {g:FuncId} {x y:BA} (hs:x.sub τ=some y) (k:Holds P (ρ.sub τ) g x):Holds P ρ g y:=by
 unfold BA.sub at hs
 split at hs
 case h_2=>cases hs
 rename_i args pre res post C j z A
 simp only [oI]at hs
 subst hs
 refine ⟨k.1,fun μ w c H hv=>(k.2 μ w c (M7 j H) ((Gk C).2 hv)).mono fun e w' d=>?_⟩
 obtain ⟨μ',o,d⟩:=d
 refine ⟨μ',K4 j A o,?_⟩
 cases e
 case returned u=>exact (HD z).1 (show Ag (ρ.sub τ) μ' x.res u from d)
 all_goals exact d.elim
theorem Holds.Ss {P:Program} {g:FuncId} {x y:BA} (hs:x.sub τ=some y) (k:Holds P ρ g y):Holds P (ρ.sub τ) g x:=by
 unfold BA.sub at hs
 split at hs
 case h_2=>cases hs
 rename_i args pre res post C j z A
 simp only [oI]at hs
 subst hs
 refine ⟨k.1,fun μ w c H hv=>(k.2 μ w c (JC j H) ((Gk C).1 hv)).mono fun e w' d=>?_⟩
 obtain ⟨μ',o,d⟩:=d
 refine ⟨μ',HB j A o,?_⟩
 cases e
 case returned u=>exact (HD z).2 (show Ag ρ μ' res u from d)
 all_goals exact d.elim
def M8 (τ:Dd):List (Nat×Aa)→Option (List (Nat×Aa))
 |[]=>some []
 |v::r=>match v.2.SC τ,M8 τ r with
  |some a,some r=>some ((v.1,a)::r)
  |_,_=>none
def ZZ (τ:Dd) (p:List (FuncId×List Aa)):Option (List (FuncId×List Aa)):=
 match p with
 |[]=>some []
 |[p]=>(Pf τ p.2).map fun l=>[(p.1,l)]
 |_=>none
theorem Iu {l r:List (FuncId×List Aa)} (h:ZZ τ l=some r) {ds:List Deferred}:CL (ρ.sub τ) μ l ds↔CL ρ μ r ds:=by
 unfold ZZ at h
 split at h
 ·simp only [oI]at h
  subst h
  exact Iff.rfl
 ·obtain ⟨l,hl,rfl⟩:=mS h
  constructor
  ·rintro ⟨c,rest,e1,⟨cap,e2,e3⟩,e4⟩
   exact ⟨c,rest,e1,⟨cap,e2,(Gk hl).1 e3⟩,e4⟩
  ·rintro ⟨c,rest,e1,⟨cap,e2,e3⟩,e4⟩
   exact ⟨c,rest,e1,⟨cap,e2,(Gk hl).2 e3⟩,e4⟩
 ·cases h
def BE.sub (τ:Dd) (k:BE):Option BE:=
 match M8 τ k.Y7,IL τ k.pre,M8 τ k.Oz,IK τ k.post,ZZ τ k.df with
 |some Y7,some pre,some Oz,some post,some df=>some ⟨k.id,Y7,pre,Oz,post,df,k.out⟩
 |_,_,_,_,_=>none
theorem Pg:∀{l c:List (Nat×Aa)} {t t':Tr Aa},M8 τ l=some c→(∀n,match t.get n with|some p=>∃a,t'.get n=some a∧p.SC τ=some a|none=>t'.get n=none)→
  ∀n,match (OW l t).get n with|some p=>∃a,(OW c t').get n=some a∧p.SC τ=some a|none=>(OW c t').get n=none
 |[],c,t,t',h,ht,n=>by
  simp only [M8,oI]at h
  subst h
  exact ht n
 |v::r,c,t,t',h,ht,n=>by
  simp only [M8]at h
  split at h
  ·rename_i a d ha g
   simp only [oI]at h
   subst h
   show match (OW r (t.set v.1 (some v.2))).get n with|some p=>∃b,(OW d (t'.set v.1 (some a))).get n=some b∧p.SC τ=some b|none=>(OW d (t'.set v.1 (some a))).get n=none
   refine Pg g (fun m=>?_) n
   rw [Tr.Bk,Tr.Bk]
   by_cases e:m=v.1
   ·rw [if_pos e,if_pos e];exact ⟨a,rfl,ha⟩
   ·rw [if_neg e,if_neg e];exact ht m
  ·cases h
theorem Is {l o:List (Nat×Aa)} (h:M8 τ l=some o) {a:Act}:Ba (ρ.sub τ) μ (OW l .nil) a↔Ba ρ μ (OW o .nil) a:=by
 have hg:=Pg (τ:=τ) (t:=.nil) (t':=.nil) h fun n=>rfl
 constructor
 ·intro k t
  have c:=hg t
  have d:=k t
  cases e:(OW l .nil).get t with
  |none=>rw [e]at c;simp only at c;rw [c];trivial
  |some p=>
   rw [e]at c d
   obtain ⟨b,g,j⟩:=c
   rw [g]
   exact (HD j).1 d
 ·intro k t
  have c:=hg t
  have d:=k t
  cases e:(OW l .nil).get t with
  |none=>trivial
  |some p=>
   rw [e]at c
   obtain ⟨b,g,j⟩:=c
   rw [g]at d
   exact (HD j).2 d
theorem Eh.sub {P:Program} {nt:Nat} {x:Code} {k o:BE} (hs:k.sub τ=some o) (g:Eh P (ρ.sub τ) nt x k):Eh P ρ nt x o:=by
 unfold BE.sub at hs
 split at hs
 case h_2=>cases hs
 rename_i Y7 pre Oz post df C c z u y
 simp only [oI]at hs
 subst hs
 obtain ⟨n,g⟩:=g
 exact ⟨n,fun μ a w Q F D=>g μ a w Q ⟨(Is C).2 F.tmps,F.size,M7 c F.heap,(Iu y).2 F.defs⟩ fun μ' A w' d j=>D μ' A w' ⟨(Is z).1 d.tmps,d.size,(K4 c u j).rel,(Iu y).1 d.defs⟩ (K4 c u j)⟩
theorem Eh.Ss {P:Program} {nt:Nat} {x:Code} {k o:BE} (hs:k.sub τ=some o) (g:Eh P ρ nt x o):Eh P (ρ.sub τ) nt x k:=by
 unfold BE.sub at hs
 split at hs
 case h_2=>cases hs
 rename_i Y7 pre Oz post df C c z u y
 simp only [oI]at hs
 subst hs
 obtain ⟨n,g⟩:=g
 exact ⟨n,fun μ a w Q F D=>g μ a w Q ⟨(Is C).1 F.tmps,F.size,JC c F.heap,(Iu y).1 F.defs⟩ fun μ' A w' d j=>D μ' A w' ⟨(Is z).2 d.tmps,d.size,(HB c u j).rel,(Iu y).2 d.defs⟩ (HB c u j)⟩
end
noncomputable def Kd (n:Nat):Nat→List Nat:=Nat.rec (motive:=fun _=>Nat→List Nat) (fun _=>[]) (fun _ ih i=>i::ih (i+1)) n
theorem Kc:∀(n k i:Nat),(Kd n k)[i]?=if i<n then some (k+i)else none
 |0,k,i=>by rw [if_neg (by omega)];show ([]:List Nat)[i]?=none;simp
 |n+1,k,i=>by
  show (k::Kd n (k+1))[i]?=_
  cases i with
  |zero=>simp
  |succ i=>
   rw [List.getElem?_cons_succ,Kc n (k+1) i]
   by_cases h:i<n
   ·rw [if_pos h,if_pos (by omega)];congr 1;omega
   ·rw [if_neg h,if_neg (by omega)]
noncomputable def Ac3 (Γ:An) (σ:List Nat) (p a:Aa):Bool:=
 match p,a with
 |.agg ps,.agg as=>GR Γ σ ps as
 |.tuple ps,.tuple as=>Lj Γ σ ps as
 |p,a=>Ie Γ σ p a
noncomputable def Lh (Γ:An) (h:Ak) (σ:List Nat) (l:List (Option Block)):Nat→Bool:=
 List.rec (motive:=fun _=>Nat→Bool) (fun _=>true) (fun B _ ih i=>(match B with|some B=>eqB Γ h σ i B|none=>true)&&ih (i+1)) l
noncomputable def XX (k:Nat) (l:List Nat):Bool:=List.rec (motive:=fun _=>Bool) true (fun n _ ih=>Nat.ble k n&&ih) l
noncomputable def AaL (Γ:An) (x:BA) (c:List Nat) (r:Option (Ot×Ak)):Bool:=
 match r with
 |some (.ret v,h)=>Nat.beq (Tq x.post) (He x.pre+IF c)&&(Jm c&&(XX (He x.pre) c&&(Ac3 Γ (Kd (He x.pre) 0++c) x.res v&&Lh Γ h (Kd (He x.pre) 0++c) x.post 0)))
 |_=>false
section
variable {ρ:Env} {μ μ':Ap} {σ:List Nat}
theorem Zo {Γ:An} (c:Γ.AG ρ) (R:Ren μ' μ σ) {p a:Aa} (h:Ac3 Γ σ p a=true) {u:Value} (g:Ag ρ μ a u):Ag ρ μ' p u:=by
 unfold Ac3 at h
 split at h
 ·obtain ⟨x,e,d⟩:=g.agg
  subst e
  simp only [Ag]
  exact ⟨x,rfl,Lg c R h d⟩
 ·obtain ⟨x,e,d⟩:=g.tuple
  subst e
  simp only [Ag]
  exact ⟨x,rfl,GS c R h d⟩
 ·exact (E4 c R h g).1
theorem TK {Γ:An} {h:Ak} (W:Option Block) (r:List (Option Block)) (k:Nat):Lh Γ h σ (W::r) k=((match W with|some B=>eqB Γ h σ k B|none=>true)&&Lh Γ h σ r (k+1)):=rfl
theorem NI {Γ:An} {h:Ak}:∀{l:List (Option Block)} {k:Nat},Lh Γ h σ l k=true→∀i B,l[i]?=some (some B)→∃b A,Cm σ (k+i)=some b∧h.get b=some A∧NL Γ σ B A=true
 |[],_,_,i,vs,hv=>by simp at hv
 |W::r,k,hb,i,B,hv=>by
  rw [TK,aT]at hb
  cases i with
  |zero=>
   simp only [List.getElem?_cons_zero,oI]at hv
   subst hv
   have c:=hb.1
   simp only at c
   unfold eqB at c
   split at c
   ·rename_i b d
    split at c
    ·rename_i A hg
     exact ⟨b,A,d,hg,c⟩
    ·cases c
   ·cases c
  |succ i=>
   obtain ⟨b,A,c,j,g⟩:=NI hb.2 i B (by simpa using hv)
   exact ⟨b,A,by rw [←c];congr 1;omega,j,g⟩
theorem KS {k:Nat}:∀{l:List Nat},XX k l=true→∀n∈l,k≤n
 |[],_,n,hn=>by cases hn
 |m::r,h,n,hn=>by
  have h:(Nat.ble k m&&XX k r)=true:=h
  rw [aT]at h
  rcases List.mem_cons.1 hn with rfl|hn
  ·exact AR.1 h.1
  ·exact KS h.2 n hn
theorem shown {Γ:An} (hΓ:Γ.AG ρ) {pre:List Block} {post:List (Option Block)} {N:List Nat} {d:Nat} {h:Ak} {w w':World} {D:Ap} (ay:post.length=pre.length+N.length) (ai:N.Nodup) (ac:∀n∈N,pre.length≤n) (O:Lh Γ h (Kd pre.length 0++N) post 0=true)
  (H:AH ρ μ (Be pre (empty 0)) w) (g1:Av ρ μ (Be pre (empty d Γ)) w D h w'):∃μ',Av ρ μ (Be pre (empty 0)) w μ' (CD post (empty 0)) w'∧Ren μ' D (Kd pre.length 0++N):=by
 generalize hσ:Kd pre.length 0++N=σ at O⊢
 have ad:(Kd pre.length 0).length=pre.length:=by
  apply Nat.le_antisymm
  ·rcases Nat.lt_or_ge pre.length (Kd pre.length 0).length with hlt|hge
   ·have:=List.getElem?_eq_getElem hlt
    rw [Kc,if_neg (by omega)]at this
    cases this
   ·exact hge
  ·rcases Nat.lt_or_ge (Kd pre.length 0).length pre.length with hlt|hge
   ·have:=List.getElem?_eq_none (Nat.le_refl (Kd pre.length 0).length)
    rw [Kc,if_pos hlt]at this
    cases this
   ·exact hge
 have u:∀i b,Cm σ i=some b↔(i<pre.length∧b=i)∨(pre.length≤i∧N[i-pre.length]?=some b):=fun i b=>by
  rw [←hσ,FK]
  by_cases Z:i<pre.length
  ·rw [List.getElem?_append_left (by omega),Kc,if_pos Z]
   simp only [Nat.zero_add,oI]
   constructor
   ·intro e;exact .inl ⟨Z,e.symm⟩
   ·rintro (⟨_,e⟩|⟨e,_⟩)
    ·exact e.symm
    ·omega
  ·rw [List.getElem?_append_right (by omega),ad]
   constructor
   ·intro e;exact .inr ⟨by omega,e⟩
   ·rintro (⟨e,_⟩|⟨_,e⟩)
    ·omega
    ·exact e
 have af:∀i j b,Cm σ i=some b→Cm σ j=some b→i=j:=fun i j b Z hj=>by
  rcases (u i b).1 Z with ⟨h1,h2⟩|⟨h1,h2⟩<;>rcases (u j b).1 hj with ⟨h3,h4⟩|⟨h3,h4⟩
  ·omega
  ·have:=ac b (List.mem_of_getElem? h4);omega
  ·have:=ac b (List.mem_of_getElem? h2);omega
  ·obtain ⟨l1,e1⟩:=List.getElem?_eq_some_iff.1 h2
   obtain ⟨l2,e2⟩:=List.getElem?_eq_some_iff.1 h4
   have:=(List.getElem_inj ai).1 (e1.trans e2.symm)
   omega
 have P:∀r,AP μ (Be pre (empty d Γ)) r↔AP μ (Be pre (empty 0)) r:=fun r=>by
  unfold AP
  simp only [C9]
 let μ':Ap:=⟨fun i=>(Cm σ i).bind D.spot,D.Bb⟩
 have R:Ren μ' D σ:=⟨fun i b e=>by show (Cm σ i).bind D.spot=_;rw [e];rfl,rfl⟩
 have U:∀{l:List (Option Block)} {b:Nat} {B:Block},(l[b]?).join=some B→l[b]?=some (some B):=fun {l b B} h=>by
  cases e:l[b]? with
  |none=>rw [e]at h;cases h
  |some o=>rw [e]at h;have h:o=some B:=h;rw [h]
 have g:∀i B,(CD post (empty 0)).get i=some B→∃b A,Cm σ i=some b∧h.get b=some A∧NL Γ σ B A=true:=fun i B hB=>by
  rw [DC]at hB
  obtain ⟨b,A,z,M,k3⟩:=NI O i B (U hB)
  exact ⟨b,A,by rw [←z,Nat.zero_add],M,k3⟩
 have Q:∀b,b<pre.length→μ' b=μ b:=fun b hb=>by
  have e:Cm σ b=some b:=(u b b).2 (.inl ⟨hb,rfl⟩)
  rw [R.spot b b e,g1.old b (by rw [Ce];exact hb)]
 have J:∀r,AP μ' (CD post (empty 0)) r→AP D h r:=fun r ⟨i,B,δ,C,x⟩=>by
  obtain ⟨b,A,z,M,_⟩:=g i B C
  rw [R.spot i b z]at x
  exact ⟨b,A,δ,M,x⟩
 refine ⟨μ',⟨⟨fun b y hy=>?_,g1.le.Bb⟩,⟨fun b hb=>?_,fun b B hB=>?_,fun b b' B B' r δ δ' hb ak hm ab=>?_,⟨fun k o X=>?_,fun k o X=>?_,?_⟩⟩,g1.size,fun r hr ho=>?_,g1.os,g1.output,?_,fun b hb=>?_,fun k o X=>?_,?_⟩,R⟩
 ·have hb:b<pre.length:=by
   rcases Nat.lt_or_ge b pre.length with hlt|hge
   ·exact hlt
   ·rw [H.fresh b (by rw [Ce];exact hge)]at hy;cases hy
  rw [Q b hb];exact hy
 ·rw [DM]at hb
  show (Cm σ b).bind D.spot=none
  cases e:Cm σ b with
  |none=>rfl
  |some c=>
   rcases (u b c).1 e with ⟨q,_⟩|⟨C,x⟩
   ·omega
   ·have:=(List.getElem?_eq_some_iff.1 x).1;omega
 ·obtain ⟨c,A,z,M,k3⟩:=g b B hB
  obtain ⟨r,δ,m1,m2⟩:=g1.rel.blk c A M
  exact ⟨r,δ,by rw [R.spot b c z];exact m1,Qb hΓ R k3 m2⟩
 ·obtain ⟨c,A,z,M,_⟩:=g b B hb
  obtain ⟨c',A',aa,al,_⟩:=g b' B' ak
  rw [R.spot b c z]at hm
  rw [R.spot b' c' aa]at ab
  have:=g1.rel.inj _ _ _ _ _ _ _ M al hm ab
  subst this
  exact af b b' c z aa
 ·obtain ⟨C,x⟩:=g1.rel.AS.AS k o X
  exact ⟨C,fun q=>x (J k q)⟩
 ·obtain ⟨C,x⟩:=g1.rel.AS.Bb k o X
  exact ⟨C,fun q=>x (J k q)⟩
 ·rw [(CJ post (empty 0)).2.1];exact An.AG.none ρ
 ·obtain ⟨C,x⟩:=g1.kept r hr fun q=>ho ((P r).1 q)
  exact ⟨C,fun q=>x (J r q)⟩
 ·rw [Ce,DM];omega
 ·rw [Ce]at hb
  exact Q b hb
 ·rcases g1.icy k o X with q|q|q
  ·exact .inl q
  ·exact .inr (.inl ((P k).1 q))
  ·exact .inr (.inr q)
 ·rw [(CJ post (empty 0)).2.1,(Ci pre (empty 0)).2.1]
theorem AH.withFacts {Γ:An} (c:Γ.AG ρ) {pre:List Block} {d:Nat} {w:World} (H:AH ρ μ (Be pre (empty 0)) w):AH ρ μ (Be pre (empty d Γ)) w:=by
 refine H.over (by rw [Ce,Ce]) rfl (by rw [(Ci pre (empty d Γ)).2.1];exact c) fun b B hB=>?_
 rw [C9]at hB
 exact ⟨B,by rw [C9];exact hB,fun o δ h=>h⟩
theorem Rz {P:Program} {Γ:An} (z:Γ.AG ρ) {g:FuncId} {call:Bv} (hc:CF P ρ g call) {x:BA} {d:Nat} {O:List Nat} (c:AaL Γ x O (call x.args (Be x.pre (empty d Γ)))=true):Holds P ρ g x:=by
 unfold AaL at c
 split at c
 case h_2=>cases c
 rename_i v h j
 rw [aT,aT,aT,aT,Al,GI,Fj,Dq]at c
 obtain ⟨C,D,J,A,y⟩:=c
 refine ⟨(hc x.args _ _ _ j).1,fun μ w k H hv=>?_⟩
 refine ((hc x.args _ _ _ j).2 μ w k (H.withFacts z) hv).mono fun e w' o=>?_
 obtain ⟨N,g1,o⟩:=o
 obtain ⟨μ',M,R⟩:=shown z C (Fz D) (KS J) y H g1
 refine ⟨μ',M,?_⟩
 cases e
 case returned u=>exact Zo z R A (show Ag ρ N v u from o)
 all_goals exact o.elim
def C2 (P:Program) (ρ:Env) (g:FuncId) (k:BE):Prop:=∀fn c,P.funcs[g]?=some fn→fn.body=some c→∀y∈Dr 0 c,y.1=k.id→Eh P ρ fn.ntmps y.2 k
theorem Vs {P:Program} {g:FuncId} {l:List BE} (h:∀k∈l,C2 P ρ g k):∀fn c,P.funcs[g]?=some fn→fn.body=some c→DH P ρ fn.ntmps l 0 c:=
 fun fn c hf hc y d k j e=>h k j fn c hf hc y d e.symm
noncomputable def Yb (c:IC):Nat→List (Nat×IC):=
 IC.rec (motive:=fun _=>Nat→List (Nat×IC)) (fun _=>[]) (fun _ _ _=>[]) (fun _ _ a b k=>a k++b k) (fun _ _ _ a b k=>a k++b k) (fun id _ b _=>b id) (fun b ih k=>(k,b)::ih k) (fun _ _=>[]) (fun _=>[]) c
theorem VD {P:Program} {pl:List C5} {nt:Nat}:∀{c:Code} {u:IC} {k:Nat},AY P pl nt c=some u→∀y∈Dr k c,∃A,AY P pl nt y.2=some A∧(y.1,A)∈Yb u k:=by
 intro c
 induction c with
 |seq a b iha ihb=>
  intro u k h y d
  simp only [AY]at h
  split at h
  ·rename_i z D o C
   simp only [oI]at h
   subst h
   rcases List.mem_append.1 d with d|d
   ·obtain ⟨x,g,j⟩:=iha o y d
    exact ⟨x,g,List.mem_append_left _ j⟩
   ·obtain ⟨x,g,j⟩:=ihb C y d
    exact ⟨x,g,List.mem_append_right _ j⟩
  ·cases h
 |cond v a b iha ihb=>
  intro u k h y d
  simp only [AY]at h
  split at h
  ·rename_i z D o C
   simp only [oI]at h
   subst h
   rcases List.mem_append.1 d with d|d
   ·obtain ⟨x,g,j⟩:=iha o y d
    exact ⟨x,g,List.mem_append_left _ j⟩
   ·obtain ⟨x,g,j⟩:=ihb C y d
    exact ⟨x,g,List.mem_append_right _ j⟩
  ·cases h
 |block id b ih=>
  intro u k h y d
  simp only [AY]at h
  obtain ⟨z,o,e⟩:=mS h
  subst e
  exact ih o y d
 |loop b ih=>
  intro u k h y d
  simp only [AY]at h
  obtain ⟨z,o,e⟩:=mS h
  subst e
  rcases List.mem_cons.1 d with rfl|d
  ·exact ⟨z,o,List.mem_cons_self⟩
  ·obtain ⟨x,g,j⟩:=ih o y d
   exact ⟨x,g,List.mem_cons_of_mem _ j⟩
 |_=>intro u k h y d;simp [Dr]at d
noncomputable def XN (id:Nat) (l:List (Nat×IC)):List IC:=List.rec (motive:=fun _=>List IC) [] (fun x _ ih=>bif Nat.beq x.1 id then x.2::ih else ih) l
theorem KG {id:Nat} {x:IC}:∀{l:List (Nat×IC)},(id,x)∈l→x∈XN id l
 |[],h=>by cases h
 |y::r,h=>by
  show x∈(bif Nat.beq y.1 id then y.2::XN id r else XN id r)
  rw [AI]
  rcases List.mem_cons.1 h with rfl|h
  ·rw [if_pos rfl];exact List.mem_cons_self
  ·split
   ·exact List.mem_cons_of_mem _ (KG h)
   ·exact KG h
def VW (k:BE) (e:Bi):Bool:=
 match e with
 |.exit i=>!k.out&&Nat.beq i k.id
 |.ret=>k.out
 |_=>false
theorem Zm {k:BE} {e:Bi} (h:VW k e=true):e=k.NC:=by
 unfold VW at h
 unfold BE.NC
 split at h
 ·rw [aT,Al]at h
  obtain ⟨c,rfl⟩:=h
  cases hk:k.out<;>rw [hk]at c
  ·rfl
  ·cases c
 ·rw [h];rfl
 ·cases h
noncomputable def UP (Γ:An) (k:BE) (c:List Nat) (r:Option (Bi×Fr)):Bool:=
 match r with
 |some (e,f)=>VW k e&&(AeR Γ (Kd (He k.pre) 0++c) k.df f.df&&(Nat.beq (Tq k.post) (He k.pre+IF c)&&(Jm c&&(XX (He k.pre) c&&(Ye Γ (Kd (He k.pre) 0++c) f.tm k.Oz&&Lh Γ f.h (Kd (He k.pre) 0++c) k.post 0)))))
 |_=>false
noncomputable def Rm (Γ:An) (call:C3) (fuel d:Nat) (F:EN) (k:BE):Option (Bi×Fr):=
 match XN k.id (Yb F.body 0)with
 |[b]=>iter (fun f=>IV Γ k.id f Γ.loops) (fun f=>FT Γ call fuel b k.id f) fuel ⟨OW k.Y7 .nil,Be k.pre (empty d Γ),k.df⟩
 |_=>none
theorem O9 {P:Program} {pl:List C5} {Γ:An} (A:Γ.AG ρ) {call:C3} (hc:BH P ρ call) (ac:P.follows .mixedOrders=true) {DT:FuncId→Option EN} (ht:Qm P pl DT) {g:FuncId} {F:EN} (hF:DT g=some F) (hl:∀k∈Γ.loops,C2 P ρ g k)
  {fuel d:Nat} {k:BE} {nw:List Nat} (j:UP Γ k nw (Rm Γ call fuel d F k)=true):C2 P ρ g k:=by
 intro fn c hf J y Z u
 obtain ⟨ay,M,O,_⟩:=ht g F hF
 rw [hf]at M
 simp only [oI]at M
 subst M
 obtain ⟨c',D,ak,_⟩:=Ef O
 rw [J]at D
 simp only [oI]at D
 subst D
 obtain ⟨az,hx,o⟩:=VD ak y Z
 rw [u]at o
 have o:=KG o
 unfold Rm at j
 split at j
 case h_2=>cases j
 rename_i b hb
 rw [hb,List.mem_singleton]at o
 subst o
 unfold UP at j
 split at j
 case h_2=>cases j
 rename_i i f aj
 rw [aT,aT,aT,aT,aT,aT,Al,GI,Fj,Dq]at j
 obtain ⟨af,ai,ad,ag,am,ab,N⟩:=j
 have ae:DH P ρ fn.ntmps Γ.loops k.id y.2:=fun z hz k' H e=>by
  refine hl k' H fn c hf J z ?_ e.symm
  have sub:∀(c:Code) (cur:Nat),y∈Dr cur c→z∈Dr cur c:=by
   intro c
   induction c with
   |seq a b iha ihb=>intro cur h;rcases List.mem_append.1 h with h|h;exact List.mem_append_left _ (iha _ h);exact List.mem_append_right _ (ihb _ h)
   |cond v a b iha ihb=>intro cur h;rcases List.mem_append.1 h with h|h;exact List.mem_append_left _ (iha _ h);exact List.mem_append_right _ (ihb _ h)
   |block id b ih=>intro cur h;exact ih _ h
   |loop b ih=>
    intro cur h
    rcases List.mem_cons.1 h with e|h
    ·subst e
     refine List.mem_cons_of_mem _ ?_
     have u:cur=k.id:=u
     rw [u]
     exact hz
    ·exact List.mem_cons_of_mem _ (ih _ h)
   |_=>intro cur h;simp [Dr]at h
  exact sub c 0 Z
 obtain ⟨m,hm⟩:=Fu (nt:=fn.ntmps) (x:=y.2) A (fun k' H e=>hl k' H fn c hf J y Z (by rw [u,e])) (fun ah F L=>Ib A hc ac y.2 ae hx ah F L) fuel aj
 refine ⟨m,fun μ a w Q C hQ=>hm ⟨C.tmps,C.size,C.heap.withFacts A,C.defs⟩ ?_⟩
 intro μ1 a' w' e X g1 U
 rw [Zm af]at U
 have U:=BE.AeQ U
 subst U
 obtain ⟨μ',g',R⟩:=shown A ad (Fz ag) (KS am) N C.heap g1
 refine hQ μ' a' w' ⟨fun t=>?_,X.size,g'.rel,?_⟩ g'
 ·show Ag ρ μ' (EF ((OW k.Oz .nil).get t)) _
  cases hg:(OW k.Oz .nil).get t with
  |none=>trivial
  |some v=>
   rcases Qp _ _ _ _ hg with q|q
   ·exact Ll A R (Lf ab t v q) (X.tmps t)
   ·cases q
 ·exact TP A R ai X.defs
theorem C2.sub {P:Program} {τ:Dd} {g:FuncId} {k d:BE} (hs:k.sub τ=some d) (o:C2 P (ρ.sub τ) g k):C2 P ρ g d:=fun fn c hf hc y u e=>by
 have j:d.id=k.id:=by
  unfold BE.sub at hs
  split at hs
  ·simp only [oI]at hs;subst hs;rfl
  ·cases hs
 exact Eh.sub hs (o fn c hf hc y u (by rw [e,j]))
theorem C2.Ss {P:Program} {τ:Dd} {g:FuncId} {k d:BE} (hs:k.sub τ=some d) (o:C2 P ρ g d):C2 P (ρ.sub τ) g k:=fun fn c hf hc y u e=>by
 have j:d.id=k.id:=by
  unfold BE.sub at hs
  split at hs
  ·simp only [oI]at hs;subst hs;rfl
  ·cases hs
 exact Eh.Ss hs (o fn c hf hc y u (by rw [e,j]))
end
end Go.AM
end
section
namespace Go.AM
structure C7 where
 n:Nat:=0
 s:Nat:=0
 l:Nat:=0
 m:Nat:=0
def C7.add (a b:C7):C7:=⟨a.n+b.n,a.s+b.s,a.l+b.l,a.m+b.m⟩
def C7.eq (a b:C7):Bool:=Nat.beq a.n b.n&&(Nat.beq a.s b.s&&(Nat.beq a.l b.l&&Nat.beq a.m b.m))
structure Ah where
 n:List Int:=[]
 s:List (List Nat):=[]
 l:List (List (List PV)):=[]
 m:List (List (List Nat×List PV)):=[]
def Ah.app (a b:Ah):Ah:=⟨a.n++b.n,a.s++b.s,a.l++b.l,a.m++b.m⟩
def Ah.cnt (v:Ah):C7:=⟨v.n.length,v.s.length,v.l.length,v.m.length⟩
def Ah.env (T:Nat→Option Obj) (v:Ah):Env:=Env.of T v.n v.s v.l v.m
def Ah.e (v:Ah):Env:=v.env fun _=>none
def N7 {α:Type} (d:α):Nat→Nat→List α→List α
 |0,_,_=>[]
 |k+1,i,l=>l.getD i d::N7 d k (i+1) l
def Ah.fit (c:C7) (v:Ah):Ah:=⟨N7 0 c.n 0 v.n,N7 [] c.s 0 v.s,N7 [] c.l 0 v.l,N7 [] c.m 0 v.m⟩
def Dd.vals (τ:Dd) (ρ:Env):Ah:=⟨τ.n.map (·.den ρ),τ.s.map (Br ρ),τ.l.map ρ.lst,τ.m.map ρ.map⟩
def Dd.cnt (τ:Dd):C7:=⟨τ.n.length,τ.s.length,τ.l.length,τ.m.length⟩
def Dd.app (a b:Dd):Dd:=⟨a.n++b.n,a.s++b.s,a.l++b.l,a.m++b.m⟩
def N4 {α:Type} (f:Nat→α):Nat→Nat→List α
 |0,_=>[]
 |k+1,i=>f i::N4 f k (i+1)
def M0 (c d:C7):Dd:=⟨N4 .var d.n c.n,N4 .svar d.s c.s,N4 id d.l c.l,N4 id d.m c.m⟩
inductive CK where
 |int (k:IntKind)
 |bool
 |str
 |list (es:Nat)
 |nilp
def CK.cnt:CK→C7
 |.int _=>{n:=1}
 |.bool=>{n:=1}
 |.str=>{s:=1}
 |.list _=>{n:=1,l:=1}
 |.nilp=>{}
def b01 (b:Bool):Int:=bif b then 1 else 0
def CK.read:CK→PV→Option Ah
 |.int k,.int k' n=>bif VA k k' then some {n:=[n]}else none
 |.bool,.bool b=>some {n:=[b01 b]}
 |.str,.str s=>some {s:=[s]}
 |.list es,.list es' l=>bif Nat.beq es es' then some {n:=[(l.length:Int)],l:=[l]}else none
 |.nilp,.nilp=>some {}
 |_,_=>none
def CK.val (c:C7):CK→Aa
 |.int k=>.int k (.var c.n)
 |.bool=>.bool (.cmp .neq (.var c.n) (.lit 0))
 |.str=>.svar c.s
 |.list es=>.lst false c.l es (.var c.n)
 |.nilp=>.nilPtr
def Ii:List CK→C7
 |[]=>{}
 |k::r=>k.cnt.add (Ii r)
def CZ:List CK→List PV→Option Ah
 |[],[]=>some {}
 |k::sh,p::ps=>match k.read p with
  |some a=>(match CZ sh ps with|some b=>some (a.app b) |none=>none)
  |none=>none
 |_,_=>none
def NY:List CK→C7→List Aa
 |[],_=>[]
 |k::r,c=>k.val c::NY r (c.add k.cnt)
def Nt:List CK→C7→List (Nat×ST)
 |[],_=>[]
 |k::r,c=>match k with
  |.list _=>(c.l,.var c.n)::Nt r (c.add k.cnt)
  |_=>Nt r (c.add k.cnt)
def Hs (ρ:Env):CK→Aa→Option PV
 |.int k,.int k' t=>bif VA k k' then some (.int k (t.den ρ))else none
 |.bool,.bool b=>some (.bool (b.den ρ))
 |.str,.str s=>some (.str s)
 |.str,.svar i=>some (.str (ρ.str i))
 |.list es,.nilSlice=>some (.list es [])
 |.list es,.lst _ i es' _=>bif Nat.beq es es' then some (.list es (ρ.lst i))else none
 |.nilp,.nilPtr=>some .nilp
 |_,_=>none
def CE (ρ:Env):List CK→List Aa→Option (List PV)
 |[],[]=>some []
 |k::sh,a::as=>match Hs ρ k a with
  |some p=>(match CE ρ sh as with|some ps=>some (p::ps) |none=>none)
  |none=>none
 |_,_=>none
def Hp (ρ:Env) (c:List CK):List (List Aa)→Option (List (List PV))
 |[]=>some []
 |a::as=>match CE ρ c a with
  |some p=>(match Hp ρ c as with|some ps=>some (p::ps) |none=>none)
  |none=>none
def D0 (ρ:Env) (c:List CK):AL→Option (List (List PV))
 |.els es=>Hp ρ c es
 |.all i=>some (ρ.lst i)
 |.take i n=>if 0≤n.den ρ∧n.den ρ≤((ρ.lst i).length:Int)then some ((ρ.lst i).take (n.den ρ).toNat)else none
 |.drop i n=>if 0≤n.den ρ∧n.den ρ≤((ρ.lst i).length:Int)then some ((ρ.lst i).drop (n.den ρ).toNat)else none
def CI (ρ:Env) (c:List CK):List AL→Option (List (List PV))
 |[]=>some []
 |p::ps=>match D0 ρ c p with
  |some a=>(match CI ρ c ps with|some b=>some (a++b) |none=>none)
  |none=>none
def CP (ρ:Env) (c:List CK):List (Aa×List Aa)→Option (List (List Nat×List PV))
 |[]=>some []
 |x::r=>match CE ρ c x.2 with
  |some p=>(match CP ρ c r with|some ps=>some ((Br ρ x.1,p)::ps) |none=>none)
  |none=>none
def M6 (op:BinOp) (x y:Int):Prop:=
 match op with
 |.eql=>x=y
 |.neq=>x≠y
 |.lss=>x<y
 |.leq=>x≤y
 |.gtr=>x>y
 |_=>x≥y
instance Aji (op:BinOp) (x y:Int):Decidable (M6 op x y):=
 match op with
 |.eql=>inferInstanceAs (Decidable (x=y))
 |.neq=>inferInstanceAs (Decidable (x≠y))
 |.lss=>inferInstanceAs (Decidable (x<y))
 |.leq=>inferInstanceAs (Decidable (x≤y))
 |.gtr=>inferInstanceAs (Decidable (x>y))
 |.geq|.add|.sub|.mul|.quo|.rem|.and|.or|.xor|.shl|.shr|.andNot=>inferInstanceAs (Decidable (x≥y))
inductive Tree where
 |fail
 |leaf (alt:Nat) (nw:List Nat) (τ:Dd)
 |test (op:BinOp) (a b:ST) (t e:Tree)
 |A4 (i:Nat) (n:Int) (t e:Tree)
 |sets (i:Nat) (s:List Nat) (t e:Tree)
 |elem (l:Nat) (j:ST) (sh:List CK) (k:Tree)
 |Ad (l:Nat) (t:ST) (k:Tree)
 |BB (s lo hi:Nat) (k:Tree)
 |DB (x y:Aa) (t e:Tree)
 |cat (x y:Aa) (k:Tree)
 |Ay (ps:List AL) (sh:List CK) (k:Tree)
 |look (m:Nat) (key:Aa) (sh:List CK) (t e:Tree)
 |up (m:Nat) (key:Aa) (cs:List Aa) (sh:List CK) (k:Tree)
 |Mm (es:List (Aa×List Aa)) (sh:List CK) (k:Tree)
 |bump (t:ST) (n:Nat) (k:Tree)
 |BI (z:Nat×Nat×Nat×Nat×Nat) (k:Tree)
 |call (c alt:Nat) (τ:Dd) (o:C7) (k e:Tree)
abbrev Out:=Nat×Ah
abbrev W0:=Nat→Ah→Option Out
def NO (l:List (List PV)) (j:Int) (c:List CK) (k:Ah→Option Out):Option Out:=
 if 0≤j then (match l[j.toNat]? with|some ps=>(match CZ c ps with|some w=>k (w.fit (Ii c)) |none=>none) |none=>none)else none
def Jo (m:List (List Nat×List PV)) (s:List Nat) (c:List CK) (k:Ah→Option Out) (e:Option Out):Option Out:=
 match BK m s with
 |some ps=>(match CZ c ps with|some w=>k (w.fit (Ii c)) |none=>none)
 |none=>e
def LZ (r:Option Out) (c:Nat) (o:C7) (k:Ah→Option Out) (e:Option Out):Option Out:=
 match r with
 |some w=>if w.1=c then k (w.2.fit o)else e
 |none=>none
def HI {α:Type} (r:Option α) (k:α→Option Out):Option Out:=
 match r with
 |some a=>k a
 |none=>none
def Tree.eval (M:W0):Tree→Ah→Option Out
 |.fail,_=>none
 |.leaf alt _ τ,v=>some (alt,τ.vals v.e)
 |.test op a b t e,v=>if M6 op (a.den v.e) (b.den v.e)then t.eval M v else e.eval M v
 |.A4 i n t e,v=>if v.n.getD i 0=n then t.eval M v else e.eval M v
 |.sets i s t e,v=>if v.s.getD i []=s then t.eval M v else e.eval M v
 |.elem l j sh k,v=>NO (v.l.getD l []) (j.den v.e) sh fun w=>k.eval M (v.app w)
 |.Ad l t k,v=>if t.den v.e=((v.l.getD l []).length:Int)then k.eval M v else none
 |.BB s lo hi k,v=>if lo≤(v.s.getD s []).length∧(v.s.getD s []).length≤hi then k.eval M (v.app {n:=[((v.s.getD s []).length:Int)]})else none
 |.DB x y t e,v=>if Br v.e x=Br v.e y then t.eval M v else e.eval M v
 |.cat x y k,v=>if (Br v.e x).length+(Br v.e y).length≤1048576 then k.eval M (v.app {s:=[Br v.e x++Br v.e y]})else none
 |.Ay ps sh k,v=>HI (CI v.e sh ps) fun l=>k.eval M (v.app {n:=[(l.length:Int)],l:=[l]})
 |.look m key sh t e,v=>Jo (v.m.getD m []) (Br v.e key) sh (fun w=>t.eval M (v.app w)) (e.eval M v)
 |.up m key cs sh k,v=>HI (CE v.e sh cs) fun ps=>k.eval M (v.app {m:=[Bj (v.m.getD m []) (Br v.e key) ps]})
 |.Mm es sh k,v=>HI (CP v.e sh es) fun l=>k.eval M (v.app {m:=[l]})
 |.bump t n k,v=>if t.den v.e+n≤1048576 then k.eval M (v.app {n:=[t.den v.e+n]})else none
 |.BI _ k,v=>k.eval M v
 |.call c alt τ o k e,v=>LZ (M c (τ.vals v.e)) alt o (fun w=>k.eval M (v.app w)) (e.eval M v)
def mir (trees:Nat→Tree):Nat→W0
 |0,_,_=>none
 |N+1,c,v=>(trees c).eval (mir trees N) v
def ST.Cs (n:Nat):ST→Bool
 |.lit _=>true
 |.var i=>Nat.blt i n
 |.bin _ _ a b=>a.Cs n&&b.Cs n
 |.conv _ a=>a.Cs n
def SB.Cs (n:Nat):SB→Bool
 |.lit _=>true
 |.cmp _ a b=>a.Cs n&&b.Cs n
 |.no a=>a.Cs n
def Aa.Cs (c:C7):Aa→Bool
 |.bool b=>b.Cs c.n
 |.int _ t=>t.Cs c.n
 |.str _=>true
 |.svar i=>Nat.blt i c.s
 |.lst f i _ t=>!f&&(Nat.blt i c.l&&t.Cs c.n)
 |.nilPtr=>true
 |.nilSlice=>true
 |_=>false
def Cn {α:Type} (p:α→Bool):List α→Bool
 |[]=>true
 |a::r=>p a&&Cn p r
def AL.Cs (c:C7):AL→Bool
 |.els es=>Cn (Cn (Aa.Cs c)) es
 |.all i=>Nat.blt i c.l
 |.take i n=>Nat.blt i c.l&&n.Cs c.n
 |.drop i n=>Nat.blt i c.l&&n.Cs c.n
def MA (c:C7) (a:Aa):Bool:=a.isStr&&a.Cs c
def Dd.Cs (c:C7) (τ:Dd):Bool:=Cn (ST.Cs c.n) τ.n&&(Cn (MA c) τ.s&&(Cn (fun i=>Nat.blt i c.l) τ.l&&Cn (fun i=>Nat.blt i c.m) τ.m))
def Tree.Cs:Tree→C7→Bool
 |.fail,_=>true
 |.leaf _ _ τ,c=>τ.Cs c
 |.test _ a b t e,c=>a.Cs c.n&&(b.Cs c.n&&(t.Cs c&&e.Cs c))
 |.A4 i _ t e,c=>Nat.blt i c.n&&(t.Cs c&&e.Cs c)
 |.sets i _ t e,c=>Nat.blt i c.s&&(t.Cs c&&e.Cs c)
 |.elem l j sh k,c=>Nat.blt l c.l&&(j.Cs c.n&&k.Cs (c.add (Ii sh)))
 |.Ad l t k,c=>Nat.blt l c.l&&(t.Cs c.n&&k.Cs c)
 |.BB s _ _ k,c=>Nat.blt s c.s&&k.Cs (c.add {n:=1})
 |.DB x y t e,c=>MA c x&&(MA c y&&(t.Cs c&&e.Cs c))
 |.cat x y k,c=>MA c x&&(MA c y&&k.Cs (c.add {s:=1}))
 |.Ay ps _ k,c=>Cn (AL.Cs c) ps&&k.Cs (c.add {n:=1,l:=1})
 |.look m key sh t e,c=>Nat.blt m c.m&&(MA c key&&(t.Cs (c.add (Ii sh))&&e.Cs c))
 |.up m key cs _ k,c=>Nat.blt m c.m&&(MA c key&&(Cn (Aa.Cs c) cs&&k.Cs (c.add {m:=1})))
 |.Mm es _ k,c=>Cn (fun x:Aa×List Aa=>MA c x.1&&Cn (Aa.Cs c) x.2) es&&k.Cs (c.add {m:=1})
 |.bump t _ k,c=>t.Cs c.n&&k.Cs (c.add {n:=1})
 |.BI _ k,c=>k.Cs c
 |.call _ _ τ o k e,c=>τ.Cs c&&(k.Cs (c.add o)&&e.Cs c)
def At (vf:Ah) (c:C7) (w:Ah):Prop:=∃v r:Ah,v.cnt=c∧vf=(v.app w).app r
def Tree.sem (M:W0) (vf:Ah):Tree→C7→Out→Prop
 |.fail,_,_=>False
 |.leaf alt _ τ,_,o=>o=(alt,τ.vals vf.e)
 |.test op a b t e,c,o=>(M6 op (a.den vf.e) (b.den vf.e)∧t.sem M vf c o)∨(¬M6 op (a.den vf.e) (b.den vf.e)∧e.sem M vf c o)
 |.A4 i n t e,c,o=>(vf.n.getD i 0=n∧t.sem M vf c o)∨(vf.n.getD i 0≠n∧e.sem M vf c o)
 |.sets i s t e,c,o=>(vf.s.getD i []=s∧t.sem M vf c o)∨(vf.s.getD i []≠s∧e.sem M vf c o)
 |.elem l j sh k,c,o=>0≤j.den vf.e∧∃ps w,(vf.l.getD l [])[(j.den vf.e).toNat]?=some ps∧CZ sh ps=some w∧At vf c w∧k.sem M vf (c.add (Ii sh)) o
 |.Ad l t k,c,o=>t.den vf.e=((vf.l.getD l []).length:Int)∧k.sem M vf c o
 |.BB s lo hi k,c,o=>lo≤(vf.s.getD s []).length∧(vf.s.getD s []).length≤hi∧At vf c {n:=[((vf.s.getD s []).length:Int)]}∧k.sem M vf (c.add {n:=1}) o
 |.DB x y t e,c,o=>(Br vf.e x=Br vf.e y∧t.sem M vf c o)∨(Br vf.e x≠Br vf.e y∧e.sem M vf c o)
 |.cat x y k,c,o=>(Br vf.e x).length+(Br vf.e y).length≤1048576∧At vf c {s:=[Br vf.e x++Br vf.e y]}∧k.sem M vf (c.add {s:=1}) o
 |.Ay ps sh k,c,o=>∃l,CI vf.e sh ps=some l∧At vf c {n:=[(l.length:Int)],l:=[l]}∧k.sem M vf (c.add {n:=1,l:=1}) o
 |.look m key sh t e,c,o=>(∃ps w,BK (vf.m.getD m []) (Br vf.e key)=some ps∧CZ sh ps=some w∧At vf c w∧t.sem M vf (c.add (Ii sh)) o)∨(BK (vf.m.getD m []) (Br vf.e key)=none∧e.sem M vf c o)
 |.up m key cs sh k,c,o=>∃ps,CE vf.e sh cs=some ps∧At vf c {m:=[Bj (vf.m.getD m []) (Br vf.e key) ps]}∧k.sem M vf (c.add {m:=1}) o
 |.Mm es sh k,c,o=>∃l,CP vf.e sh es=some l∧At vf c {m:=[l]}∧k.sem M vf (c.add {m:=1}) o
 |.bump t n k,c,o=>t.den vf.e+n≤1048576∧At vf c {n:=[t.den vf.e+n]}∧k.sem M vf (c.add {n:=1}) o
 |.BI _ k,c,o=>k.sem M vf c o
 |.call g alt τ u k e,c,o=>(∃w,M g (τ.vals vf.e)=some (alt,w)∧At vf c (w.fit u)∧k.sem M vf (c.add u) o)∨e.sem M vf c o
end Go.AM
end
section
namespace Go.AM
theorem Ah.ext' {a b:Ah} (g:a.n=b.n) (c:a.s=b.s) (j:a.l=b.l) (d:a.m=b.m):a=b:=by
 cases a;cases b;simp only at g c j d;subst g c j d;rfl
theorem Ah.Bt (a b c:Ah):(a.app b).app c=a.app (b.app c):=by
 apply Ah.ext'<;>simp [Ah.app,List.append_assoc]
theorem Ah.Afj (a:Ah):a.app {}=a:=by
 apply Ah.ext'<;>simp [Ah.app]
theorem Ah.Cz (a b:Ah):(a.app b).cnt=a.cnt.add b.cnt:=by
 simp [Ah.app,Ah.cnt,C7.add]
theorem HY {α:Type} (d:α):∀(k i:Nat) (l:List α),(N7 d k i l).length=k
 |0,_,_=>rfl
 |k+1,i,l=>by simp [N7,HY d k (i+1) l]
theorem Ah.AeX (c:C7) (v:Ah):(v.fit c).cnt=c:=by
 simp [Ah.fit,Ah.cnt,HY]
theorem TG {α:Type} (d:α):∀(k i j:Nat) (l:List α),j<k→(N7 d k i l)[j]?=some (l.getD (i+j) d)
 |0,_,_,_,h=>by omega
 |k+1,i,j,l,h=>by
  cases j with
  |zero=>simp [N7]
  |succ j=>
   show (N7 d k (i+1) l)[j]?=_
   rw [TG d k (i+1) j l (by omega)]
   congr 2;omega
theorem Zl {α:Type} (d:α) (l:List α):N7 d l.length 0 l=l:=by
 apply List.ext_getElem?
 intro j
 by_cases h:j<l.length
 ·rw [TG d _ _ _ _ h,List.getElem?_eq_getElem h]
  simp [List.getD_eq_getElem?_getD,List.getElem?_eq_getElem h]
 ·rw [List.getElem?_eq_none (by rw [HY];omega),List.getElem?_eq_none (by omega)]
theorem Ah.N6 {v:Ah} {c:C7} (h:v.cnt=c):v.fit c=v:=by
 subst h
 apply Ah.ext'<;>exact Zl _ _
theorem C7.eq_iff {a b:C7}:a.eq b=true↔a=b:=by
 cases a;cases b
 simp [C7.eq]
theorem CK.Tf {k:CK} {p:PV} {w:Ah} (h:k.read p=some w):w.cnt=k.cnt:=by
 cases k<;>cases p<;>simp only [CK.read,reduceCtorEq,oI]at h
 case int.int=>
  obtain ⟨_,h⟩:=Ao h
  simp only [oI]at h
  subst h;rfl
 case list.list=>
  obtain ⟨_,h⟩:=Ao h
  simp only [oI]at h
  subst h;rfl
 all_goals subst h;rfl
theorem Gr:∀{c:List CK} {ps:List PV} {w:Ah},CZ c ps=some w→w.cnt=Ii c
 |[],[],w,h=>by simp only [CZ,oI]at h;subst h;rfl
 |k::c,p::ps,w,h=>by
  simp only [CZ]at h
  split at h
  ·rename_i a ha
   split at h
   ·rename_i b hb
    simp only [oI]at h
    subst h
    rw [Ah.Cz,CK.Tf ha,Gr hb];rfl
   ·cases h
  ·cases h
 |[],_::_,w,h=>by simp [CZ]at h
 |_::_,[],w,h=>by simp [CZ]at h
section
variable {v r:Ah}
theorem Qo {i:Nat} (h:Nat.blt i v.cnt.n=true):(v.app r).n.getD i 0=v.n.getD i 0:=by
 have h:i<v.n.length:=by rwa [Nat.blt_eq]at h
 simp only [Ah.app,List.getD_eq_getElem?_getD,List.getElem?_append_left h]
theorem JF {i:Nat} (h:Nat.blt i v.cnt.s=true):(v.app r).s.getD i []=v.s.getD i []:=by
 have h:i<v.s.length:=by rwa [Nat.blt_eq]at h
 simp only [Ah.app,List.getD_eq_getElem?_getD,List.getElem?_append_left h]
theorem GJ {i:Nat} (h:Nat.blt i v.cnt.l=true):(v.app r).l.getD i []=v.l.getD i []:=by
 have h:i<v.l.length:=by rwa [Nat.blt_eq]at h
 simp only [Ah.app,List.getD_eq_getElem?_getD,List.getElem?_append_left h]
theorem Mu {i:Nat} (h:Nat.blt i v.cnt.m=true):(v.app r).m.getD i []=v.m.getD i []:=by
 have h:i<v.m.length:=by rwa [Nat.blt_eq]at h
 simp only [Ah.app,List.getD_eq_getElem?_getD,List.getElem?_append_left h]
theorem ST.Cd:∀{t:ST},t.Cs v.cnt.n=true→t.den (v.app r).e=t.den v.e
 |.lit _,_=>rfl
 |.var i,h=>Qo h
 |.bin _ _ a b,h=>by
  simp only [ST.Cs,aT]at h
  simp only [ST.den,ST.Cd h.1,ST.Cd h.2]
 |.conv _ a,h=>by
  simp only [ST.Cs]at h
  simp only [ST.den,ST.Cd h]
theorem SB.Cd:∀{t:SB},t.Cs v.cnt.n=true→t.den (v.app r).e=t.den v.e
 |.lit _,_=>rfl
 |.cmp _ a b,h=>by
  simp only [SB.Cs,aT]at h
  simp only [SB.den,ST.Cd h.1,ST.Cd h.2]
 |.no a,h=>by
  simp only [SB.Cs]at h
  simp only [SB.den,SB.Cd h]
theorem De {a:Aa} (h:MA v.cnt a=true):Br (v.app r).e a=Br v.e a:=by
 simp only [MA,aT]at h
 cases a<;>simp only [Aa.isStr,Bool.false_eq_true,false_and]at h
 case str=>rfl
 case svar i=>exact JF h.2
theorem Zv {k:CK} {a:Aa} (h:a.Cs v.cnt=true):Hs (v.app r).e k a=Hs v.e k a:=by
 cases k<;>cases a<;>simp only [Aa.Cs,Bool.false_eq_true]at h<;>try rfl
 case int.int=>simp only [Hs,ST.Cd h]
 case bool.bool=>simp only [Hs,SB.Cd h]
 case str.svar i=>simp only [Hs];rw [show (v.app r).e.str i=v.e.str i from JF h]
 case list.lst es f i es' n=>
  simp only [aT]at h
  simp only [Hs];rw [show (v.app r).e.lst i=v.e.lst i from GJ h.2.1]
theorem Gz {α:Type} {p:α→Bool}:∀{l:List α},Cn p l=true→∀x∈l,p x=true
 |[],_,_,hx=>by cases hx
 |a::l,h,x,hx=>by
  simp only [Cn,aT]at h
  rcases List.mem_cons.1 hx with rfl|hx
  ·exact h.1
  ·exact Gz h.2 x hx
theorem GZ:∀{c:List CK} {as:List Aa},Cn (Aa.Cs v.cnt) as=true→CE (v.app r).e c as=CE v.e c as
 |[],[],_=>rfl
 |[],_::_,_=>rfl
 |_::_,[],_=>rfl
 |k::c,a::as,h=>by
  simp only [Cn,aT]at h
  simp only [CE,Zv h.1,GZ h.2]
theorem Pv {c:List CK}:∀{as:List (List Aa)},Cn (Cn (Aa.Cs v.cnt)) as=true→Hp (v.app r).e c as=Hp v.e c as
 |[],_=>rfl
 |a::as,h=>by
  simp only [Cn,aT]at h
  simp only [Hp,GZ h.1,Pv h.2]
theorem YS {c:List CK} {p:AL} (h:p.Cs v.cnt=true):D0 (v.app r).e c p=D0 v.e c p:=by
 cases p<;>simp only [AL.Cs,aT]at h
 case els es=>exact Pv h
 case all i=>simp only [D0];rw [show (v.app r).e.lst i=v.e.lst i from GJ h]
 case take i n=>simp only [D0];rw [show (v.app r).e.lst i=v.e.lst i from GJ h.1,ST.Cd h.2]
 case drop i n=>simp only [D0];rw [show (v.app r).e.lst i=v.e.lst i from GJ h.1,ST.Cd h.2]
theorem Nc {c:List CK}:∀{ps:List AL},Cn (AL.Cs v.cnt) ps=true→CI (v.app r).e c ps=CI v.e c ps
 |[],_=>rfl
 |p::ps,h=>by
  simp only [Cn,aT]at h
  simp only [CI,YS h.1,Nc h.2]
theorem Kq {d:List CK}:∀{c:List (Aa×List Aa)},Cn (fun x:Aa×List Aa=>MA v.cnt x.1&&Cn (Aa.Cs v.cnt) x.2) c=true→CP (v.app r).e d c=CP v.e d c
 |[],_=>rfl
 |x::c,h=>by
  simp only [Cn,aT]at h
  simp only [CP,GZ h.1.2,De h.1.1,Kq h.2]
theorem Dh {α β:Type} {f g:α→β}:∀{l:List α},(∀x∈l,f x=g x)→l.map f=l.map g
 |[],_=>rfl
 |x::l,h=>by
  rw [List.map_cons,List.map_cons,h x List.mem_cons_self,Dh fun y c=>h y (List.mem_cons_of_mem _ c)]
theorem Dd.ZL {τ:Dd} (h:τ.Cs v.cnt=true):τ.vals (v.app r).e=τ.vals v.e:=by
 simp only [Dd.Cs,aT]at h
 obtain ⟨j,o,k,g⟩:=h
 apply Ah.ext'
 ·exact Dh fun t d=>ST.Cd (Gz j t d)
 ·exact Dh fun t d=>De (Gz o t d)
 ·exact Dh fun i c=>GJ (Gz k i c)
 ·exact Dh fun i c=>Mu (Gz g i c)
end
theorem Wa {l:List (List PV)} {j:Int} {c:List CK} {k:Ah→Option Out} {o:Out} (h:NO l j c k=some o):0≤j∧∃ps w,l[j.toNat]?=some ps∧CZ c ps=some w∧k w=some o:=by
 unfold NO at h
 split at h
 ·rename_i u
  split at h
  ·rename_i ps d
   split at h
   ·rename_i w g
    rw [Ah.N6 (Gr g)]at h
    exact ⟨u,ps,w,d,g,h⟩
   ·cases h
  ·cases h
 ·cases h
theorem Vv {m:List (List Nat×List PV)} {s:List Nat} {d:List CK} {k:Ah→Option Out} {e:Option Out} {o:Out} (h:Jo m s d k e=some o):(∃ps w,BK m s=some ps∧CZ d ps=some w∧k w=some o)∨(BK m s=none∧e=some o):=by
 unfold Jo at h
 split at h
 ·rename_i ps g
  split at h
  ·rename_i w c
   rw [Ah.N6 (Gr c)]at h
   exact .inl ⟨ps,w,g,c,h⟩
  ·cases h
 ·rename_i j
  exact .inr ⟨j,h⟩
theorem Wm {r:Option Out} {c:Nat} {u:C7} {k:Ah→Option Out} {e:Option Out} {o:Out} (h:LZ r c u k e=some o):(∃w,r=some (c,w)∧k (w.fit u)=some o)∨e=some o:=by
 unfold LZ at h
 split at h
 ·rename_i w
  split at h
  ·rename_i ha
   refine .inl ⟨w.2,?_,h⟩
   rw [←ha]
  ·exact .inr h
 ·cases h
theorem Jh {α:Type} {r:Option α} {k:α→Option Out} {o:Out} (h:HI r k=some o):∃a,r=some a∧k a=some o:=by
 unfold HI at h
 split at h
 ·rename_i a
  exact ⟨a,rfl,h⟩
 ·cases h
theorem B5 {M:W0}:∀(t:Tree) {v:Ah} {o:Out},t.Cs v.cnt=true→t.eval M v=some o→∃r,t.sem M (v.app r) v.cnt o
 |.fail,v,o,_,h=>by simp [Tree.eval]at h
 |.leaf alt nw τ,v,o,hb,h=>by
  simp only [Tree.eval,oI]at h
  refine ⟨{},?_⟩
  simp only [Tree.sem,Ah.Afj]
  exact h.symm
 |.test op a b t e,v,o,hb,h=>by
  simp only [Tree.Cs,aT]at hb
  simp only [Tree.eval]at h
  split at h
  ·rename_i hc
   obtain ⟨r,d⟩:=B5 t hb.2.2.1 h
   refine ⟨r,.inl ⟨?_,d⟩⟩
   rw [ST.Cd hb.1,ST.Cd hb.2.1];exact hc
  ·rename_i hc
   obtain ⟨r,d⟩:=B5 e hb.2.2.2 h
   refine ⟨r,.inr ⟨?_,d⟩⟩
   rw [ST.Cd hb.1,ST.Cd hb.2.1];exact hc
 |.A4 i n t e,v,o,hb,h=>by
  simp only [Tree.Cs,aT]at hb
  simp only [Tree.eval]at h
  split at h
  ·rename_i hc
   obtain ⟨r,d⟩:=B5 t hb.2.1 h
   exact ⟨r,.inl ⟨by rw [Qo hb.1];exact hc,d⟩⟩
  ·rename_i hc
   obtain ⟨r,d⟩:=B5 e hb.2.2 h
   exact ⟨r,.inr ⟨by rw [Qo hb.1];exact hc,d⟩⟩
 |.sets i s t e,v,o,hb,h=>by
  simp only [Tree.Cs,aT]at hb
  simp only [Tree.eval]at h
  split at h
  ·rename_i hc
   obtain ⟨r,d⟩:=B5 t hb.2.1 h
   exact ⟨r,.inl ⟨by rw [JF hb.1];exact hc,d⟩⟩
  ·rename_i hc
   obtain ⟨r,d⟩:=B5 e hb.2.2 h
   exact ⟨r,.inr ⟨by rw [JF hb.1];exact hc,d⟩⟩
 |.elem l j sh k,v,o,hb,h=>by
  simp only [Tree.Cs,aT]at hb
  simp only [Tree.eval]at h
  obtain ⟨C,ps,w,g,A,h⟩:=Wa h
  have hc:(v.app w).cnt=v.cnt.add (Ii sh):=by rw [Ah.Cz,Gr A]
  obtain ⟨r,d⟩:=B5 k (by rw [hc];exact hb.2.2) h
  rw [hc,Ah.Bt]at d
  exact ⟨w.app r,by rw [ST.Cd hb.2.1];exact C,ps,w,by rw [ST.Cd hb.2.1,GJ hb.1];exact g,A,⟨v,r,rfl,(Ah.Bt _ _ _).symm⟩,d⟩
 |.Ad l t k,v,o,hb,h=>by
  simp only [Tree.Cs,aT]at hb
  simp only [Tree.eval]at h
  split at h
  ·rename_i hc
   obtain ⟨r,d⟩:=B5 k hb.2.2 h
   exact ⟨r,by rw [ST.Cd hb.2.1,GJ hb.1];exact hc,d⟩
  ·cases h
 |.BB s lo hi k,v,o,hb,h=>by
  simp only [Tree.Cs,aT]at hb
  simp only [Tree.eval]at h
  split at h
  ·rename_i hc
   obtain ⟨r,d⟩:=B5 k (v:=v.app {n:=[((v.s.getD s []).length:Int)]}) (by rw [Ah.Cz];exact hb.2) h
   rw [Ah.Cz,Ah.Bt]at d
   refine ⟨Ah.app {n:=[((v.s.getD s []).length:Int)]} r,?_⟩
   simp only [Tree.sem]
   rw [JF hb.1]
   exact ⟨hc.1,hc.2,⟨v,r,rfl,(Ah.Bt _ _ _).symm⟩,d⟩
  ·cases h
 |.DB x y t e,v,o,hb,h=>by
  simp only [Tree.Cs,aT]at hb
  simp only [Tree.eval]at h
  split at h
  ·rename_i hc
   obtain ⟨r,d⟩:=B5 t hb.2.2.1 h
   exact ⟨r,.inl ⟨by rw [De hb.1,De hb.2.1];exact hc,d⟩⟩
  ·rename_i hc
   obtain ⟨r,d⟩:=B5 e hb.2.2.2 h
   exact ⟨r,.inr ⟨by rw [De hb.1,De hb.2.1];exact hc,d⟩⟩
 |.cat x y k,v,o,hb,h=>by
  simp only [Tree.Cs,aT]at hb
  simp only [Tree.eval]at h
  split at h
  ·rename_i hc
   obtain ⟨r,d⟩:=B5 k (v:=v.app {s:=[Br v.e x++Br v.e y]}) (by rw [Ah.Cz];exact hb.2.2) h
   rw [Ah.Cz,Ah.Bt]at d
   refine ⟨Ah.app {s:=[Br v.e x++Br v.e y]} r,?_⟩
   simp only [Tree.sem]
   rw [De hb.1,De hb.2.1]
   exact ⟨hc,⟨v,r,rfl,(Ah.Bt _ _ _).symm⟩,d⟩
  ·cases h
 |.Ay ps sh k,v,o,hb,h=>by
  simp only [Tree.Cs,aT]at hb
  simp only [Tree.eval]at h
  obtain ⟨l,hl,h⟩:=Jh h
  obtain ⟨r,d⟩:=B5 k (v:=v.app {n:=[(l.length:Int)],l:=[l]}) (by rw [Ah.Cz];exact hb.2) h
  rw [Ah.Cz,Ah.Bt]at d
  refine ⟨Ah.app {n:=[(l.length:Int)],l:=[l]} r,l,?_,⟨v,r,rfl,(Ah.Bt _ _ _).symm⟩,d⟩
  rw [Nc hb.1];exact hl
 |.look m key sh t e,v,o,hb,h=>by
  simp only [Tree.Cs,aT]at hb
  simp only [Tree.eval]at h
  rcases Vv h with ⟨ps,w,g,A,h⟩|⟨hn,h⟩
  ·have hc:(v.app w).cnt=v.cnt.add (Ii sh):=by rw [Ah.Cz,Gr A]
   obtain ⟨r,d⟩:=B5 t (by rw [hc];exact hb.2.2.1) h
   rw [hc,Ah.Bt]at d
   exact ⟨w.app r,.inl ⟨ps,w,by rw [Mu hb.1,De hb.2.1];exact g,A,⟨v,r,rfl,(Ah.Bt _ _ _).symm⟩,d⟩⟩
  ·obtain ⟨r,d⟩:=B5 e hb.2.2.2 h
   exact ⟨r,.inr ⟨by rw [Mu hb.1,De hb.2.1];exact hn,d⟩⟩
 |.up m key cs sh k,v,o,hb,h=>by
  simp only [Tree.Cs,aT]at hb
  simp only [Tree.eval]at h
  obtain ⟨ps,g,h⟩:=Jh h
  obtain ⟨r,d⟩:=B5 k (v:=v.app {m:=[Bj (v.m.getD m []) (Br v.e key) ps]}) (by rw [Ah.Cz];exact hb.2.2.2) h
  rw [Ah.Cz,Ah.Bt]at d
  refine ⟨Ah.app {m:=[Bj (v.m.getD m []) (Br v.e key) ps]} r,ps,?_,?_,d⟩
  ·rw [GZ hb.2.2.1];exact g
  ·rw [Mu hb.1,De hb.2.1]
   exact ⟨v,r,rfl,(Ah.Bt _ _ _).symm⟩
 |.Mm es sh k,v,o,hb,h=>by
  simp only [Tree.Cs,aT]at hb
  simp only [Tree.eval]at h
  obtain ⟨l,hl,h⟩:=Jh h
  obtain ⟨r,d⟩:=B5 k (v:=v.app {m:=[l]}) (by rw [Ah.Cz];exact hb.2) h
  rw [Ah.Cz,Ah.Bt]at d
  refine ⟨Ah.app {m:=[l]} r,l,?_,⟨v,r,rfl,(Ah.Bt _ _ _).symm⟩,d⟩
  rw [Kq hb.1];exact hl
 |.bump t n k,v,o,hb,h=>by
  simp only [Tree.Cs,aT]at hb
  simp only [Tree.eval]at h
  split at h
  ·rename_i hc
   obtain ⟨r,d⟩:=B5 k (v:=v.app {n:=[t.den v.e+n]}) (by rw [Ah.Cz];exact hb.2) h
   rw [Ah.Cz,Ah.Bt]at d
   refine ⟨Ah.app {n:=[t.den v.e+n]} r,?_⟩
   simp only [Tree.sem]
   rw [ST.Cd hb.1]
   exact ⟨hc,⟨v,r,rfl,(Ah.Bt _ _ _).symm⟩,d⟩
  ·cases h
 |.BI z k,v,o,hb,h=>by
  obtain ⟨r,d⟩:=B5 k (v:=v) hb h
  exact ⟨r,d⟩
 |.call c alt τ u k e,v,o,hb,h=>by
  simp only [Tree.Cs,aT]at hb
  simp only [Tree.eval]at h
  rcases Wm h with ⟨w,A,h⟩|h
  ·have hc:(v.app (w.fit u)).cnt=v.cnt.add u:=by rw [Ah.Cz,Ah.AeX]
   obtain ⟨r,d⟩:=B5 k (by rw [hc];exact hb.2.1) h
   rw [hc,Ah.Bt]at d
   exact ⟨(w.fit u).app r,.inl ⟨w,by rw [Dd.ZL hb.1];exact A,⟨v,r,rfl,(Ah.Bt _ _ _).symm⟩,d⟩⟩
  ·obtain ⟨r,d⟩:=B5 e hb.2.2 h
   exact ⟨r,.inr d⟩
end Go.AM
end
section
namespace Go.AM
inductive Kx where
 |call (x:BA)
 |loop (k:BE)
def Kx.sub (τ:Dd):Kx→Option Kx
 |.call x=>(x.sub τ).map .call
 |.loop k=>(k.sub τ).map .loop
def Kx.Holds (P:Program) (ρ:Env) (g:FuncId):Kx→Prop
 |.call x=>Go.AM.Holds P ρ g x
 |.loop k=>C2 P ρ g k
structure Alt where
 outs:C7
 w:Kx
structure Spec where
 f:Nat
 ins:C7
 alts:List Alt
theorem Kx.Aij {P:Program} {ρ:Env} {τ:Dd} {g:FuncId} {w y:Kx} (hs:w.sub τ=some y) (h:w.Holds P (ρ.sub τ) g):y.Holds P ρ g:=by
 cases w
 case call x=>
  obtain ⟨z,c,rfl⟩:=mS hs
  exact Go.AM.Holds.sub c h
 case loop k=>
  obtain ⟨z,c,rfl⟩:=mS hs
  exact C2.sub c h
theorem Kx.Ahc {P:Program} {ρ:Env} {τ:Dd} {g:FuncId} {w y:Kx} (hs:w.sub τ=some y) (h:y.Holds P ρ g):w.Holds P (ρ.sub τ) g:=by
 cases w
 case call x=>
  obtain ⟨z,c,rfl⟩:=mS hs
  exact Go.AM.Holds.Ss c h
 case loop k=>
  obtain ⟨z,c,rfl⟩:=mS hs
  exact C2.Ss c h
structure Cx where
 cnt:C7
 fx:An
 ks:List (Nat×BA)
 ins:Dd
def ST.A4 (i:Nat) (n:Int):ST→ST
 |.lit m=>.lit m
 |.var j=>bif Nat.beq i j then .lit n else .var j
 |.bin o k a b=>.bin o k (a.A4 i n) (b.A4 i n)
 |.conv k a=>.conv k (a.A4 i n)
def SB.A4 (i:Nat) (n:Int):SB→SB
 |.lit b=>.lit b
 |.cmp o a b=>AeY o (a.A4 i n) (b.A4 i n)
 |.no a=>(match a.A4 i n with|.lit b=>.lit (!b) |a=>.no a)
def Aa.A4 (i:Nat) (n:Int) (a:Aa):Aa:=
 match a with
 |.bool b=>.bool (b.A4 i n)
 |.int k t=>.int k (t.A4 i n)
 |.lst f j es t=>.lst f j es (t.A4 i n)
 |a=>a
def Aa.sets (i:Nat) (s:List Nat) (a:Aa):Aa:=
 match a with
 |.svar j=>bif Nat.beq i j then .str s else .svar j
 |a=>a
def HQ {α β:Type} (f:α→β):List α→List β
 |[]=>[]
 |a::r=>f a::HQ f r
def Cx.A4 (cx:Cx) (i:Nat) (n:Int):Cx:=
 {cx with ins:={cx.ins with n:=HQ (ST.A4 i n) cx.ins.n},fx:={cx.fx with elems:=HQ (fun x=>(x.1,x.2.1.A4 i n,HQ (Aa.A4 i n) x.2.2)) cx.fx.elems,Ad:=HQ (fun x=>(x.1,x.2.A4 i n)) cx.fx.Ad}}
def Cx.sets (cx:Cx) (i:Nat) (s:List Nat):Cx:=
 {cx with ins:={cx.ins with s:=HQ (Aa.sets i s) cx.ins.s},fx:={cx.fx with elems:=HQ (fun x=>(x.1,x.2.1,HQ (Aa.sets i s) x.2.2)) cx.fx.elems}}
def Vi (op:BinOp) (a b:ST) (v:Bool) (l:List (ST×Int)):List (ST×Int):=
 match b with
 |.lit n=>bif v&&O4 op .eql||!v&&O4 op .neq then (a,n)::l else l
 |_=>l
def Cx.test (cx:Cx) (op:BinOp) (a b:ST) (v:Bool):Cx:=
 {cx with fx:={cx.fx with tests:=(op,a,b,v)::cx.fx.tests,Eb:=Vi op a b v cx.fx.Eb}}
noncomputable def Ez (fx:An) (a:Aa):Bool:=
 match a with
 |.lst _ i _ t=>(match Fc i fx.Ad with|some u=>u.eq t|none=>false)
 |_=>true
noncomputable def AL.Ez (fx:An) (p:AL):Bool:=
 match p with
 |.els es=>Cn (Cn (Go.AM.Ez fx)) es
 |_=>true
def F4 (c:Nat):List (Nat×Spec)→Option Spec
 |[]=>none
 |x::r=>bif Nat.beq x.1 c then some x.2 else F4 c r
def YW {α:Type}:List α→Nat→Option α
 |[],_=>none
 |a::_,0=>some a
 |_::r,i+1=>YW r i
def Cx.Al4 (cx:Cx) (f g:Nat) (o:C7) (y:Kx):Option Cx:=
 match y with
 |.call x=>some {cx with ks:=(g,x)::cx.ks,cnt:=cx.cnt.add o}
 |.loop k=>bif Nat.beq f g then some {cx with fx:={cx.fx with loops:=k::cx.fx.loops},cnt:=cx.cnt.add o}else none
def Cx.call (cx:Cx) (S:List (Nat×Spec)) (f c g:Nat) (τ:Dd) (o:C7):Option Cx:=
 AB (F4 c S) fun d=>AB (YW d.alts g) fun A=>bif τ.cnt.eq d.ins&&o.eq A.outs then
  AB (A.w.sub (τ.app (M0 cx.cnt o))) fun y=>cx.Al4 f d.f o y else none
abbrev Sj:=An→List (Nat×BA)→Kx→List Nat→Bool
noncomputable def Tree.ok (S:List (Nat×Spec)) (run:Sj) (f:Nat) (alts:List Alt):Tree→Cx→Bool
 |.fail,_=>true
 |.leaf alt nw τ,cx=>Dv (AB (YW alts alt) fun A=>bif τ.cnt.eq A.outs then AB (A.w.sub (cx.ins.app τ)) fun y=>some (run cx.fx cx.ks y nw)else none)
 |.test op a b t e,cx=>t.ok S run f alts (cx.test op a b true)&&e.ok S run f alts (cx.test op a b false)
 |.A4 i n t e,cx=>t.ok S run f alts (cx.A4 i n)&&e.ok S run f alts (cx.test .eql (.var i) (.lit n) false)
 |.sets i s t e,cx=>t.ok S run f alts (cx.sets i s)&&e.ok S run f alts {cx with fx:={cx.fx with strs:=(.svar i,.str s,false)::cx.fx.strs}}
 |.elem l j sh k,cx=>k.ok S run f alts {cx with fx:={cx.fx with elems:=(l,j,NY sh cx.cnt)::cx.fx.elems,Ad:=Nt sh cx.cnt++cx.fx.Ad},cnt:=cx.cnt.add (Ii sh)}
 |.Ad l t k,cx=>k.ok S run f alts {cx with fx:={cx.fx with Ad:=(l,t)::cx.fx.Ad}}
 |.BB s lo hi k,cx=>k.ok S run f alts {cx with fx:={cx.fx with BB:=(s,.var cx.cnt.n,lo,hi)::cx.fx.BB},cnt:=cx.cnt.add {n:=1}}
 |.DB x y t e,cx=>x.isStr&&(y.isStr&&(t.ok S run f alts {cx with fx:={cx.fx with strs:=(x,y,true)::cx.fx.strs}}&&e.ok S run f alts {cx with fx:={cx.fx with strs:=(x,y,false)::cx.fx.strs}}))
 |.cat x y k,cx=>x.isStr&&(y.isStr&&k.ok S run f alts {cx with fx:={cx.fx with EV:=(x,y,.svar cx.cnt.s)::cx.fx.EV},cnt:=cx.cnt.add {s:=1}})
 |.Ay ps _ k,cx=>Cn (AL.Cs cx.cnt) ps&&(Cn (AL.Ez cx.fx) ps&&k.ok S run f alts {cx with fx:={cx.fx with defs:=(cx.cnt.l,ps)::cx.fx.defs,Ad:=(cx.cnt.l,.var cx.cnt.n)::cx.fx.Ad},cnt:=cx.cnt.add {n:=1,l:=1}})
 |.look m key sh t e,cx=>key.isStr&&(t.ok S run f alts {cx with fx:={cx.fx with looks:=(m,key,some (NY sh cx.cnt))::cx.fx.looks,Ad:=Nt sh cx.cnt++cx.fx.Ad},cnt:=cx.cnt.add (Ii sh)}&&e.ok S run f alts {cx with fx:={cx.fx with looks:=(m,key,none)::cx.fx.looks}})
 |.up m key cs _ k,cx=>key.isStr&&(Cn (Aa.Cs cx.cnt) cs&&(Cn (Ez cx.fx) cs&&k.ok S run f alts {cx with fx:={cx.fx with Mg:=(m,key,cs,cx.cnt.m)::cx.fx.Mg},cnt:=cx.cnt.add {m:=1}}))
 |.Mm es _ k,cx=>Cn (fun x:Aa×List Aa=>x.1.isStr&&(Cn (Aa.Cs cx.cnt) x.2&&Cn (Ez cx.fx) x.2)) es&&k.ok S run f alts {cx with fx:={cx.fx with CO:=(cx.cnt.m,es)::cx.fx.CO},cnt:=cx.cnt.add {m:=1}}
 |.bump t n k,cx=>k.ok S run f alts {cx with fx:={cx.fx with CQ:=(t,n,.var cx.cnt.n)::cx.fx.CQ},cnt:=cx.cnt.add {n:=1}}
 |.BI z k,cx=>k.ok S run f alts {cx with fx:={cx.fx with BI:=cx.fx.BI++[z]}}
 |.call c alt τ o k e,cx=>Dv (AB (cx.call S f c alt τ o) fun d=>some (k.ok S run f alts d))&&e.ok S run f alts cx
def On (P:Program) (T:Nat→Option Obj) (f:Nat) (run:Sj):Prop:=
 ∀Γ ks w c (ρ:Env),ρ.AS=T→Γ.AG ρ→(∀x∈ks,Go.AM.Holds P ρ x.1 x.2)→(∀k∈Γ.loops,C2 P ρ f k)→run Γ ks w c=true→w.Holds P ρ f
def Good (P:Program) (T:Nat→Option Obj) (S:List (Nat×Spec)) (M:W0):Prop:=
 ∀c d,F4 c S=some d→∀v a w,M c v=some (a,w)→v.cnt=d.ins→∃A,d.alts[a]?=some A∧w.cnt=A.outs∧A.w.Holds P ((v.app w).env T) d.f
theorem Re {α:Type}:∀(l:List α) (i:Nat),YW l i=l[i]?
 |[],_=>by simp [YW]
 |a::r,0=>rfl
 |a::r,i+1=>by rw [YW,Re r i];simp
section
variable {T:Nat→Option Obj} {vf:Ah}
theorem EA (a:Aa):Et (vf.env T) a=Et vf.e a:=by cases a<;>rfl
theorem Aac (a:Aa):Br (vf.env T) a=Br vf.e a:=by unfold Br;rw [EA]
theorem GC {ρ:Env} {a:Aa} (h:a.isStr=true):Et ρ a=some (Br ρ a):=by
 cases a<;>simp only [Aa.isStr,Bool.false_eq_true]at h<;>rfl
theorem At.val {c:C7} {w:Ah} (h:At vf c w) (i:Nat) (d:i<w.n.length):vf.n.getD (c.n+i) 0=w.n.getD i 0:=by
 obtain ⟨v,r,rfl,rfl⟩:=h
 simp only [Ah.app,Ah.cnt,List.getD_eq_getElem?_getD,List.append_assoc]
 rw [List.getElem?_append_right (by omega),List.getElem?_append_left (by omega)]
 congr 2;omega
theorem At.str {c:C7} {w:Ah} (h:At vf c w) (i:Nat) (d:i<w.s.length):vf.s.getD (c.s+i) []=w.s.getD i []:=by
 obtain ⟨v,r,rfl,rfl⟩:=h
 simp only [Ah.app,Ah.cnt,List.getD_eq_getElem?_getD,List.append_assoc]
 rw [List.getElem?_append_right (by omega),List.getElem?_append_left (by omega)]
 congr 2;omega
theorem At.lst {c:C7} {w:Ah} (h:At vf c w) (i:Nat) (d:i<w.l.length):vf.l.getD (c.l+i) []=w.l.getD i []:=by
 obtain ⟨v,r,rfl,rfl⟩:=h
 simp only [Ah.app,Ah.cnt,List.getD_eq_getElem?_getD,List.append_assoc]
 rw [List.getElem?_append_right (by omega),List.getElem?_append_left (by omega)]
 congr 2;omega
theorem At.map {c:C7} {w:Ah} (h:At vf c w) (i:Nat) (d:i<w.m.length):vf.m.getD (c.m+i) []=w.m.getD i []:=by
 obtain ⟨v,r,rfl,rfl⟩:=h
 simp only [Ah.app,Ah.cnt,List.getD_eq_getElem?_getD,List.append_assoc]
 rw [List.getElem?_append_right (by omega),List.getElem?_append_left (by omega)]
 congr 2;omega
theorem At.left {c:C7} {a b:Ah} (h:At vf c (a.app b)):At vf c a:=by
 obtain ⟨v,r,hc,rfl⟩:=h
 exact ⟨v,b.app r,hc,by simp only [Ah.Bt]⟩
theorem At.right {c:C7} {a b:Ah} (h:At vf c (a.app b)):At vf (c.add a.cnt) b:=by
 obtain ⟨v,r,rfl,rfl⟩:=h
 exact ⟨v.app a,r,by rw [Ah.Cz],by simp only [Ah.Bt]⟩
theorem AiJ (b:Bool):EK .neq (b01 b) 0=b:=by cases b<;>rfl
theorem CK.Abg {k:CK} {p:PV} {w:Ah} {c:C7} (h:k.read p=some w) (d:At vf c w):Mr (vf.env T) (k.val c) p∧(∀g,k=.list g→vf.n.getD c.n 0=((vf.l.getD c.l []).length:Int)):=by
 cases k<;>cases p<;>simp only [CK.read,reduceCtorEq,oI]at h
 case int.int k k' n=>
  obtain ⟨j,h⟩:=Ao h
  simp only [oI]at h
  subst h
  rw [Dt.1 j]
  have hv:vf.n.getD c.n 0=n:=d.val 0 (by simp)
  refine ⟨?_,fun _ e=>by cases e⟩
  show PV.int k' n=.int k' (vf.n.getD c.n 0)
  rw [hv]
 case bool.bool b=>
  subst h
  have hv:vf.n.getD c.n 0=b01 b:=d.val 0 (by simp)
  refine ⟨?_,fun _ e=>by cases e⟩
  show PV.bool b=.bool (EK .neq (vf.n.getD c.n 0) 0)
  rw [hv,AiJ]
 case str.str s=>
  subst h
  have hv:vf.s.getD c.s []=s:=d.str 0 (by simp)
  refine ⟨?_,fun _ e=>by cases e⟩
  show PV.str s=.str (vf.s.getD c.s [])
  rw [hv]
 case list.list g es' l=>
  obtain ⟨j,h⟩:=Ao h
  simp only [oI]at h
  subst h
  have e:=Al.1 j
  subst e
  have hv:vf.n.getD c.n 0=(l.length:Int):=d.val 0 (by simp)
  have hl:vf.l.getD c.l []=l:=d.lst 0 (by simp)
  refine ⟨⟨rfl,?_,?_⟩,fun _ _=>?_⟩
  ·show PV.list g l=.list g (vf.l.getD c.l [])
   rw [hl]
  ·show vf.n.getD c.n 0=((vf.l.getD c.l []).length:Int)
   rw [hl,hv]
  ·rw [hl,hv]
 case nilp.nilp=>exact ⟨rfl,fun _ e=>by cases e⟩
theorem KB:∀{g:List CK} {ps:List PV} {w:Ah} {c:C7},CZ g ps=some w→At vf c w→FW (vf.env T) (NY g c) ps∧∀x∈Nt g c,x.2.den vf.e=((vf.l.getD x.1 []).length:Int)
 |[],[],w,c,h,hat=>⟨rfl,fun x d=>by cases d⟩
 |k::g,p::ps,w,c,h,hat=>by
  simp only [CZ]at h
  split at h
  ·rename_i a ha
   split at h
   ·rename_i b hb
    simp only [oI]at h
    subst h
    obtain ⟨y,A⟩:=CK.Abg (T:=T) ha hat.left
    have o:=hat.right
    rw [CK.Tf ha]at o
    obtain ⟨z,j⟩:=KB hb o
    refine ⟨⟨p,ps,rfl,y,z⟩,fun x d=>?_⟩
    simp only [Nt]at d
    split at d
    ·rename_i u
     rcases List.mem_cons.1 d with rfl|d
     ·exact A u rfl
     ·exact j x d
    ·exact j x d
   ·cases h
  ·cases h
 |[],_::_,w,c,h,_=>by simp [CZ]at h
 |_::_,[],w,c,h,_=>by simp [CZ]at h
theorem Zu {fx:An} (g:fx.AG (vf.env T)) {k:CK} {a:Aa} {p:PV} {c:C7} (hb:a.Cs c=true) (hl:Ez fx a=true) (h:Hs vf.e k a=some p):WA (vf.env T) a p:=by
 cases k<;>cases a<;>simp only [Aa.Cs,Bool.false_eq_true]at hb<;>simp only [Hs,reduceCtorEq,oI]at h
 case int.int=>
  obtain ⟨d,h⟩:=Ao h
  simp only [oI]at h
  rw [Dt.1 d]at h
  exact h.symm
 case bool.bool=>exact h.symm
 case str.str=>exact h.symm
 case str.svar=>exact h.symm
 case list.nilSlice es=>exact ⟨es,h.symm⟩
 case list.lst es f i es' n=>
  obtain ⟨d,h⟩:=Ao h
  simp only [oI]at h
  rw [Al.1 d]at h
  simp only [aT,Bool.not_eq_true']at hb
  simp only [Ez]at hl
  split at hl
  ·rename_i u j
   refine ⟨hb.1,h.symm,?_⟩
   rw [←ST.Bg hl]
   exact g.Ad _ (CH j)
  ·cases hl
 case nilp.nilPtr=>exact h.symm
theorem GY {fx:An} (d:fx.AG (vf.env T)) {c:C7}:∀{g:List CK} {as:List Aa} {ps:List PV},Cn (Aa.Cs c) as=true→Cn (Ez fx) as=true→CE vf.e g as=some ps→CR (vf.env T) as ps
 |[],[],ps,_,_,h=>by simp only [CE,oI]at h;subst h;rfl
 |k::g,a::as,ps,hb,hl,h=>by
  simp only [Cn,aT]at hb hl
  simp only [CE]at h
  split at h
  ·rename_i p j
   split at h
   ·rename_i q o
    simp only [oI]at h
    subst h
    exact ⟨p,q,rfl,Zu d hb.1 hl.1 j,GY d hb.2 hl.2 o⟩
   ·cases h
  ·cases h
 |[],_::_,_,_,_,h=>by simp [CE]at h
 |_::_,[],_,_,_,h=>by simp [CE]at h
theorem Pu {fx:An} (d:fx.AG (vf.env T)) {c:C7} {g:List CK}:∀{as:List (List Aa)} {ps:List (List PV)},Cn (Cn (Aa.Cs c)) as=true→Cn (Cn (Ez fx)) as=true→Hp vf.e g as=some ps→Ej (vf.env T) as ps
 |[],ps,_,_,h=>by simp only [Hp,oI]at h;subst h;rfl
 |a::as,ps,hb,hl,h=>by
  simp only [Cn,aT]at hb hl
  simp only [Hp]at h
  split at h
  ·rename_i p j
   split at h
   ·rename_i q k
    simp only [oI]at h
    subst h
    exact ⟨p,q,rfl,GY d hb.1 hl.1 j,Pu d hb.2 hl.2 k⟩
   ·cases h
  ·cases h
theorem YR {fx:An} (d:fx.AG (vf.env T)) {c:C7} {g:List CK} {p:AL} {l:List (List PV)} (hb:p.Cs c=true) (hl:p.Ez fx=true) (h:D0 vf.e g p=some l):FU (vf.env T) p l:=by
 cases p<;>simp only [AL.Cs]at hb<;>simp only [AL.Ez]at hl<;>simp only [D0,oI]at h
 case els es=>exact Pu d hb hl h
 case all i=>exact h.symm
 case take i n=>
  split at h
  ·rename_i hc
   simp only [oI]at h
   exact ⟨hc.1,hc.2,h.symm⟩
  ·cases h
 case drop i n=>
  split at h
  ·rename_i hc
   simp only [oI]at h
   exact ⟨hc.1,hc.2,h.symm⟩
  ·cases h
theorem Nb {fx:An} (d:fx.AG (vf.env T)) {c:C7} {j:List CK}:∀{ps:List AL} {l:List (List PV)},Cn (AL.Cs c) ps=true→Cn (AL.Ez fx) ps=true→CI vf.e j ps=some l→B6 (vf.env T) ps l
 |[],l,_,_,h=>by simp only [CI,oI]at h;subst h;rfl
 |p::ps,l,hb,hl,h=>by
  simp only [Cn,aT]at hb hl
  simp only [CI]at h
  split at h
  ·rename_i a ha
   split at h
   ·rename_i b g
    simp only [oI]at h
    subst h
    exact ⟨a,b,rfl,YR d hb.1 hl.1 ha,Nb d hb.2 hl.2 g⟩
   ·cases h
  ·cases h
theorem Kp {fx:An} (g:fx.AG (vf.env T)) {c:C7} {j:List CK}:∀{d:List (Aa×List Aa)} {l:List (List Nat×List PV)},Cn (fun x:Aa×List Aa=>x.1.isStr&&(Cn (Aa.Cs c) x.2&&Cn (Ez fx) x.2)) d=true→CP vf.e j d=some l→Adf (vf.env T) d l
 |[],l,_,h=>by simp only [CP,oI]at h;subst h;rfl
 |x::d,l,hb,h=>by
  simp only [Cn,aT]at hb
  simp only [CP]at h
  split at h
  ·rename_i p k
   split at h
   ·rename_i q o
    simp only [oI]at h
    subst h
    refine ⟨Br vf.e x.1,p,q,rfl,?_,GY g hb.1.2.1 hb.1.2.2 k,Kp g hb.2 o⟩
    rw [EA];exact GC hb.1.1
   ·cases h
  ·cases h
theorem J1 (op:BinOp) (x y:Int):EK op x y=decide (M6 op x y):=by
 cases op
 case neq=>by_cases h:x=y<;>simp [EK,M6,bne,h]
 all_goals rfl
theorem I0 {α β:Type} (f:α→β):∀l:List α,HQ f l=l.map f
 |[]=>rfl
 |a::r=>by simp [HQ,I0 f r]
theorem ST.Cq {i:Nat} {n:Int} (h:vf.n.getD i 0=n):∀t:ST,(t.A4 i n).den vf.e=t.den vf.e
 |.lit _=>rfl
 |.var j=>by
  simp only [ST.A4]
  rw [AI]
  split
  ·rename_i e;subst e;exact h.symm
  ·rfl
 |.bin o k a b=>by simp only [ST.A4,ST.den,ST.Cq h a,ST.Cq h b]
 |.conv k a=>by simp only [ST.A4,ST.den,ST.Cq h a]
theorem SB.Cq {i:Nat} {n:Int} (h:vf.n.getD i 0=n):∀t:SB,(t.A4 i n).den vf.e=t.den vf.e
 |.lit _=>rfl
 |.cmp o a b=>by
  simp only [SB.A4]
  rw [TY]
  simp only [SB.den,ST.Cq h]
 |.no a=>by
  have ih:=SB.Cq h a
  simp only [SB.A4]
  split
  ·rename_i b hb
   rw [hb]at ih
   simp only [SB.den]at ih⊢
   rw [ih]
  ·simp only [SB.den,ih]
theorem Aa.Cq {i:Nat} {n:Int} (h:vf.n.getD i 0=n) {a:Aa} {p:PV} (ha:Mr (vf.env T) a p):Mr (vf.env T) (a.A4 i n) p:=by
 cases a<;>simp only [Aa.A4]<;>first|exact ha|skip
 case bool b=>
  have ha:p=.bool (b.den vf.e):=ha
  show p=.bool ((b.A4 i n).den vf.e)
  rw [SB.Cq h,ha]
 case int k t=>
  have ha:p=.int k (t.den vf.e):=ha
  show p=.int k ((t.A4 i n).den vf.e)
  rw [ST.Cq h,ha]
 case lst f j es t=>
  obtain ⟨c,g,d⟩:=ha
  refine ⟨c,g,?_⟩
  show (t.A4 i n).den vf.e=_
  rw [ST.Cq h];exact d
theorem Aa.AaO {i:Nat} {s:List Nat} (h:vf.s.getD i []=s) {a:Aa} {p:PV} (ha:Mr (vf.env T) a p):Mr (vf.env T) (a.sets i s) p:=by
 cases a<;>simp only [Aa.sets]<;>first|exact ha|skip
 rw [AI]
 split
 ·rename_i e
  subst e
  have ha:p=.str (vf.s.getD i []):=ha
  show p=.str s
  rw [ha,h]
 ·exact ha
theorem FW.HQ {f:Aa→Aa} (hf:∀{a p},Mr (vf.env T) a p→Mr (vf.env T) (f a) p):∀{as:List Aa} {ps:List PV},FW (vf.env T) as ps→FW (vf.env T) (HQ f as) ps
 |[],ps,h=>h
 |a::as,ps,h=>by
  obtain ⟨p,rest,rfl,c,d⟩:=h
  exact ⟨p,rest,rfl,hf c,FW.HQ hf d⟩
theorem Cx.YI {cx:Cx} {i:Nat} {n:Int} (h:vf.n.getD i 0=n) (c:cx.fx.AG (vf.env T)):(cx.A4 i n).fx.AG (vf.env T):=by
 refine ⟨c.Eb,c.tests,c.strs,c.EV,c.BB,fun x d=>?_,fun x d=>?_,c.defs,c.looks,c.Mg,c.CQ,c.CO⟩
 ·rw [show (cx.A4 i n).fx.Ad=_ from I0 _ _]at d
  obtain ⟨y,g,rfl⟩:=List.mem_map.1 d
  show (y.2.A4 i n).den vf.e=_
  rw [ST.Cq h]
  exact c.Ad y g
 ·rw [show (cx.A4 i n).fx.elems=_ from I0 _ _]at d
  obtain ⟨y,g,rfl⟩:=List.mem_map.1 d
  obtain ⟨ps,j,o,k⟩:=c.elems y g
  refine ⟨ps,?_,?_,FW.HQ (Aa.Cq h) k⟩
  ·show 0≤(y.2.1.A4 i n).den vf.e
   rw [ST.Cq h];exact j
  ·show _[((y.2.1.A4 i n).den vf.e).toNat]?=_
   rw [ST.Cq h];exact o
theorem Cx.YG {cx:Cx} {i:Nat} {s:List Nat} (h:vf.s.getD i []=s) (c:cx.fx.AG (vf.env T)):(cx.sets i s).fx.AG (vf.env T):=by
 refine ⟨c.Eb,c.tests,c.strs,c.EV,c.BB,c.Ad,fun x d=>?_,c.defs,c.looks,c.Mg,c.CQ,c.CO⟩
 rw [show (cx.sets i s).fx.elems=_ from I0 _ _]at d
 obtain ⟨y,g,rfl⟩:=List.mem_map.1 d
 obtain ⟨ps,j,o,k⟩:=c.elems y g
 exact ⟨ps,j,o,FW.HQ (Aa.AaO h) k⟩
theorem Dd.YH {τ:Dd} {i:Nat} {n:Int} (h:vf.n.getD i 0=n):Dd.vals {τ with n:=HQ (ST.A4 i n) τ.n} vf.e=τ.vals vf.e:=by
 apply Ah.ext'<;>simp only [Dd.vals]
 rw [I0,List.map_map]
 exact Dh fun t _=>ST.Cq h t
theorem Dd.YF {τ:Dd} {i:Nat} {s:List Nat} (h:vf.s.getD i []=s):Dd.vals {τ with s:=HQ (Aa.sets i s) τ.s} vf.e=τ.vals vf.e:=by
 apply Ah.ext'<;>simp only [Dd.vals]
 rw [I0,List.map_map]
 refine Dh fun a _=>?_
 show Br vf.e (a.sets i s)=Br vf.e a
 cases a<;>simp only [Aa.sets]
 rename_i j
 rw [AI]
 split
 ·rename_i e;subst e;exact h.symm
 ·rfl
theorem Cx.K2 {cx:Cx} {op:BinOp} {a b:ST} {v:Bool} (h:EK op (a.den vf.e) (b.den vf.e)=v) (c:cx.fx.AG (vf.env T)):(cx.test op a b v).fx.AG (vf.env T):=by
 refine ⟨fun x d=>?_,Bw h c.tests,c.strs,c.EV,c.BB,c.Ad,c.elems,c.defs,c.looks,c.Mg,c.CQ,c.CO⟩
 have d:x∈Vi op a b v cx.fx.Eb:=d
 unfold Vi at d
 cases b with
 |lit n=>
  simp only at d
  cases e:(v&&O4 op .eql||!v&&O4 op .neq)with
  |false=>rw [e]at d;exact c.Eb x d
  |true=>
   rw [e]at d
   rcases List.mem_cons.1 d with rfl|d
   ·show a.den vf.e=n
    simp only [Bool.or_eq_true,aT,Bool.not_eq_true']at e
    rcases e with ⟨rfl,e⟩|⟨rfl,e⟩
    ·rw [HO.1 e]at h;simpa [EK,ST.den]using h
    ·rw [HO.1 e]at h;simpa [EK,ST.den]using h
   ·exact c.Eb x d
 |_=>exact c.Eb x d
theorem Gu {α β γ:Type} (f:Nat→α) (g:α→β) (l:List β) (d:β):∀(w:List β) (i:Nat),(∀j,j<w.length→g (f (i+j))=w.getD j d)→(N4 f w.length i).map g=w
 |[],i,_=>rfl
 |x::w,i,h=>by
  simp only [lC,N4,List.map_cons]
  rw [show g (f i)=x by simpa using h 0 (by simp),Gu (γ:=γ) f g l d w (i+1) fun j c=>by
   have:=h (j+1) (by simp;omega)
   rw [show i+(j+1)=i+1+j by omega]at this
   simpa using this]
theorem Mz {c:C7} {w:Ah} (h:At vf c w):(M0 c w.cnt).vals vf.e=w:=by
 apply Ah.ext'<;>simp only [Dd.vals,M0,Ah.cnt]
 ·exact Gu (γ:=Unit) _ _ w.n 0 w.n c.n fun j d=>h.val j d
 ·exact Gu (γ:=Unit) _ _ w.s [] w.s c.s fun j d=>h.str j d
 ·exact Gu (γ:=Unit) _ _ w.l [] w.l c.l fun j d=>h.lst j d
 ·exact Gu (γ:=Unit) _ _ w.m [] w.m c.m fun j d=>h.map j d
theorem Dd.Uh (a b:Dd) (ρ:Env):(a.app b).vals ρ=(a.vals ρ).app (b.vals ρ):=by
 apply Ah.ext'<;>simp [Dd.app,Dd.vals,Ah.app]
theorem Dd.Sr (τ:Dd) (ρ:Env):(τ.vals ρ).cnt=τ.cnt:=by simp [Dd.vals,Ah.cnt,Dd.cnt]
theorem Xi (τ:Dd):(vf.env T).sub τ=(τ.vals vf.e).env T:=by
 show Env.of T _ _ _ _=Env.of T _ _ _ _
 simp only [Dd.vals]
 rw [Dh (l:=τ.s) (f:=Br (vf.env T)) fun a _=>Aac a]
 rfl
end
section
variable {P:Program} {T:Nat→Option Obj} {S:List (Nat×Spec)} {run:Sj} {f:Nat} {alts:List Alt} {M:W0} {vf:Ah}
structure Cx.AG (P:Program) (T:Nat→Option Obj) (f:Nat) (vf ins:Ah) (cx:Cx):Prop where
 fx:cx.fx.AG (vf.env T)
 ks:∀x∈cx.ks,Go.AM.Holds P (vf.env T) x.1 x.2
 ls:∀k∈cx.fx.loops,C2 P (vf.env T) f k
 ins:cx.ins.vals vf.e=ins
theorem Cx.Zw {ins:Ah} (hM:Good P T S M) {cx j:Cx} (H:cx.AG P T f vf ins) {c k:Nat} {τ:Dd} {o:C7} (hc:cx.call S f c k τ o=some j) {w:Ah} (R:M c (τ.vals vf.e)=some (k,w)) (u:At vf cx.cnt (w.fit o)):j.AG P T f vf ins∧j.cnt=cx.cnt.add o:=by
 unfold Cx.call at hc
 obtain ⟨N,Q,q1⟩:=Ac hc
 obtain ⟨A,z,Z⟩:=Ac q1
 obtain ⟨C,X⟩:=Ao Z
 obtain ⟨y,hy,d⟩:=Ac X
 rw [aT]at C
 have e1:=C7.eq_iff.1 C.1
 have D:=C7.eq_iff.1 C.2
 obtain ⟨A',O,g,U⟩:=hM c N Q _ _ _ R (by rw [Dd.Sr];exact e1)
 rw [Re,O]at z
 simp only [oI]at z
 subst z
 rw [D,Ah.N6 g]at u
 have hv:(vf.env T).sub (τ.app (M0 cx.cnt o))=((τ.vals vf.e).app w).env T:=by
  rw [Xi,Dd.Uh,D,←g,Mz u]
 have x:y.Holds P (vf.env T) N.f:=Kx.Aij hy (by rw [hv];exact U)
 unfold Cx.Al4 at d
 split at d
 ·simp only [oI]at d
  subst d
  exact ⟨⟨H.fx,Bw x H.ks,H.ls,H.ins⟩,rfl⟩
 ·obtain ⟨hf,J⟩:=Ao d
  simp only [oI]at J
  subst J
  have hf:=Al.1 hf
  subst hf
  exact ⟨⟨⟨H.fx.Eb,H.fx.tests,H.fx.strs,H.fx.EV,H.fx.BB,H.fx.Ad,H.fx.elems,H.fx.defs,H.fx.looks,H.fx.Mg,H.fx.CQ,H.fx.CO⟩,H.ks,Bw x H.ls,H.ins⟩,rfl⟩
theorem Bz {ins:Ah} (C:On P T f run) (J:Good P T S M):∀(t:Tree) {cx:Cx} {o:Out},t.ok S run f alts cx=true→t.sem M vf cx.cnt o→cx.AG P T f vf ins→∃A,alts[o.1]?=some A∧o.2.cnt=A.outs∧A.w.Holds P ((ins.app o.2).env T) f
 |.fail,cx,o,_,hs,_=>hs.elim
 |.leaf alt nw τ,cx,o,g,hs,H=>by
  simp only [Tree.ok]at g
  obtain ⟨A,hA,g⟩:=Ac (FN.1 g)
  obtain ⟨he,g⟩:=Ao g
  obtain ⟨y,R,g⟩:=Ac g
  simp only [oI]at g
  simp only [Tree.sem]at hs
  subst hs
  rw [Re]at hA
  refine ⟨A,hA,by rw [Dd.Sr];exact C7.eq_iff.1 he,?_⟩
  have X:=C cx.fx cx.ks y nw (vf.env T) rfl H.fx H.ks H.ls g
  have Z:=Kx.Ahc R X
  rw [Xi,Dd.Uh,H.ins]at Z
  exact Z
 |.test op a b t e,cx,o,g,hs,H=>by
  simp only [Tree.ok,aT]at g
  rcases hs with ⟨hc,hs⟩|⟨hc,hs⟩
  ·exact Bz C J t (cx:=cx.test op a b true) g.1 hs ⟨Cx.K2 (by rw [J1];exact decide_eq_true hc) H.fx,H.ks,H.ls,H.ins⟩
  ·exact Bz C J e (cx:=cx.test op a b false) g.2 hs ⟨Cx.K2 (by rw [J1];exact decide_eq_false hc) H.fx,H.ks,H.ls,H.ins⟩
 |.A4 i n t e,cx,o,g,hs,H=>by
  simp only [Tree.ok,aT]at g
  rcases hs with ⟨hc,hs⟩|⟨hc,hs⟩
  ·exact Bz C J t (cx:=cx.A4 i n) g.1 hs ⟨Cx.YI hc H.fx,H.ks,H.ls,by rw [←H.ins];exact Dd.YH hc⟩
  ·refine Bz C J e (cx:=cx.test .eql (.var i) (.lit n) false) g.2 hs ⟨Cx.K2 ?_ H.fx,H.ks,H.ls,H.ins⟩
   rw [J1];exact decide_eq_false hc
 |.sets i s t e,cx,o,g,hs,H=>by
  simp only [Tree.ok,aT]at g
  rcases hs with ⟨hc,hs⟩|⟨hc,hs⟩
  ·exact Bz C J t (cx:=cx.sets i s) g.1 hs ⟨Cx.YG hc H.fx,H.ks,H.ls,by rw [←H.ins];exact Dd.YF hc⟩
  ·refine Bz C J e (cx:={cx with fx:={cx.fx with strs:=(.svar i,.str s,false)::cx.fx.strs}}) g.2 hs ⟨⟨H.fx.Eb,H.fx.tests,Bw ⟨vf.s.getD i [],s,rfl,rfl,(decide_eq_false hc).symm⟩ H.fx.strs,H.fx.EV,H.fx.BB,H.fx.Ad,H.fx.elems,H.fx.defs,H.fx.looks,H.fx.Mg,H.fx.CQ,H.fx.CO⟩,H.ks,H.ls,H.ins⟩
 |.elem l j sh k,cx,o,g,hs,H=>by
  simp only [Tree.ok]at g
  obtain ⟨hj,ps,w,Q,U,D,hs⟩:=hs
  obtain ⟨d1,d2⟩:=KB (T:=T) U D
  refine Bz C J k g hs ⟨⟨H.fx.Eb,H.fx.tests,H.fx.strs,H.fx.EV,H.fx.BB,fun x N=>?_,Bw ⟨ps,hj,Q,d1⟩ H.fx.elems,H.fx.defs,H.fx.looks,H.fx.Mg,H.fx.CQ,H.fx.CO⟩,H.ks,H.ls,H.ins⟩
  rcases List.mem_append.1 N with N|N
  ·exact d2 x N
  ·exact H.fx.Ad x N
 |.Ad l t k,cx,o,g,hs,H=>by
  simp only [Tree.ok]at g
  exact Bz C J k g hs.2 ⟨⟨H.fx.Eb,H.fx.tests,H.fx.strs,H.fx.EV,H.fx.BB,Bw hs.1 H.fx.Ad,H.fx.elems,H.fx.defs,H.fx.looks,H.fx.Mg,H.fx.CQ,H.fx.CO⟩,H.ks,H.ls,H.ins⟩
 |.BB s lo hi k,cx,o,g,hs,H=>by
  simp only [Tree.ok]at g
  obtain ⟨X,Z,D,hs⟩:=hs
  exact Bz C J k g hs ⟨⟨H.fx.Eb,H.fx.tests,H.fx.strs,H.fx.EV,Bw ⟨D.val 0 (by simp),X,Z⟩ H.fx.BB,H.fx.Ad,H.fx.elems,H.fx.defs,H.fx.looks,H.fx.Mg,H.fx.CQ,H.fx.CO⟩,H.ks,H.ls,H.ins⟩
 |.DB x y t e,cx,o,g,hs,H=>by
  simp only [Tree.ok,aT]at g
  have N:Et (vf.env T) x=some (Br vf.e x):=by rw [EA];exact GC g.1
  have R:Et (vf.env T) y=some (Br vf.e y):=by rw [EA];exact GC g.2.1
  rcases hs with ⟨hc,hs⟩|⟨hc,hs⟩
  ·exact Bz C J t (cx:={cx with fx:={cx.fx with strs:=(x,y,true)::cx.fx.strs}}) g.2.2.1 hs ⟨⟨H.fx.Eb,H.fx.tests,Bw ⟨_,_,N,R,(decide_eq_true hc).symm⟩ H.fx.strs,H.fx.EV,H.fx.BB,H.fx.Ad,H.fx.elems,H.fx.defs,H.fx.looks,H.fx.Mg,H.fx.CQ,H.fx.CO⟩,H.ks,H.ls,H.ins⟩
  ·exact Bz C J e (cx:={cx with fx:={cx.fx with strs:=(x,y,false)::cx.fx.strs}}) g.2.2.2 hs ⟨⟨H.fx.Eb,H.fx.tests,Bw ⟨_,_,N,R,(decide_eq_false hc).symm⟩ H.fx.strs,H.fx.EV,H.fx.BB,H.fx.Ad,H.fx.elems,H.fx.defs,H.fx.looks,H.fx.Mg,H.fx.CQ,H.fx.CO⟩,H.ks,H.ls,H.ins⟩
 |.cat x y k,cx,o,g,hs,H=>by
  simp only [Tree.ok,aT]at g
  obtain ⟨hl,D,hs⟩:=hs
  have N:Et (vf.env T) x=some (Br vf.e x):=by rw [EA];exact GC g.1
  have R:Et (vf.env T) y=some (Br vf.e y):=by rw [EA];exact GC g.2.1
  exact Bz C J k g.2.2 hs ⟨⟨H.fx.Eb,H.fx.tests,H.fx.strs,Bw ⟨_,_,N,R,congrArg some (D.str 0 (by simp)),hl⟩ H.fx.EV,H.fx.BB,H.fx.Ad,H.fx.elems,H.fx.defs,H.fx.looks,H.fx.Mg,H.fx.CQ,H.fx.CO⟩,H.ks,H.ls,H.ins⟩
 |.Ay ps sh k,cx,o,g,hs,H=>by
  simp only [Tree.ok,aT]at g
  obtain ⟨l,hl,D,hs⟩:=hs
  have O:vf.l.getD cx.cnt.l []=l:=D.lst 0 (by simp)
  have e2:vf.n.getD cx.cnt.n 0=(l.length:Int):=D.val 0 (by simp)
  have d:=Nb H.fx g.1 g.2.1 hl
  refine Bz C J k g.2.2 hs ⟨⟨H.fx.Eb,H.fx.tests,H.fx.strs,H.fx.EV,H.fx.BB,Bw ?_ H.fx.Ad,H.fx.elems,Bw ?_ H.fx.defs,H.fx.looks,H.fx.Mg,H.fx.CQ,H.fx.CO⟩,H.ks,H.ls,H.ins⟩
  ·show vf.n.getD cx.cnt.n 0=((vf.l.getD cx.cnt.l []).length:Int)
   rw [O,e2]
  ·show B6 _ _ (vf.l.getD cx.cnt.l [])
   rw [O];exact d
 |.look m key sh t e,cx,o,g,hs,H=>by
  simp only [Tree.ok,aT]at g
  have N:Et (vf.env T) key=some (Br vf.e key):=by rw [EA];exact GC g.1
  rcases hs with ⟨ps,w,Q,U,D,hs⟩|⟨hn,hs⟩
  ·obtain ⟨d1,d2⟩:=KB (T:=T) U D
   refine Bz C J t (cx:={cx with fx:={cx.fx with looks:=(m,key,some (NY sh cx.cnt))::cx.fx.looks,Ad:=Nt sh cx.cnt++cx.fx.Ad},cnt:=cx.cnt.add (Ii sh)}) g.2.1 hs ⟨⟨H.fx.Eb,H.fx.tests,H.fx.strs,H.fx.EV,H.fx.BB,fun x N=>?_,H.fx.elems,H.fx.defs,Bw ⟨_,N,ps,Q,d1⟩ H.fx.looks,H.fx.Mg,H.fx.CQ,H.fx.CO⟩,H.ks,H.ls,H.ins⟩
   rcases List.mem_append.1 N with N|N
   ·exact d2 x N
   ·exact H.fx.Ad x N
  ·exact Bz C J e (cx:={cx with fx:={cx.fx with looks:=(m,key,none)::cx.fx.looks}}) g.2.2 hs ⟨⟨H.fx.Eb,H.fx.tests,H.fx.strs,H.fx.EV,H.fx.BB,H.fx.Ad,H.fx.elems,H.fx.defs,Bw ⟨_,N,hn⟩ H.fx.looks,H.fx.Mg,H.fx.CQ,H.fx.CO⟩,H.ks,H.ls,H.ins⟩
 |.up m key cs sh k,cx,o,g,hs,H=>by
  simp only [Tree.ok,aT]at g
  obtain ⟨ps,Q,D,hs⟩:=hs
  have N:Et (vf.env T) key=some (Br vf.e key):=by rw [EA];exact GC g.1
  have O:vf.m.getD cx.cnt.m []=Bj (vf.m.getD m []) (Br vf.e key) ps:=D.map 0 (by simp)
  exact Bz C J k g.2.2.2 hs ⟨⟨H.fx.Eb,H.fx.tests,H.fx.strs,H.fx.EV,H.fx.BB,H.fx.Ad,H.fx.elems,H.fx.defs,H.fx.looks,Bw ⟨_,ps,N,GY H.fx g.2.1 g.2.2.1 Q,O⟩ H.fx.Mg,H.fx.CQ,H.fx.CO⟩,H.ks,H.ls,H.ins⟩
 |.Mm es sh k,cx,o,g,hs,H=>by
  simp only [Tree.ok,aT]at g
  obtain ⟨l,hl,D,hs⟩:=hs
  have O:vf.m.getD cx.cnt.m []=l:=D.map 0 (by simp)
  have d:=Kp H.fx g.1 hl
  refine Bz C J k g.2 hs ⟨⟨H.fx.Eb,H.fx.tests,H.fx.strs,H.fx.EV,H.fx.BB,H.fx.Ad,H.fx.elems,H.fx.defs,H.fx.looks,H.fx.Mg,H.fx.CQ,Bw ?_ H.fx.CO⟩,H.ks,H.ls,H.ins⟩
  show Adf _ _ (vf.m.getD cx.cnt.m [])
  rw [O];exact d
 |.bump t n k,cx,o,g,hs,H=>by
  simp only [Tree.ok]at g
  obtain ⟨X,D,hs⟩:=hs
  have O:vf.n.getD cx.cnt.n 0=t.den vf.e+n:=D.val 0 (by simp)
  refine Bz C J k g hs ⟨⟨H.fx.Eb,H.fx.tests,H.fx.strs,H.fx.EV,H.fx.BB,H.fx.Ad,H.fx.elems,H.fx.defs,H.fx.looks,H.fx.Mg,Bw ?_ H.fx.CQ,H.fx.CO⟩,H.ks,H.ls,H.ins⟩
  show t.den vf.e+n≤vf.n.getD cx.cnt.n 0∧vf.n.getD cx.cnt.n 0≤1048576
  rw [O];exact ⟨Int.le_refl _,X⟩
 |.BI z k,cx,o,g,hs,H=>by
  simp only [Tree.ok]at g
  exact Bz C J k g hs ⟨⟨H.fx.Eb,H.fx.tests,H.fx.strs,H.fx.EV,H.fx.BB,H.fx.Ad,H.fx.elems,H.fx.defs,H.fx.looks,H.fx.Mg,H.fx.CQ,H.fx.CO⟩,H.ks,H.ls,H.ins⟩
 |.call c alt τ u k e,cx,o,g,hs,H=>by
  simp only [Tree.ok,aT]at g
  rcases hs with ⟨w,U,D,hs⟩|hs
  ·obtain ⟨aj,ad,aa⟩:=Ac (FN.1 g.1)
   simp only [oI]at aa
   obtain ⟨H',ab⟩:=Cx.Zw J H ad U D
   exact Bz C J k aa (by rw [ab];exact hs) H'
  ·exact Bz C J e g.2 hs H
noncomputable def Spec.ok (S:List (Nat×Spec)) (run:Sj) (c:Spec) (t:Tree):Bool:=
 t.Cs c.ins&&t.ok S run c.f c.alts ⟨c.ins,{},[],M0 {} c.ins⟩
theorem At.zero (v r:Ah):At (v.app r) {} v:=⟨{},r,rfl,by
 apply Ah.ext'<;>simp [Ah.app]⟩
theorem U2 {d:Spec} {t:Tree} (g:On P T d.f run) (o:Good P T S M) (c:d.ok S run t=true) {v w:Ah} {a:Nat} (h:t.eval M v=some (a,w)) (hv:v.cnt=d.ins):∃A,d.alts[a]?=some A∧w.cnt=A.outs∧A.w.Holds P ((v.app w).env T) d.f:=by
 unfold Spec.ok at c
 rw [aT]at c
 obtain ⟨r,k⟩:=B5 t (by rw [hv];exact c.1) h
 rw [hv]at k
 refine Bz (vf:=v.app r) (ins:=v) g o t c.2 k ⟨An.AG.none _,fun x j=>(by cases j),fun x j=>(by cases j),?_⟩
 have:=Mz (At.zero v r)
 rw [hv]at this
 exact this
def Adv (P:Program) (T:Nat→Option Obj) (S:List (Nat×Spec)) (trees:Nat→Tree):Prop:=
 ∀c g,F4 c S=some g→∃j run,(∀k d,F4 k j=some d→F4 k S=some d)∧On P T g.f run∧g.ok j run (trees c)=true
theorem T6 {trees:Nat→Tree} (h:Adv P T S trees):∀N,Good P T S (mir trees N)
 |0=>fun c u _ v a w j _=>by cases j
 |N+1=>fun c u x v a w j hv=>by
  have ih:=T6 h N
  obtain ⟨A,run,z,g,y⟩:=h c u x
  exact U2 g (fun o d k=>ih o d (z o d k)) y j hv
end
end Go.AM
end
section
namespace Go.AM
def Wi (P:Program) (pl:List C5) (i:Nat):Option EN:=
 match P.funcs[i]? with
 |some fn=>bif fn.name== "runtime.NumGoroutine" then none else Ff P pl fn
 |none=>none
theorem TX {P:Program} {pl:List C5} {i:Nat} {F:EN} (h:Wi P pl i=some F):∃fn,P.funcs[i]?=some fn∧Ff P pl fn=some F∧(fn.name== "runtime.NumGoroutine")=false:=by
 unfold Wi at h
 split at h
 ·rename_i fn hf
  cases e:fn.name== "runtime.NumGoroutine" with
  |true=>rw [e]at h;cases h
  |false=>rw [e]at h;exact ⟨fn,hf,h,e⟩
 ·cases h
theorem all_cons {α:Type} {p:α→Prop} {x:α} {l:List α} (h:p x) (d:∀y∈l,p y):∀y∈x::l,p y:=fun y c=>by
 rcases List.mem_cons.1 c with rfl|c
 ·exact h
 ·exact d y c
theorem all_nil {α:Type} {p:α→Prop}:∀y∈([]:List α),p y:=fun y c=>by cases c
end Go.AM
end
section
namespace Go.AM
def Tk (g:Nat):List (Nat×BA)→List BA
 |[]=>[]
 |x::r=>bif Nat.beq x.1 g then x.2::Tk g r else Tk g r
noncomputable def YT (ks:List (Nat×BA)):List (Nat×BA)→List (Nat×Bv)→List (Nat×Bv)
 |[],l=>l
 |x::r,l=>(x.1,Kr (Tk x.1 ks))::YT ks r l
noncomputable def Ex (DT:FuncId→Option EN) (fixed:An→List (Nat×Bv)) (fuel d j f:Nat):Sj:=fun Γ ks w c=>
 match w with
 |.call x=>AaL Γ x c (Ahb Γ (fun g=>Tn g (YT ks ks (fixed Γ))) DT fuel d f x.args (Be x.pre (empty j Γ)))
 |.loop k=>match DT f with
  |some F=>UP Γ k c (Rm Γ (LY Γ.bare (fun g=>Tn g (YT ks ks (fixed Γ))) DT fuel d) fuel j F k)
  |none=>false
section
variable {P:Program} {pl:List C5} {T:Nat→Option Obj} {DT:FuncId→Option EN} {fixed:An→List (Nat×Bv)}
theorem KH {g:Nat} {x:BA}:∀{l:List (Nat×BA)},x∈Tk g l→(g,x)∈l
 |[],h=>by cases h
 |y::r,h=>by
  simp only [Tk]at h
  cases hc:Nat.beq y.1 g with
  |true=>
   rw [hc]at h
   simp only [cond_true,List.mem_cons]at h
   have e:=Al.1 hc
   rcases h with rfl|h
   ·rw [←e];exact List.mem_cons_self
   ·exact List.mem_cons_of_mem _ (KH h)
  |false=>rw [hc]at h;exact List.mem_cons_of_mem _ (KH h)
theorem Nf {ρ:Env} {ks:List (Nat×BA)} (c:∀x∈ks,Go.AM.Holds P ρ x.1 x.2) {l:List (Nat×Bv)} (hl:∀x∈l,CF P ρ x.1 x.2):∀(r:List (Nat×BA)),∀x∈YT ks r l,CF P ρ x.1 x.2
 |[],x,hx=>hl x hx
 |y::r,x,hx=>by
  simp only [YT,List.mem_cons]at hx
  rcases hx with rfl|hx
  ·exact Ig fun z d=>c _ (KH d)
  ·exact Nf c hl r x hx
theorem P8 (u:P.follows .mixedOrders=true) (A:Qm P pl DT) (C:∀Γ (ρ:Env),ρ.AS=T→Γ.AG ρ→∀x∈fixed Γ,CF P ρ x.1 x.2) (fuel d N f:Nat):On P T f (Ex DT fixed fuel d N f):=by
 intro Γ ks w O ρ J z D j c
 have y:∀g o,Tn g (YT ks ks (fixed Γ))=some o→CF P ρ g o:=fun g o H=>Nf D (C Γ ρ J z) ks _ (P6 H)
 cases w with
 |call x=>exact Rz z (Uw z u A y d (Vs j)) c
 |loop k=>
  simp only [Ex]at c
  split at c
  ·rename_i F M
   exact O9 z (Im z.bare rfl u A y d) u A M j c
  ·cases c
end
theorem Wn {r d:Option Out} (z:∀o,r=some o→d=some o) {c:Nat} {u:C7} {k j:Ah→Option Out} (x:∀w o,k w=some o→j w=some o) {e g:Option Out} (y:∀o,e=some o→g=some o) {o:Out} (h:LZ r c u k e=some o):LZ d c u j g=some o:=by
 unfold LZ at h⊢
 cases hr':r with
 |none=>rw [hr']at h;cases h
 |some w=>
  rw [hr']at h
  rw [z w hr']
  simp only at h⊢
  split at h
  ·rename_i ha;rw [if_pos ha];exact x _ _ h
  ·rename_i ha;rw [if_neg ha];exact y _ h
theorem Wb {l:List (List PV)} {j:Int} {c:List CK} {k d:Ah→Option Out} (u:∀w o,k w=some o→d w=some o) {o:Out} (h:NO l j c k=some o):NO l j c d=some o:=by
 unfold NO at h⊢
 split at h
 ·rename_i g
  rw [if_pos g]
  cases hg:l[j.toNat]? with
  |none=>rw [hg]at h;cases h
  |some ps=>
   rw [hg]at h
   simp only at h⊢
   cases hr:CZ c ps with
   |none=>rw [hr]at h;cases h
   |some w=>rw [hr]at h;exact u _ _ h
 ·cases h
theorem Vw {m:List (List Nat×List PV)} {s:List Nat} {c:List CK} {k g:Ah→Option Out} (j:∀w o,k w=some o→g w=some o) {e d:Option Out} (u:∀o,e=some o→d=some o) {o:Out} (h:Jo m s c k e=some o):Jo m s c g d=some o:=by
 unfold Jo at h⊢
 cases hg:BK m s with
 |none=>rw [hg]at h;exact u _ h
 |some ps=>
  rw [hg]at h
  simp only at h⊢
  cases hr:CZ c ps with
  |none=>rw [hr]at h;cases h
  |some w=>rw [hr]at h;exact j _ _ h
theorem Ji {α:Type} {r:Option α} {k c:α→Option Out} (d:∀w o,k w=some o→c w=some o) {o:Out} (h:HI r k=some o):HI r c=some o:=by
 unfold HI at h⊢
 cases r with
 |none=>cases h
 |some a=>exact d _ _ h
theorem EI {c:Prop} [Decidable c] {a g b d:Option Out} (ha:∀o,a=some o→g=some o) (hb:∀o,b=some o→d=some o) {o:Out} (h:(if c then a else b)=some o):(if c then g else d)=some o:=by
 split at h
 ·rename_i hc;rw [if_pos hc];exact ha _ h
 ·rename_i hc;rw [if_neg hc];exact hb _ h
theorem AW {M M':W0} (d:∀c v o,M c v=some o→M' c v=some o):∀(t:Tree) (v:Ah) (o:Out),t.eval M v=some o→t.eval M' v=some o
 |.fail,_,_,h=>by cases h
 |.leaf _ _ _,_,_,h=>h
 |.test _ _ _ t e,v,_,h=>EI (AW d t v) (AW d e v) h
 |.A4 _ _ t e,v,_,h=>EI (AW d t v) (AW d e v) h
 |.sets _ _ t e,v,_,h=>EI (AW d t v) (AW d e v) h
 |.elem _ _ _ k,v,_,h=>Wb (fun w=>AW d k (v.app w)) h
 |.Ad _ _ k,v,_,h=>EI (AW d k v) (fun _ h=>h) h
 |.BB s _ _ k,v,_,h=>EI (AW d k (v.app {n:=[((v.s.getD s []).length:Int)]})) (fun _ h=>h) h
 |.DB _ _ t e,v,_,h=>EI (AW d t v) (AW d e v) h
 |.cat x y k,v,_,h=>EI (AW d k (v.app {s:=[Br v.e x++Br v.e y]})) (fun _ h=>h) h
 |.Ay _ _ k,v,_,h=>Ji (fun l=>AW d k (v.app {n:=[(l.length:Int)],l:=[l]})) h
 |.look _ _ _ t e,v,_,h=>Vw (fun w=>AW d t (v.app w)) (AW d e v) h
 |.up m key _ _ k,v,_,h=>Ji (fun ps=>AW d k (v.app {m:=[Bj (v.m.getD m []) (Br v.e key) ps]})) h
 |.Mm _ _ k,v,_,h=>Ji (fun l=>AW d k (v.app {m:=[l]})) h
 |.bump t n k,v,_,h=>EI (AW d k (v.app {n:=[t.den v.e+n]})) (fun _ h=>h) h
 |.BI _ k,v,_,h=>AW d k v _ h
 |.call c _ τ _ k e,v,_,h=>Wn (d c (τ.vals v.e)) (fun w=>AW d k (v.app w)) (AW d e v) h
theorem Tw {trees:Nat→Tree}:∀(N c:Nat) (v:Ah) (o:Out),mir trees N c v=some o→mir trees (N+1) c v=some o
 |0,_,_,_,h=>by cases h
 |N+1,c,v,o,h=>AW (Tw N) (trees c) v o h
theorem Ri {trees:Nat→Tree} {N d:Nat} (h:N≤d) {c:Nat} {v:Ah} {o:Out} (g:mir trees N c v=some o):mir trees d c v=some o:=by
 induction h with
 |refl=>exact g
 |step _ ih=>exact Tw _ _ _ _ ih
def Ei (trees:Nat→Tree) (c:Nat) (v:Ah) (Q:Out→Prop):Prop:=∃N o,mir trees N c v=some o∧Q o
abbrev AiQ:=Nat→Ah→(Out→Prop)→Prop
def Yh (l:List (List PV)) (j:Int) (c:List CK) (k:Ah→Prop):Prop:=
 0≤j∧match l[j.toNat]? with
  |some ps=>(match CZ c ps with|some w=>k (w.fit (Ii c)) |none=>False)
  |none=>False
def PB (m:List (List Nat×List PV)) (s:List Nat) (c:List CK) (k:Ah→Prop) (e:Prop):Prop:=
 match BK m s with
 |some ps=>(match CZ c ps with|some w=>k (w.fit (Ii c)) |none=>False)
 |none=>e
def JK {α:Type} (r:Option α) (k:α→Prop):Prop:=
 match r with
 |some a=>k a
 |none=>False
abbrev AlU (g:(Out→Prop)→Prop) (c:Nat) (u:C7) (k:Ah→Prop) (e:Prop):Prop:=g fun o=>if o.1=c then k (o.2.fit u)else e
def Tree.wp (G:AiQ) (Q:Out→Prop):Tree→Ah→Prop
 |.fail,_=>False
 |.leaf alt _ τ,v=>Q (alt,τ.vals v.e)
 |.test op a b t e,v=>if M6 op (a.den v.e) (b.den v.e)then t.wp G Q v else e.wp G Q v
 |.A4 i n t e,v=>if v.n.getD i 0=n then t.wp G Q v else e.wp G Q v
 |.sets i s t e,v=>if v.s.getD i []=s then t.wp G Q v else e.wp G Q v
 |.elem l j sh k,v=>Yh (v.l.getD l []) (j.den v.e) sh fun w=>k.wp G Q (v.app w)
 |.Ad l t k,v=>if t.den v.e=((v.l.getD l []).length:Int)then k.wp G Q v else False
 |.BB s lo hi k,v=>if lo≤(v.s.getD s []).length∧(v.s.getD s []).length≤hi then k.wp G Q (v.app {n:=[((v.s.getD s []).length:Int)]})else False
 |.DB x y t e,v=>if Br v.e x=Br v.e y then t.wp G Q v else e.wp G Q v
 |.cat x y k,v=>if (Br v.e x).length+(Br v.e y).length≤1048576 then k.wp G Q (v.app {s:=[Br v.e x++Br v.e y]})else False
 |.Ay ps sh k,v=>JK (CI v.e sh ps) fun l=>k.wp G Q (v.app {n:=[(l.length:Int)],l:=[l]})
 |.look m key sh t e,v=>PB (v.m.getD m []) (Br v.e key) sh (fun w=>t.wp G Q (v.app w)) (e.wp G Q v)
 |.up m key cs sh k,v=>JK (CE v.e sh cs) fun ps=>k.wp G Q (v.app {m:=[Bj (v.m.getD m []) (Br v.e key) ps]})
 |.Mm es sh k,v=>JK (CP v.e sh es) fun l=>k.wp G Q (v.app {m:=[l]})
 |.bump t n k,v=>if t.den v.e+n≤1048576 then k.wp G Q (v.app {n:=[t.den v.e+n]})else False
 |.BI _ k,v=>k.wp G Q v
 |.call c alt τ u k e,v=>AlU (G c (τ.vals v.e)) alt u (fun w=>k.wp G Q (v.app w)) (e.wp G Q v)
theorem BL {trees:Nat→Tree} {Q:Out→Prop}:∀(t:Tree) (v:Ah),t.wp (Ei trees) Q v→∃N o,t.eval (mir trees N) v=some o∧Q o
 |.fail,_,h=>h.elim
 |.leaf alt _ τ,v,h=>⟨0,_,rfl,h⟩
 |.test op a b t e,v,h=>by
  simp only [Tree.wp]at h
  simp only [Tree.eval]
  split at h
  ·rename_i hc;simp only [if_pos hc];exact BL t v h
  ·rename_i hc;simp only [if_neg hc];exact BL e v h
 |.A4 i n t e,v,h=>by
  simp only [Tree.wp]at h
  simp only [Tree.eval]
  split at h
  ·rename_i hc;simp only [if_pos hc];exact BL t v h
  ·rename_i hc;simp only [if_neg hc];exact BL e v h
 |.sets i s t e,v,h=>by
  simp only [Tree.wp]at h
  simp only [Tree.eval]
  split at h
  ·rename_i hc;simp only [if_pos hc];exact BL t v h
  ·rename_i hc;simp only [if_neg hc];exact BL e v h
 |.elem l j sh k,v,h=>by
  simp only [Tree.wp,Yh]at h
  obtain ⟨H,h⟩:=h
  simp only [Tree.eval,NO,if_pos H]
  cases hg:(v.l.getD l [])[(j.den v.e).toNat]? with
  |none=>rw [hg]at h;exact h.elim
  |some ps=>
   rw [hg]at h
   simp only at h⊢
   cases hr:CZ sh ps with
   |none=>rw [hr]at h;exact h.elim
   |some w=>rw [hr]at h;exact BL k _ h
 |.Ad l t k,v,h=>by
  simp only [Tree.wp]at h
  simp only [Tree.eval]
  split at h
  ·rename_i hc;simp only [if_pos hc];exact BL k _ h
  ·exact h.elim
 |.BB s lo hi k,v,h=>by
  simp only [Tree.wp]at h
  simp only [Tree.eval]
  split at h
  ·rename_i hc;simp only [if_pos hc];exact BL k _ h
  ·exact h.elim
 |.DB x y t e,v,h=>by
  simp only [Tree.wp]at h
  simp only [Tree.eval]
  split at h
  ·rename_i hc;simp only [if_pos hc];exact BL t v h
  ·rename_i hc;simp only [if_neg hc];exact BL e v h
 |.cat x y k,v,h=>by
  simp only [Tree.wp]at h
  simp only [Tree.eval]
  split at h
  ·rename_i hc;simp only [if_pos hc];exact BL k _ h
  ·exact h.elim
 |.Ay ps sh k,v,h=>by
  simp only [Tree.wp,JK]at h
  simp only [Tree.eval,HI]
  cases hg:CI v.e sh ps with
  |none=>rw [hg]at h;exact h.elim
  |some l=>rw [hg]at h;exact BL k _ h
 |.look m key sh t e,v,h=>by
  simp only [Tree.wp,PB]at h
  simp only [Tree.eval,Jo]
  cases hg:BK (v.m.getD m []) (Br v.e key)with
  |none=>rw [hg]at h;exact BL e _ h
  |some ps=>
   rw [hg]at h
   simp only at h⊢
   cases hr:CZ sh ps with
   |none=>rw [hr]at h;exact h.elim
   |some w=>rw [hr]at h;exact BL t _ h
 |.up m key cs sh k,v,h=>by
  simp only [Tree.wp,JK]at h
  simp only [Tree.eval,HI]
  cases hg:CE v.e sh cs with
  |none=>rw [hg]at h;exact h.elim
  |some l=>rw [hg]at h;exact BL k _ h
 |.Mm es sh k,v,h=>by
  simp only [Tree.wp,JK]at h
  simp only [Tree.eval,HI]
  cases hg:CP v.e sh es with
  |none=>rw [hg]at h;exact h.elim
  |some l=>rw [hg]at h;exact BL k _ h
 |.bump t n k,v,h=>by
  simp only [Tree.wp]at h
  simp only [Tree.eval]
  split at h
  ·rename_i hc;simp only [if_pos hc];exact BL k _ h
  ·exact h.elim
 |.BI _ k,v,h=>by
  simp only [Tree.wp]at h
  exact BL k v h
 |.call c alt τ u k e,v,h=>by
  simp only [Tree.wp]at h
  obtain ⟨N,o,D,A⟩:=h
  split at A
  ·rename_i ha
   obtain ⟨d,g,z,C⟩:=BL k _ A
   refine ⟨max N d,g,?_,C⟩
   simp only [Tree.eval,LZ,Ri (Nat.le_max_left N d) D,if_pos ha]
   exact AW (fun _ _ _=>Ri (Nat.le_max_right N d)) k _ _ z
  ·rename_i ha
   obtain ⟨d,g,z,C⟩:=BL e _ A
   refine ⟨max N d,g,?_,C⟩
   simp only [Tree.eval,LZ,Ri (Nat.le_max_left N d) D,if_neg ha]
   exact AW (fun _ _ _=>Ri (Nat.le_max_right N d)) e _ _ z
theorem T9 {trees:Nat→Tree} {c:Nat} {v:Ah} {Q:Out→Prop} (h:(trees c).wp (Ei trees) Q v):Ei trees c v Q:=by
 obtain ⟨N,o,d,g⟩:=BL _ _ h
 exact ⟨N+1,o,d,g⟩
theorem Ei.elim {trees:Nat→Tree} {c:Nat} {v:Ah} {R:Out→Prop} (h:Ei trees c v R):∃o,R o∧∀Q:Out→Prop,Q o→Ei trees c v Q:=by
 obtain ⟨N,o,d,j⟩:=h
 exact ⟨o,j,fun Q g=>⟨N,o,d,g⟩⟩
def ZS (c:Nat):List (Nat×Tree)→Tree
 |[]=>.fail
 |x::r=>bif Nat.beq x.1 c then x.2 else ZS c r
def Ade (P:Program) (T:Nat→Option Obj) (S:List (Nat×Spec)) (g:Spec) (t:Tree):Prop:=
 ∃j run,(∀d c,F4 d j=some c→F4 d S=some c)∧On P T g.f run∧g.ok j run t=true
def Sub (g S:List (Nat×Spec)):Prop:=∀d c,F4 d g=some c→F4 d S=some c
theorem Aeu {S:List (Nat×Spec)}:Sub [] S:=fun _ _ h=>by cases h
theorem ZX {j S:List (Nat×Spec)} {c:Nat} {g:Spec} (h:F4 c S=some g) (o:Sub j S):Sub ((c,g)::j) S:=fun k u d=>by
 simp only [F4]at d
 cases e:Nat.beq c k with
 |true=>
  rw [e]at d
  simp only [cond_true,oI]at d
  rw [←d,←Al.1 e];exact h
 |false=>rw [e]at d;exact o _ _ d
def Adw (P:Program) (T:Nat→Option Obj) (S:List (Nat×Spec)) (tr:Nat→Tree):List (Nat×Spec)→Prop
 |[]=>True
 |x::r=>Ade P T S x.2 (tr x.1)∧Adw P T S tr r
theorem PW {c:Nat} {d:Spec}:∀{l:List (Nat×Spec)},F4 c l=some d→(c,d)∈l
 |[],h=>by cases h
 |x::r,h=>by
  simp only [F4]at h
  cases e:Nat.beq x.1 c with
  |true=>
   rw [e]at h
   simp only [cond_true,oI]at h
   rw [←Al.1 e,←h];exact List.mem_cons_self
  |false=>rw [e]at h;exact List.mem_cons_of_mem _ (PW h)
theorem Adw.mem {P:Program} {T:Nat→Option Obj} {S:List (Nat×Spec)} {tr:Nat→Tree}:∀{l:List (Nat×Spec)},Adw P T S tr l→∀x∈l,Ade P T S x.2 (tr x.1)
 |[],_,x,hx=>by cases hx
 |y::r,h,x,hx=>by
  rcases List.mem_cons.1 hx with rfl|hx
  ·exact h.1
  ·exact Adw.mem h.2 x hx
theorem AcP {P:Program} {T:Nat→Option Obj} {S:List (Nat×Spec)} {tr:Nat→Tree} (h:Adw P T S tr S):Adv P T S tr:=fun c d hc=>h.mem (c,d) (PW hc)
def Tree.parts:Nat→Tree→Cx→List (Tree×Cx)
 |d+1,.test op a b t e,cx=>t.parts d (cx.test op a b true)++e.parts d (cx.test op a b false)
 |_,t,cx=>[(t,cx)]
theorem Tree.Na {S:List (Nat×Spec)} {run:Sj} {f:Nat} {alts:List Alt}:∀(d:Nat) (t:Tree) (cx:Cx),(∀p∈t.parts d cx,p.1.ok S run f alts p.2=true)→t.ok S run f alts cx=true
 |0,t,cx,h=>by cases t<;>exact h _ List.mem_cons_self
 |d+1,t,cx,h=>by
  cases t with
  |test op a b t e=>
   simp only [Tree.parts,List.mem_append]at h
   simp only [Tree.ok,aT]
   exact ⟨Tree.Na d t _ fun p c=>h p (.inl c),Tree.Na d e _ fun p c=>h p (.inr c)⟩
  |_=>exact h _ List.mem_cons_self
noncomputable def Spec.Rc (S:List (Nat×Spec)) (run:Sj) (c:Spec) (t:Tree) (d n i:Nat):Bool:=
 Cn (fun p:Tree×Cx=>p.1.ok S run c.f c.alts p.2) (((t.parts d ⟨c.ins,{},[],M0 {} c.ins⟩).drop (n*i)).take n)
theorem Spec.AjV {S:List (Nat×Spec)} {run:Sj} {c:Spec} {t:Tree} (d n k:Nat) (hb:t.Cs c.ins=true) (hl:Nat.ble (t.parts d ⟨c.ins,{},[],M0 {} c.ins⟩).length (n*k)=true) (h:∀i,i<k→c.Rc S run t d n i=true):c.ok S run t=true:=by
 unfold Spec.ok
 rw [aT]
 refine ⟨hb,Tree.Na d t _ fun p y=>?_⟩
 obtain ⟨j,o⟩:=List.mem_iff_getElem?.1 y
 have z:=(List.getElem?_eq_some_iff.1 o).1
 have hl:=Nat.le_of_ble_eq_true hl
 have u:0<n:=by
  rcases Nat.eq_zero_or_pos n with e|e
  ·subst e;rw [Nat.zero_mul]at hl;omega
  ·exact e
 have g:=Nat.div_add_mod j n
 have x:=Nat.mod_lt j u
 refine Gz (h (j/n) ?_) p (List.mem_iff_getElem?.2 ⟨j%n,?_⟩)
 ·exact (Nat.div_lt_iff_lt_mul u).2 (by rw [Nat.mul_comm];omega)
 ·rw [List.getElem?_take,if_pos x,List.getElem?_drop,g];exact o
end Go.AM
end
