/- Part 4 of the proof of TypesPrefix. -/
import Derived.Test.YtbmofjdmgjpfoaaGreatDoorD3
set_option linter.all false
section
namespace Go.AM
def Env.of (AY:Nat→Option Obj) (n:List Int) (s:List (List Nat)) (l:List (List (List PV))) (m:List (List (List Nat×List PV))):Env:=
 {val:=fun i=>n.getD i 0,AY:=AY,str:=fun i=>s.getD i [],lst:=fun i=>l.getD i [],map:=fun i=>m.getD i []}
structure Db where
 n:List ST:=[]
 s:List Aa:=[]
 l:List Nat:=[]
 m:List Nat:=[]
def Bz (ρ:Env) (v:Aa):List Nat:=(Eo ρ v).getD []
def Env.sub (ρ:Env) (τ:Db):Env:=Env.of ρ.AY (τ.n.map (·.den ρ)) (τ.s.map (Bz ρ)) (τ.l.map ρ.lst) (τ.m.map ρ.map)
def ST.sub (τ:Db):ST→Option ST
 |.lit n=>some (.lit n)
 |.var i=>τ.n[i]?
 |.bin op k a b=>match a.sub τ,b.sub τ with
  |some a,some b=>some (.bin op k a b)
  |_,_=>none
 |.conv k a=>(a.sub τ).map (.conv k)
def Adw (op:BinOp) (a b:ST):SB:=
 match a,b with
 |.lit x,.lit y=>(match AaZ op x y with|some v=>.lit v|none=>.cmp op (.lit x) (.lit y))
 |a,b=>.cmp op a b
theorem Tj {ρ:Env} (op:BinOp) (a b:ST):(Adw op a b).den ρ=(SB.cmp op a b).den ρ:=by
 unfold Adw
 split
 ·split
  ·rename_i x y v h
   simp only [SB.den,ST.den]
   exact (N7 h).1
  ·rfl
 ·rfl
def SB.sub (τ:Db):SB→Option SB
 |.lit b=>some (.lit b)
 |.cmp op a b=>match a.sub τ,b.sub τ with
  |some a,some b=>some (Adw op a b)
  |_,_=>none
 |.no a=>(a.sub τ).map .no
def Aa.isStr:Aa→Bool
 |.str _=>true
 |.svar _=>true
 |_=>false
def Aa.T7 (τ:Db):Aa→Option Aa
 |.bool b=>(b.sub τ).map .bool
 |.int k n=>(n.sub τ).map (.int k)
 |.str s=>some (.str s)
 |.ptr b o=>some (.ptr b o)
 |.nilPtr=>some .nilPtr
 |.slice b o l c=>some (.slice b o l c)
 |.gslice b o l e=>some (.gslice b o l e)
 |.nilSlice=>some .nilSlice
 |.map b=>some (.map b)
 |.nilMap=>some .nilMap
 |.nilFunc=>some .nilFunc
 |.nilIface=>some .nilIface
 |.gbytes b=>some (.gbytes b)
 |.svar i=>match τ.s[i]? with
  |some v=>if v.isStr then some v else none
  |none=>none
 |.lst f i es n=>match τ.l[i]?,n.sub τ with
  |some j,some n=>some (.lst f j es n)
  |_,_=>none
 |.lptr i j o=>match τ.l[i]?,j.sub τ with
  |some k,some j=>some (.lptr k j o)
  |_,_=>none
 |.vec b es n=>(n.sub τ).map (.vec b es)
 |.vptr b es j o=>(j.sub τ).map fun j=>.vptr b es j o
 |.anyStr n=>some (.anyStr n)
 |_=>none
def Mj (τ:Db):List Aa→Option (List Aa)
 |[]=>some []
 |v::r=>match v.T7 τ,Mj τ r with
  |some v,some r=>some (v::r)
  |_,_=>none
def Aa.XA (τ:Db):Aa→Option Aa
 |.func f a c=>match Mj τ a,Mj τ c with
  |some a,some c=>some (.func f a c)
  |_,_=>none
 |v=>v.T7 τ
def RQ (τ:Db):List Entry→Option (List Entry)
 |[]=>some []
 |e::r=>match e.key.XA τ,e.val.XA τ,RQ τ r with
  |some k,some v,some es=>some (⟨k,v,e.born⟩::es)
  |_,_,_=>none
def Aa.Aer (τ:Db):Aa→Option Aa
 |.agg cs=>(Mj τ cs).map .agg
 |v=>v.XA τ
def RP (τ:Db):List Aa→Option (List Aa)
 |[]=>some []
 |v::r=>match v.Aer τ,RP τ r with
  |some v,some r=>some (v::r)
  |_,_=>none
def Aa.RO (τ:Db):Aa→Option Aa
 |.agg cs=>(Mj τ cs).map .agg
 |.tuple cs=>(RP τ cs).map .tuple
 |v=>v.XA τ
def OH (τ:Db):List Aa→Option (List Aa)
 |[]=>some []
 |v::r=>match v.RO τ,OH τ r with
  |some v,some r=>some (v::r)
  |_,_=>none
def Block.sub (τ:Db):Block→Option Block
 |.cells vs=>(Mj τ vs).map .cells
 |.typed e vs=>(Mj τ vs).map (.typed e)
 |.bytes n e=>some (.bytes n e)
 |.sbytes t e=>(t.sub τ).map fun t=>.sbytes t e
 |.list i d=>(τ.l[i]?).map fun j=>.list j d
 |.smap i=>(τ.m[i]?).map .smap
 |.map d c=>(RQ τ d).map fun d=>.map d c
def I5 (τ:Db):List Block→Option (List Block)
 |[]=>some []
 |B::r=>match B.sub τ,I5 τ r with
  |some B,some r=>some (B::r)
  |_,_=>none
def I4 (τ:Db):List (Option Block)→Option (List (Option Block))
 |[]=>some []
 |none::r=>(I4 τ r).map (none::·)
 |some B::r=>match B.sub τ,I4 τ r with
  |some B,some r=>some (some B::r)
  |_,_=>none
def BC.sub (τ:Db) (x:BC):Option BC:=
 match OH τ x.args,I5 τ x.pre,x.res.RO τ,I4 τ x.post with
 |some args,some pre,some res,some post=>some ⟨args,pre,res,post⟩
 |_,_,_,_=>none
section
variable {ρ:Env} {μ:Aq} {τ:Db}
theorem getD_map {α β:Type} {f:α→β} {l:List α} {i:Nat} {x:α} {d:β} (h:l[i]?=some x):(l.map f).getD i d=f x:=by
 rw [List.getD_eq_getElem?_getD,List.getElem?_map,h];rfl
theorem ST.CW:∀{t u:ST},t.sub τ=some u→u.den ρ=t.den (ρ.sub τ)
 |.lit n,u,h=>by simp only [ST.sub,oI]at h;subst h;rfl
 |.var i,u,h=>by
  simp only [ST.sub]at h
  exact (getD_map (f:=fun x:ST=>x.den ρ) h).symm
 |.bin op k a b,u,h=>by
  simp only [ST.sub]at h
  split at h
  ·rename_i c d ha hb
   simp only [oI]at h
   subst h
   simp only [ST.den,ST.CW ha,ST.CW hb]
  ·cases h
 |.conv k a,u,h=>by
  simp only [ST.sub]at h
  obtain ⟨c,ha,rfl⟩:=mS h
  simp only [ST.den,ST.CW ha]
theorem SB.CW:∀{t u:SB},t.sub τ=some u→u.den ρ=t.den (ρ.sub τ)
 |.lit n,u,h=>by simp only [SB.sub,oI]at h;subst h;rfl
 |.cmp op a b,u,h=>by
  simp only [SB.sub]at h
  split at h
  ·rename_i c d ha hb
   simp only [oI]at h
   subst h
   rw [Tj]
   simp only [SB.den,ST.CW ha,ST.CW hb]
  ·cases h
 |.no a,u,h=>by
  simp only [SB.sub]at h
  obtain ⟨c,ha,rfl⟩:=mS h
  simp only [SB.den,SB.CW ha]
theorem DT {p a:Aa} (h:p.T7 τ=some a) {u:Value}:(Ag (ρ.sub τ) μ p u↔Ag ρ μ a u)∧a.single=p.single:=by
 cases p<;>simp only [Aa.T7,oI,reduceCtorEq]at h
 case bool b=>
  obtain ⟨x,hb,rfl⟩:=mS h
  simp only [Ag,SB.CW (ρ:=ρ) hb,Aa.single,and_self]
 case int k n=>
  obtain ⟨d,c,rfl⟩:=mS h
  simp only [Ag,ST.CW (ρ:=ρ) c,Aa.single,and_self]
 case svar i=>
  split at h
  ·rename_i v hv
   split at h
   ·rename_i hs
    simp only [oI]at h
    subst h
    have e:(ρ.sub τ).str i=Bz ρ v:=getD_map (f:=Bz ρ) hv
    cases v<;>simp only [Aa.isStr,Bool.false_eq_true]at hs
    case str s=>simp only [Ag,e,Bz,Eo,Option.getD_some,Aa.single,and_self]
    case svar j=>simp only [Ag,e,Bz,Eo,Option.getD_some,Aa.single,and_self]
   ·cases h
  ·cases h
 case lst f i es n=>
  split at h
  ·rename_i j d g c
   simp only [oI]at h
   subst h
   have e:(ρ.sub τ).lst i=ρ.lst j:=getD_map (f:=ρ.lst) g
   simp only [Ag,e,ST.CW (ρ:=ρ) c,Aa.single,and_self]
  ·cases h
 case lptr i j o=>
  split at h
  ·rename_i k j' q g
   simp only [oI]at h
   subst h
   have e:(ρ.sub τ).lst i=ρ.lst k:=getD_map (f:=ρ.lst) q
   simp only [Ag,e,ST.CW (ρ:=ρ) g,Aa.single,and_self]
  ·cases h
 case vec b es n=>
  obtain ⟨d,c,rfl⟩:=mS h
  simp only [Ag,ST.CW (ρ:=ρ) c,Aa.single,and_self]
 case vptr b es j o=>
  obtain ⟨d,c,rfl⟩:=mS h
  simp only [Ag,ST.CW (ρ:=ρ) c,Aa.single,and_self]
 all_goals
  subst h
  simp only [Ag,Aa.single,and_self]
theorem X9 (v:Aa) (r:List Aa):Mj τ (v::r)=match v.T7 τ,Mj τ r with
  |some v,some r=>some (v::r)
  |_,_=>none:=rfl
theorem Fg:∀{l r:List Aa},Mj τ l=some r→l.length=r.length∧(∀{us:List Value},Ay (ρ.sub τ) μ l us↔Ay ρ μ r us)∧(∀{us:List Value},A9 (ρ.sub τ) μ l us↔A9 ρ μ r us)∧
  ∀(i:Nat),(∀p,l[i]?=some p→∃a,r[i]?=some a∧p.T7 τ=some a)∧(∀a,r[i]?=some a→∃p,l[i]?=some p∧p.T7 τ=some a)
 |[],r,h=>by
  simp only [Mj,oI]at h
  subst h
  exact ⟨rfl,by simp only [Ay,implies_true],by simp only [A9,implies_true],fun i=>⟨fun p h=>by simp at h,fun p h=>by simp at h⟩⟩
 |v::l,r,h=>by
  rw [X9]at h
  split at h
  ·rename_i o y hv q
   simp only [oI]at h
   subst h
   obtain ⟨x,g,j,k⟩:=Fg q
   refine ⟨by simp [x],fun {us}=>?_,fun {us}=>?_,fun i=>?_⟩
   ·simp only [Ay]
    constructor
    ·rintro ⟨u,rest,rfl,⟨h1,h2⟩,h3⟩
     obtain ⟨c,d⟩:=DT (ρ:=ρ) (μ:=μ) hv (u:=u)
     exact ⟨u,rest,rfl,⟨by rw [d];exact h1,c.1 h2⟩,g.1 h3⟩
    ·rintro ⟨u,rest,rfl,⟨h1,h2⟩,h3⟩
     obtain ⟨c,d⟩:=DT (ρ:=ρ) (μ:=μ) hv (u:=u)
     exact ⟨u,rest,rfl,⟨by rw [←d];exact h1,c.2 h2⟩,g.2 h3⟩
   ·simp only [A9]
    constructor
    ·rintro ⟨u,rest,rfl,h2,h3⟩
     obtain ⟨c,d⟩:=DT (ρ:=ρ) (μ:=μ) hv (u:=u)
     exact ⟨u,rest,rfl,c.1 h2,j.1 h3⟩
    ·rintro ⟨u,rest,rfl,h2,h3⟩
     obtain ⟨c,d⟩:=DT (ρ:=ρ) (μ:=μ) hv (u:=u)
     exact ⟨u,rest,rfl,c.2 h2,j.2 h3⟩
   ·cases i with
    |zero=>
     simp only [List.getElem?_cons_zero,oI]
     exact ⟨fun p e=>⟨o,rfl,e▸hv⟩,fun a e=>⟨v,rfl,e▸hv⟩⟩
    |succ i=>simpa using k i
  ·cases h
theorem Hx {p a:Aa} (h:p.XA τ=some a) {u:Value}:(Ag (ρ.sub τ) μ p u↔Ag ρ μ a u)∧a.single=p.single:=by
 unfold Aa.XA at h
 split at h
 ·split at h
  ·rename_i x y hx g
   simp only [oI]at h
   subst h
   obtain ⟨_,_,d,_⟩:=Fg (ρ:=ρ) (μ:=μ) hx
   obtain ⟨_,_,c,_⟩:=Fg (ρ:=ρ) (μ:=μ) g
   simp only [Ag,d,c,Aa.single,and_self]
  ·cases h
 ·exact DT h
theorem OK:∀{l r:List Entry} {ms:List MapEntry},RQ τ l=some r→(Cb (ρ.sub τ) μ l ms↔Cb ρ μ r ms)
 |[],r,ms,h=>by
  simp only [RQ,oI]at h
  subst h
  simp only [Cb]
 |e::l,r,ms,h=>by
  simp only [RQ]at h
  split at h
  ·rename_i k v g c hv d
   simp only [oI]at h
   subst h
   simp only [Cb,AbE,(Hx (ρ:=ρ) (μ:=μ) c).1,(Hx (ρ:=ρ) (μ:=μ) (u:=.bool true) c).2,(Hx (ρ:=ρ) (μ:=μ) hv).1,OK d]
  ·cases h
theorem YS {p a:Aa} (h:p.Aer τ=some a) {u:Value}:Ag (ρ.sub τ) μ p u↔Ag ρ μ a u:=by
 unfold Aa.Aer at h
 split at h
 ·obtain ⟨cs,c,rfl⟩:=mS h
  obtain ⟨_,k,_⟩:=Fg (ρ:=ρ) (μ:=μ) c
  simp only [Ag,k]
 ·exact (Hx h).1
theorem OJ:∀{l r:List Aa} {us:List Value},RP τ l=some r→(A9 (ρ.sub τ) μ l us↔A9 ρ μ r us)
 |[],r,us,h=>by
  simp only [RP,oI]at h
  subst h
  simp only [A9]
 |v::l,r,us,h=>by
  simp only [RP]at h
  split at h
  ·rename_i d g hv c
   simp only [oI]at h
   subst h
   simp only [A9,YS (ρ:=ρ) (μ:=μ) hv,OJ c]
  ·cases h
theorem Hw {p a:Aa} (h:p.RO τ=some a) {u:Value}:Ag (ρ.sub τ) μ p u↔Ag ρ μ a u:=by
 unfold Aa.RO at h
 split at h
 ·obtain ⟨cs,c,rfl⟩:=mS h
  obtain ⟨_,k,_⟩:=Fg (ρ:=ρ) (μ:=μ) c
  simp only [Ag,k]
 ·obtain ⟨cs,c,rfl⟩:=mS h
  simp only [Ag,fun us=>OJ (ρ:=ρ) (μ:=μ) (us:=us) c]
 ·exact (Hx h).1
theorem FW:∀{l r:List Aa} {us:List Value},OH τ l=some r→(A9 (ρ.sub τ) μ l us↔A9 ρ μ r us)
 |[],r,us,h=>by
  simp only [OH,oI]at h
  subst h
  simp only [A9]
 |v::l,r,us,h=>by
  simp only [OH]at h
  split at h
  ·rename_i d g hv c
   simp only [oI]at h
   subst h
   simp only [A9,Hw (ρ:=ρ) (μ:=μ) hv,FW c]
  ·cases h
theorem EZ {B C:Block} (h:B.sub τ=some C) {o:Option Obj} {δ:Nat×Nat}:CI (ρ.sub τ) μ B o δ↔CI ρ μ C o δ:=by
 cases B<;>simp only [Block.sub,oI,reduceCtorEq]at h
 case cells vs=>
  obtain ⟨us,A,rfl⟩:=mS h
  obtain ⟨_,_,_,k⟩:=Fg (ρ:=ρ) (μ:=μ) A
  simp only [CI]
  constructor
  ·rintro ⟨c,e,ho,hm,hc⟩
   refine ⟨c,e,ho,hm,fun i a ha=>?_⟩
   obtain ⟨p,g,hs⟩:=(k i).2 a ha
   obtain ⟨v,x,q,d⟩:=hc i p g
   obtain ⟨y,z⟩:=DT (ρ:=ρ) (μ:=μ) hs (u:=v)
   exact ⟨v,x,by rw [z];exact q,y.1 d⟩
  ·rintro ⟨c,e,ho,hm,hc⟩
   refine ⟨c,e,ho,hm,fun i p g=>?_⟩
   obtain ⟨a,ha,hs⟩:=(k i).1 p g
   obtain ⟨v,x,q,d⟩:=hc i a ha
   obtain ⟨y,z⟩:=DT (ρ:=ρ) (μ:=μ) hs (u:=v)
   exact ⟨v,x,by rw [←z];exact q,y.2 d⟩
 case typed t vs=>
  obtain ⟨us,A,rfl⟩:=mS h
  obtain ⟨J,_,_,k⟩:=Fg (ρ:=ρ) (μ:=μ) A
  simp only [CI]
  constructor
  ·rintro ⟨c,ho,⟨h0,hs0⟩,hm,hc⟩
   refine ⟨c,ho,⟨h0,by rw [hs0,J]⟩,hm,fun i a ha=>?_⟩
   obtain ⟨p,g,hs⟩:=(k i).2 a ha
   obtain ⟨v,x,q,d⟩:=hc i p g
   obtain ⟨y,z⟩:=DT (ρ:=ρ) (μ:=μ) hs (u:=v)
   exact ⟨v,x,by rw [z];exact q,y.1 d⟩
  ·rintro ⟨c,ho,⟨h0,hs0⟩,hm,hc⟩
   refine ⟨c,ho,⟨h0,by rw [hs0,J]⟩,hm,fun i p g=>?_⟩
   obtain ⟨a,ha,hs⟩:=(k i).1 p g
   obtain ⟨v,x,q,d⟩:=hc i a ha
   obtain ⟨y,z⟩:=DT (ρ:=ρ) (μ:=μ) hs (u:=v)
   exact ⟨v,x,by rw [←z];exact q,y.2 d⟩
 case map es c=>
  obtain ⟨N,H,rfl⟩:=mS h
  simp only [CI,OK (ρ:=ρ) (μ:=μ) H]
 case bytes n e=>subst h;simp only [CI]
 case sbytes t e=>
  obtain ⟨t',M,rfl⟩:=mS h
  simp only [CI,ST.CW (ρ:=ρ) M]
 case list i es=>
  obtain ⟨j,D,rfl⟩:=mS h
  have e:(ρ.sub τ).lst i=ρ.lst j:=getD_map (f:=ρ.lst) D
  simp only [CI,e]
 case smap i=>
  obtain ⟨j,D,rfl⟩:=mS h
  have e:(ρ.sub τ).map i=ρ.map j:=getD_map (f:=ρ.map) D
  simp only [CI,e]
theorem FX:∀{l r:List Block},I5 τ l=some r→l.length=r.length∧∀(i:Nat),(∀p,l[i]?=some p→∃a,r[i]?=some a∧p.sub τ=some a)∧(∀a,r[i]?=some a→∃p,l[i]?=some p∧p.sub τ=some a)
 |[],r,h=>by
  simp only [I5,oI]at h
  subst h
  exact ⟨rfl,fun i=>⟨fun p h=>by simp at h,fun p h=>by simp at h⟩⟩
 |v::l,r,h=>by
  simp only [I5]at h
  split at h
  ·rename_i d k hv j
   simp only [oI]at h
   subst h
   obtain ⟨g,c⟩:=FX j
   refine ⟨by simp [g],fun i=>?_⟩
   cases i with
   |zero=>
    simp only [List.getElem?_cons_zero,oI]
    exact ⟨fun p e=>⟨d,rfl,e▸hv⟩,fun a e=>⟨v,rfl,e▸hv⟩⟩
   |succ i=>simpa using c i
  ·cases h
theorem Ig:∀{l r:List (Option Block)},I4 τ l=some r→l.length=r.length∧∀(i:Nat),(∀p,l[i]?=some (some p)→∃a,r[i]?=some (some a)∧p.sub τ=some a)∧(∀a,r[i]?=some (some a)→∃p,l[i]?=some (some p)∧p.sub τ=some a)
 |[],r,h=>by
  simp only [I4,oI]at h
  subst h
  exact ⟨rfl,fun i=>⟨fun p h=>by simp at h,fun p h=>by simp at h⟩⟩
 |none::l,r,h=>by
  simp only [I4]at h
  obtain ⟨k,g,rfl⟩:=mS h
  obtain ⟨d,c⟩:=Ig g
  refine ⟨by simp [d],fun i=>?_⟩
  cases i with
  |zero=>simp
  |succ i=>simpa using c i
 |some v::l,r,h=>by
  simp only [I4]at h
  split at h
  ·rename_i j k hv g
   simp only [oI]at h
   subst h
   obtain ⟨d,c⟩:=Ig g
   refine ⟨by simp [d],fun i=>?_⟩
   cases i with
   |zero=>
    simp only [List.getElem?_cons_zero,oI]
    exact ⟨fun p e=>⟨j,rfl,e▸hv⟩,fun a e=>⟨v,rfl,e▸hv⟩⟩
   |succ i=>simpa using c i
  ·cases h
theorem AO.over {j:Env} {h d:Al} {w:World} (H:AO ρ μ h w) (D:d.next=h.next) (J:j.AY=ρ.AY) (hf:d.fx.AL j) (hb:∀b c,d.get b=some c→∃B,h.get b=some B∧∀o δ,CI ρ μ B o δ→CI j μ c o δ):AO j μ d w:=by
 have own:∀r,AU μ d r→AU μ h r:=fun r ⟨b,B,δ,A,z⟩=>by
  obtain ⟨c,k,_⟩:=hb b B A
  exact ⟨b,c,δ,k,z⟩
 refine ⟨fun b e=>H.fresh b (D▸e),fun b B e=>?_,fun b M B c r δ P A z v x=>?_,⟨fun g o e=>?_,fun g o e=>?_,hf⟩⟩
 ·obtain ⟨C,y,u⟩:=hb b B e
  obtain ⟨r,δ,v,x⟩:=H.blk b C y
  exact ⟨r,δ,v,u _ _ x⟩
 ·obtain ⟨O,y,_⟩:=hb b B A
  obtain ⟨N,u,_⟩:=hb M c z
  exact H.inj _ _ _ _ _ _ _ y u v x
 ·rw [J]at e
  exact ⟨(H.AY.AY g o e).1,fun q=>(H.AY.AY g o e).2 (own g q)⟩
 ·exact ⟨(H.AY.Bg g o e).1,fun q=>(H.AY.Bg g o e).2 (own g q)⟩
end
section
variable {ρ:Env} {τ:Db} {μ:Aq} {w w':World} {pre pre':List Block} {post post':List (Option Block)}
theorem Mh (d:I5 τ pre=some pre') (H:AO ρ μ (Bi pre' (empty 0)) w):AO (ρ.sub τ) μ (Bi pre (empty 0)) w:=by
 obtain ⟨c,g⟩:=FX d
 refine H.over (by rw [Ce,Ce,c]) rfl (by rw [(Ci pre (empty 0)).2.1];exact Ao.AL.none _) fun b B hB=>?_
 rw [C6]at hB
 obtain ⟨a,ha,hs⟩:=(g b).1 B hB
 exact ⟨a,by rw [C6];exact ha,fun o δ=>(EZ hs).2⟩
theorem Jw (d:I5 τ pre=some pre') (H:AO (ρ.sub τ) μ (Bi pre (empty 0)) w):AO ρ μ (Bi pre' (empty 0)) w:=by
 obtain ⟨c,g⟩:=FX d
 refine H.over (by rw [Ce,Ce,c]) rfl (by rw [(Ci pre' (empty 0)).2.1];exact Ao.AL.none _) fun b B hB=>?_
 rw [C6]at hB
 obtain ⟨a,ha,hs⟩:=(g b).2 B hB
 exact ⟨a,by rw [C6];exact ha,fun o δ=>(EZ hs).1⟩
theorem Kn {μ':Aq} (C:I5 τ pre=some pre') (A:I4 τ post=some post') (d:Aw (ρ.sub τ) μ (Bi pre (empty 0)) w μ' (CA post (empty 0)) w'):Aw ρ μ (Bi pre' (empty 0)) w μ' (CA post' (empty 0)) w':=by
 obtain ⟨N,y⟩:=FX C
 obtain ⟨M,x⟩:=Ig A
 have u:∀r,AU μ (Bi pre (empty 0)) r↔AU μ (Bi pre' (empty 0)) r:=fun r=>by
  constructor
  ·rintro ⟨b,B,δ,c,j⟩
   rw [C6]at c
   obtain ⟨a,ha,_⟩:=(y b).1 B c
   exact ⟨b,a,δ,by rw [C6];exact ha,j⟩
  ·rintro ⟨b,B,δ,c,j⟩
   rw [C6]at c
   obtain ⟨a,ha,_⟩:=(y b).2 B c
   exact ⟨b,a,δ,by rw [C6];exact ha,j⟩
 have g:∀{l:List (Option Block)} {b:Nat} {B:Block},(l[b]?).join=some B→l[b]?=some (some B):=fun {l b B} h=>by
  cases e:l[b]? with
  |none=>rw [e]at h;cases h
  |some o=>rw [e]at h;have h:o=some B:=h;rw [h]
 have v:∀r,AU μ' (CA post' (empty 0)) r→AU μ' (CA post (empty 0)) r:=fun r ⟨b,B,δ,c,j⟩=>by
  rw [D8]at c
  obtain ⟨a,ha,_⟩:=(x b).2 B (g c)
  exact ⟨b,a,δ,by rw [D8,ha];rfl,j⟩
 have J:AO ρ μ' (CA post' (empty 0)) w':=by
  refine d.rel.over (by rw [DI,DI,M]) rfl (by rw [(CG post' (empty 0)).2.1];exact Ao.AL.none _) fun b B hB=>?_
  rw [D8]at hB
  obtain ⟨a,ha,hs⟩:=(x b).2 B (g hB)
  exact ⟨a,by rw [D8,ha];rfl,fun o δ=>(EZ hs).1⟩
 refine ⟨d.le,J,d.size,fun r z D=>?_,d.os,d.output,?_,fun b hb=>d.old b ?_,fun k o H=>?_,?_⟩
 ·obtain ⟨c,j⟩:=d.kept r z fun e=>D ((u r).1 e)
  exact ⟨c,fun e=>j (v r e)⟩
 ·have:=d.next
  rw [Ce,DI]at this⊢
  show pre'.length≤post'.length
  omega
 ·rw [Ce]at hb⊢
  show b<pre.length
  have hb:b<pre'.length:=hb
  omega
 ·rcases d.icy k o H with q|q|q
  ·exact .inl q
  ·exact .inr (.inl ((u k).1 q))
  ·exact .inr (.inr q)
 ·rw [(CG post' (empty 0)).2.1,(Ci pre' (empty 0)).2.1]
theorem Hu {μ':Aq} (C:I5 τ pre=some pre') (A:I4 τ post=some post') (d:Aw ρ μ (Bi pre' (empty 0)) w μ' (CA post' (empty 0)) w'):Aw (ρ.sub τ) μ (Bi pre (empty 0)) w μ' (CA post (empty 0)) w':=by
 obtain ⟨N,y⟩:=FX C
 obtain ⟨M,x⟩:=Ig A
 have u:∀r,AU μ (Bi pre' (empty 0)) r↔AU μ (Bi pre (empty 0)) r:=fun r=>by
  constructor
  ·rintro ⟨b,B,δ,c,j⟩
   rw [C6]at c
   obtain ⟨a,ha,_⟩:=(y b).2 B c
   exact ⟨b,a,δ,by rw [C6];exact ha,j⟩
  ·rintro ⟨b,B,δ,c,j⟩
   rw [C6]at c
   obtain ⟨a,ha,_⟩:=(y b).1 B c
   exact ⟨b,a,δ,by rw [C6];exact ha,j⟩
 have g:∀{l:List (Option Block)} {b:Nat} {B:Block},(l[b]?).join=some B→l[b]?=some (some B):=fun {l b B} h=>by
  cases e:l[b]? with
  |none=>rw [e]at h;cases h
  |some o=>rw [e]at h;have h:o=some B:=h;rw [h]
 have v:∀r,AU μ' (CA post (empty 0)) r→AU μ' (CA post' (empty 0)) r:=fun r ⟨b,B,δ,c,j⟩=>by
  rw [D8]at c
  obtain ⟨a,ha,_⟩:=(x b).1 B (g c)
  exact ⟨b,a,δ,by rw [D8,ha];rfl,j⟩
 have J:AO (ρ.sub τ) μ' (CA post (empty 0)) w':=by
  refine d.rel.over (by rw [DI,DI,M]) rfl (by rw [(CG post (empty 0)).2.1];exact Ao.AL.none _) fun b B hB=>?_
  rw [D8]at hB
  obtain ⟨a,ha,hs⟩:=(x b).1 B (g hB)
  exact ⟨a,by rw [D8,ha];rfl,fun o δ=>(EZ hs).2⟩
 refine ⟨d.le,J,d.size,fun r z D=>?_,d.os,d.output,?_,fun b hb=>d.old b ?_,fun k o H=>?_,?_⟩
 ·obtain ⟨c,j⟩:=d.kept r z fun e=>D ((u r).1 e)
  exact ⟨c,fun e=>j (v r e)⟩
 ·have:=d.next
  rw [Ce,DI]at this⊢
  show pre.length≤post.length
  have this:pre'.length≤post'.length:=this
  omega
 ·rw [Ce]at hb⊢
  show b<pre'.length
  have hb:b<pre.length:=hb
  omega
 ·rcases d.icy k o H with q|q|q
  ·exact .inl q
  ·exact .inr (.inl ((u k).1 q))
  ·exact .inr (.inr q)
 ·rw [(CG post (empty 0)).2.1,(Ci pre (empty 0)).2.1]
theorem Holds.sub {P:Program} {g:FuncId} {x y:BC} (hs:x.sub τ=some y) (hx:Holds P (ρ.sub τ) g x):Holds P ρ g y:=by
 unfold BC.sub at hs
 split at hs
 case h_2=>cases hs
 rename_i args pre res post q j k o
 simp only [oI]at hs
 subst hs
 refine ⟨hx.1,fun μ w d H hv=>(hx.2 μ w d (Mh j H) ((FW q).2 hv)).mono fun e w' c=>?_⟩
 obtain ⟨μ',v,c⟩:=c
 refine ⟨μ',Kn j o v,?_⟩
 cases e
 case returned u=>exact (Hw k).1 (show Ag (ρ.sub τ) μ' x.res u from c)
 all_goals exact c.elim
theorem Holds.RF {P:Program} {g:FuncId} {x y:BC} (hs:x.sub τ=some y) (k:Holds P ρ g y):Holds P (ρ.sub τ) g x:=by
 unfold BC.sub at hs
 split at hs
 case h_2=>cases hs
 rename_i args pre res post v j o q
 simp only [oI]at hs
 subst hs
 refine ⟨k.1,fun μ w d H hv=>(k.2 μ w d (Jw j H) ((FW v).1 hv)).mono fun e w' c=>?_⟩
 obtain ⟨μ',z,c⟩:=c
 refine ⟨μ',Hu j q z,?_⟩
 cases e
 case returned u=>exact (Hw o).2 (show Ag ρ μ' res u from c)
 all_goals exact c.elim
def Mi (τ:Db):List (Nat×Aa)→Option (List (Nat×Aa))
 |[]=>some []
 |v::r=>match v.2.RO τ,Mi τ r with
  |some a,some r=>some ((v.1,a)::r)
  |_,_=>none
def YT (τ:Db) (p:List (FuncId×List Aa)):Option (List (FuncId×List Aa)):=
 match p with
 |[]=>some []
 |[p]=>(OH τ p.2).map fun l=>[(p.1,l)]
 |_=>none
theorem Ih {l r:List (FuncId×List Aa)} (h:YT τ l=some r) {ds:List Deferred}:CH (ρ.sub τ) μ l ds↔CH ρ μ r ds:=by
 unfold YT at h
 split at h
 ·simp only [oI]at h
  subst h
  exact Iff.rfl
 ·obtain ⟨l,hl,rfl⟩:=mS h
  constructor
  ·rintro ⟨c,rest,e1,⟨cap,e2,e3⟩,e4⟩
   exact ⟨c,rest,e1,⟨cap,e2,(FW hl).1 e3⟩,e4⟩
  ·rintro ⟨c,rest,e1,⟨cap,e2,e3⟩,e4⟩
   exact ⟨c,rest,e1,⟨cap,e2,(FW hl).2 e3⟩,e4⟩
 ·cases h
def BF.sub (τ:Db) (k:BF):Option BF:=
 match Mi τ k.X5,I5 τ k.pre,Mi τ k.Oa,I4 τ k.post,YT τ k.df with
 |some X5,some pre,some Oa,some post,some df=>some ⟨k.id,X5,pre,Oa,post,df,k.out⟩
 |_,_,_,_,_=>none
theorem OI:∀{l c:List (Nat×Aa)} {t t':Tr Aa},Mi τ l=some c→(∀n,match t.get n with|some p=>∃a,t'.get n=some a∧p.RO τ=some a|none=>t'.get n=none)→
  ∀n,match (OA l t).get n with|some p=>∃a,(OA c t').get n=some a∧p.RO τ=some a|none=>(OA c t').get n=none
 |[],c,t,t',h,ht,n=>by
  simp only [Mi,oI]at h
  subst h
  exact ht n
 |v::r,c,t,t',h,ht,n=>by
  simp only [Mi]at h
  split at h
  ·rename_i a d ha g
   simp only [oI]at h
   subst h
   show match (OA r (t.set v.1 (some v.2))).get n with|some p=>∃b,(OA d (t'.set v.1 (some a))).get n=some b∧p.RO τ=some b|none=>(OA d (t'.set v.1 (some a))).get n=none
   refine OI g (fun m=>?_) n
   rw [Tr.Bq,Tr.Bq]
   by_cases e:m=v.1
   ·rw [if_pos e,if_pos e];exact ⟨a,rfl,ha⟩
   ·rw [if_neg e,if_neg e];exact ht m
  ·cases h
theorem Ie {l o:List (Nat×Aa)} (h:Mi τ l=some o) {a:Act}:Bf (ρ.sub τ) μ (OA l .nil) a↔Bf ρ μ (OA o .nil) a:=by
 have hg:=OI (τ:=τ) (t:=.nil) (t':=.nil) h fun n=>rfl
 constructor
 ·intro g t
  have c:=hg t
  have d:=g t
  cases e:(OA l .nil).get t with
  |none=>rw [e]at c;simp only at c;rw [c];trivial
  |some p=>
   rw [e]at c d
   obtain ⟨b,k,j⟩:=c
   rw [k]
   exact (Hw j).1 d
 ·intro g t
  have c:=hg t
  have d:=g t
  cases e:(OA l .nil).get t with
  |none=>trivial
  |some p=>
   rw [e]at c
   obtain ⟨b,k,j⟩:=c
   rw [k]at d
   exact (Hw j).2 d
theorem Ee.sub {P:Program} {nt:Nat} {x:Code} {k q:BF} (hs:k.sub τ=some q) (g:Ee P (ρ.sub τ) nt x k):Ee P ρ nt x q:=by
 unfold BF.sub at hs
 split at hs
 case h_2=>cases hs
 rename_i X5 pre Oa post df z c v o j
 simp only [oI]at hs
 subst hs
 obtain ⟨n,g⟩:=g
 exact ⟨n,fun μ a w Q F y=>g μ a w Q ⟨(Ie z).2 F.tmps,F.size,Mh c F.heap,(Ih j).2 F.defs⟩ fun μ' A w' d u=>y μ' A w' ⟨(Ie v).1 d.tmps,d.size,(Kn c o u).rel,(Ih j).1 d.defs⟩ (Kn c o u)⟩
theorem Ee.RF {P:Program} {nt:Nat} {x:Code} {k q:BF} (hs:k.sub τ=some q) (g:Ee P ρ nt x q):Ee P (ρ.sub τ) nt x k:=by
 unfold BF.sub at hs
 split at hs
 case h_2=>cases hs
 rename_i X5 pre Oa post df z c v o j
 simp only [oI]at hs
 subst hs
 obtain ⟨n,g⟩:=g
 exact ⟨n,fun μ a w Q F y=>g μ a w Q ⟨(Ie z).1 F.tmps,F.size,Jw c F.heap,(Ih j).1 F.defs⟩ fun μ' A w' d u=>y μ' A w' ⟨(Ie v).2 d.tmps,d.size,(Hu c o u).rel,(Ih j).2 d.defs⟩ (Hu c o u)⟩
end
noncomputable def JM (n:Nat):Nat→List Nat:=Nat.rec (motive:=fun _=>Nat→List Nat) (fun _=>[]) (fun _ ih i=>i::ih (i+1)) n
theorem JL:∀(n k i:Nat),(JM n k)[i]?=if i<n then some (k+i)else none
 |0,k,i=>by rw [if_neg (by omega)];show ([]:List Nat)[i]?=none;simp
 |n+1,k,i=>by
  show (k::JM n (k+1))[i]?=_
  cases i with
  |zero=>simp
  |succ i=>
   rw [List.getElem?_cons_succ,JL n (k+1) i]
   by_cases h:i<n
   ·rw [if_pos h,if_pos (by omega)];congr 1;omega
   ·rw [if_neg h,if_neg (by omega)]
noncomputable def AaP (Γ:Ao) (σ:List Nat) (p a:Aa):Bool:=
 match p,a with
 |.agg ps,.agg as=>GG Γ σ ps as
 |.tuple ps,.tuple as=>KK Γ σ ps as
 |p,a=>HR Γ σ p a
noncomputable def KI (Γ:Ao) (h:Al) (σ:List Nat) (l:List (Option Block)):Nat→Bool:=
 List.rec (motive:=fun _=>Nat→Bool) (fun _=>true) (fun B _ ih i=>(match B with|some B=>eqB Γ h σ i B|none=>true)&&ih (i+1)) l
noncomputable def WX (k:Nat) (l:List Nat):Bool:=List.rec (motive:=fun _=>Bool) true (fun n _ ih=>Nat.ble k n&&ih) l
noncomputable def ZE (Γ:Ao) (x:BC) (c:List Nat) (r:Option (NV×Al)):Bool:=
 match r with
 |some (.ret v,h)=>Nat.beq (Sv x.post) (GO x.pre+Iz c)&&(IU c&&(WX (GO x.pre) c&&(AaP Γ (JM (GO x.pre) 0++c) x.res v&&KI Γ h (JM (GO x.pre) 0++c) x.post 0)))
 |_=>false
section
variable {ρ:Env} {μ μ':Aq} {σ:List Nat}
theorem Yl {Γ:Ao} (c:Γ.AL ρ) (R:Ren μ' μ σ) {p a:Aa} (h:AaP Γ σ p a=true) {u:Value} (d:Ag ρ μ a u):Ag ρ μ' p u:=by
 unfold AaP at h
 split at h
 ·obtain ⟨x,e,hx⟩:=d.agg
  subst e
  simp only [Ag]
  exact ⟨x,rfl,KH c R h hx⟩
 ·obtain ⟨x,e,hx⟩:=d.tuple
  subst e
  simp only [Ag]
  exact ⟨x,rfl,GH c R h hx⟩
 ·exact (Ex c R h d).1
theorem SZ {Γ:Ao} {h:Al} (W:Option Block) (r:List (Option Block)) (k:Nat):KI Γ h σ (W::r) k=((match W with|some B=>eqB Γ h σ k B|none=>true)&&KI Γ h σ r (k+1)):=rfl
theorem Nt {Γ:Ao} {h:Al}:∀{l:List (Option Block)} {k:Nat},KI Γ h σ l k=true→∀i B,l[i]?=some (some B)→∃b A,Cm σ (k+i)=some b∧h.get b=some A∧Nw Γ σ B A=true
 |[],_,_,i,vs,hv=>by simp at hv
 |W::r,k,hb,i,B,hv=>by
  rw [SZ,aT]at hb
  cases i with
  |zero=>
   simp only [List.getElem?_cons_zero,oI]at hv
   subst hv
   have c:=hb.1
   simp only at c
   unfold eqB at c
   split at c
   ·rename_i b d
    split at c
    ·rename_i A hg
     exact ⟨b,A,d,hg,c⟩
    ·cases c
   ·cases c
  |succ i=>
   obtain ⟨b,A,c,g,j⟩:=Nt hb.2 i B (by simpa using hv)
   exact ⟨b,A,by rw [←c];congr 1;omega,g,j⟩
theorem K5 {k:Nat}:∀{l:List Nat},WX k l=true→∀n∈l,k≤n
 |[],_,n,hn=>by cases hn
 |m::r,h,n,hn=>by
  have h:(Nat.ble k m&&WX k r)=true:=h
  rw [aT]at h
  rcases List.mem_cons.1 hn with rfl|hn
  ·exact AX.1 h.1
  ·exact K5 h.2 n hn
theorem shown {Γ:Ao} (hΓ:Γ.AL ρ) {pre:List Block} {post:List (Option Block)} {D:List Nat} {d:Nat} {h:Al} {w w':World} {C:Aq} (ax:post.length=pre.length+D.length) (aj:D.Nodup) (aa:∀n∈D,pre.length≤n) (N:KI Γ h (JM pre.length 0++D) post 0=true)
  (H:AO ρ μ (Bi pre (empty 0)) w) (g1:Aw ρ μ (Bi pre (empty d Γ)) w C h w'):∃μ',Aw ρ μ (Bi pre (empty 0)) w μ' (CA post (empty 0)) w'∧Ren μ' C (JM pre.length 0++D):=by
 generalize hσ:JM pre.length 0++D=σ at N⊢
 have ae:(JM pre.length 0).length=pre.length:=by
  apply Nat.le_antisymm
  ·rcases Nat.lt_or_ge pre.length (JM pre.length 0).length with hlt|hge
   ·have:=List.getElem?_eq_getElem hlt
    rw [JL,if_neg (by omega)]at this
    cases this
   ·exact hge
  ·rcases Nat.lt_or_ge (JM pre.length 0).length pre.length with hlt|hge
   ·have:=List.getElem?_eq_none (Nat.le_refl (JM pre.length 0).length)
    rw [JL,if_pos hlt]at this
    cases this
   ·exact hge
 have u:∀i b,Cm σ i=some b↔(i<pre.length∧b=i)∨(pre.length≤i∧D[i-pre.length]?=some b):=fun i b=>by
  rw [←hσ,F8]
  by_cases X:i<pre.length
  ·rw [List.getElem?_append_left (by omega),JL,if_pos X]
   simp only [Nat.zero_add,oI]
   constructor
   ·intro e;exact .inl ⟨X,e.symm⟩
   ·rintro (⟨_,e⟩|⟨e,_⟩)
    ·exact e.symm
    ·omega
  ·rw [List.getElem?_append_right (by omega),ae]
   constructor
   ·intro e;exact .inr ⟨by omega,e⟩
   ·rintro (⟨e,_⟩|⟨_,e⟩)
    ·omega
    ·exact e
 have ac:∀i j b,Cm σ i=some b→Cm σ j=some b→i=j:=fun i j b X hj=>by
  rcases (u i b).1 X with ⟨h1,h2⟩|⟨h1,h2⟩<;>rcases (u j b).1 hj with ⟨h3,h4⟩|⟨h3,h4⟩
  ·omega
  ·have:=aa b (List.mem_of_getElem? h4);omega
  ·have:=aa b (List.mem_of_getElem? h2);omega
  ·obtain ⟨l1,e1⟩:=List.getElem?_eq_some_iff.1 h2
   obtain ⟨l2,e2⟩:=List.getElem?_eq_some_iff.1 h4
   have:=(List.getElem_inj aj).1 (e1.trans e2.symm)
   omega
 have Q:∀r,AU μ (Bi pre (empty d Γ)) r↔AU μ (Bi pre (empty 0)) r:=fun r=>by
  unfold AU
  simp only [C6]
 let μ':Aq:=⟨fun i=>(Cm σ i).bind C.spot,C.Bg⟩
 have R:Ren μ' C σ:=⟨fun i b e=>by show (Cm σ i).bind C.spot=_;rw [e];rfl,rfl⟩
 have O:∀{l:List (Option Block)} {b:Nat} {B:Block},(l[b]?).join=some B→l[b]?=some (some B):=fun {l b B} h=>by
  cases e:l[b]? with
  |none=>rw [e]at h;cases h
  |some o=>rw [e]at h;have h:o=some B:=h;rw [h]
 have g:∀i B,(CA post (empty 0)).get i=some B→∃b A,Cm σ i=some b∧h.get b=some A∧Nw Γ σ B A=true:=fun i B hB=>by
  rw [D8]at hB
  obtain ⟨b,A,z,J,k3⟩:=Nt N i B (O hB)
  exact ⟨b,A,by rw [←z,Nat.zero_add],J,k3⟩
 have P:∀b,b<pre.length→μ' b=μ b:=fun b hb=>by
  have e:Cm σ b=some b:=(u b b).2 (.inl ⟨hb,rfl⟩)
  rw [R.spot b b e,g1.old b (by rw [Ce];exact hb)]
 have M:∀r,AU μ' (CA post (empty 0)) r→AU C h r:=fun r ⟨i,B,δ,x,v⟩=>by
  obtain ⟨b,A,z,J,_⟩:=g i B x
  rw [R.spot i b z]at v
  exact ⟨b,A,δ,J,v⟩
 refine ⟨μ',⟨⟨fun b y hy=>?_,g1.le.Bg⟩,⟨fun b hb=>?_,fun b B hB=>?_,fun b b' B B' r δ δ' hb ah hm Z=>?_,⟨fun k o U=>?_,fun k o U=>?_,?_⟩⟩,g1.size,fun r hr ho=>?_,g1.os,g1.output,?_,fun b hb=>?_,fun k o U=>?_,?_⟩,R⟩
 ·have hb:b<pre.length:=by
   rcases Nat.lt_or_ge b pre.length with hlt|hge
   ·exact hlt
   ·rw [H.fresh b (by rw [Ce];exact hge)]at hy;cases hy
  rw [P b hb];exact hy
 ·rw [DI]at hb
  show (Cm σ b).bind C.spot=none
  cases e:Cm σ b with
  |none=>rfl
  |some c=>
   rcases (u b c).1 e with ⟨q,_⟩|⟨x,v⟩
   ·omega
   ·have:=(List.getElem?_eq_some_iff.1 v).1;omega
 ·obtain ⟨c,A,z,J,k3⟩:=g b B hB
  obtain ⟨r,δ,m1,m2⟩:=g1.rel.blk c A J
  exact ⟨r,δ,by rw [R.spot b c z];exact m1,P3 hΓ R k3 m2⟩
 ·obtain ⟨c,A,z,J,_⟩:=g b B hb
  obtain ⟨c',A',ab,ai,_⟩:=g b' B' ah
  rw [R.spot b c z]at hm
  rw [R.spot b' c' ab]at Z
  have:=g1.rel.inj _ _ _ _ _ _ _ J ai hm Z
  subst this
  exact ac b b' c z ab
 ·obtain ⟨x,v⟩:=g1.rel.AY.AY k o U
  exact ⟨x,fun q=>v (M k q)⟩
 ·obtain ⟨x,v⟩:=g1.rel.AY.Bg k o U
  exact ⟨x,fun q=>v (M k q)⟩
 ·rw [(CG post (empty 0)).2.1];exact Ao.AL.none ρ
 ·obtain ⟨x,v⟩:=g1.kept r hr fun q=>ho ((Q r).1 q)
  exact ⟨x,fun q=>v (M r q)⟩
 ·rw [Ce,DI];omega
 ·rw [Ce]at hb
  exact P b hb
 ·rcases g1.icy k o U with q|q|q
  ·exact .inl q
  ·exact .inr (.inl ((Q k).1 q))
  ·exact .inr (.inr q)
 ·rw [(CG post (empty 0)).2.1,(Ci pre (empty 0)).2.1]
theorem AO.withFacts {Γ:Ao} (c:Γ.AL ρ) {pre:List Block} {d:Nat} {w:World} (H:AO ρ μ (Bi pre (empty 0)) w):AO ρ μ (Bi pre (empty d Γ)) w:=by
 refine H.over (by rw [Ce,Ce]) rfl (by rw [(Ci pre (empty d Γ)).2.1];exact c) fun b B hB=>?_
 rw [C6]at hB
 exact ⟨B,by rw [C6];exact hB,fun o δ h=>h⟩
theorem QM {P:Program} {Γ:Ao} (y:Γ.AL ρ) {g:FuncId} {call:By} (hc:CC P ρ g call) {x:BC} {d:Nat} {J:List Nat} (c:ZE Γ x J (call x.args (Bi x.pre (empty d Γ)))=true):Holds P ρ g x:=by
 unfold ZE at c
 split at c
 case h_2=>cases c
 rename_i v h j
 rw [aT,aT,aT,aT,An,Gx,Fa,Dm]at c
 obtain ⟨z,D,C,A,q⟩:=c
 refine ⟨(hc x.args _ _ _ j).1,fun μ w o H hv=>?_⟩
 refine ((hc x.args _ _ _ j).2 μ w o (H.withFacts y) hv).mono fun e w' k=>?_
 obtain ⟨M,g1,k⟩:=k
 obtain ⟨μ',N,R⟩:=shown y z (Fk D) (K5 C) q H g1
 refine ⟨μ',N,?_⟩
 cases e
 case returned u=>exact Yl y R A (show Ag ρ M v u from k)
 all_goals exact k.elim
def C0 (P:Program) (ρ:Env) (g:FuncId) (k:BF):Prop:=∀fn c,P.funcs[g]?=some fn→fn.body=some c→∀y∈Dn 0 c,y.1=k.id→Ee P ρ fn.ntmps y.2 k
theorem Uw {P:Program} {g:FuncId} {l:List BF} (h:∀k∈l,C0 P ρ g k):∀fn c,P.funcs[g]?=some fn→fn.body=some c→DB P ρ fn.ntmps l 0 c:=
 fun fn c hf hc y j k d e=>h k d fn c hf hc y j e.symm
noncomputable def Xa (c:IC):Nat→List (Nat×IC):=
 IC.rec (motive:=fun _=>Nat→List (Nat×IC)) (fun _=>[]) (fun _ _ _=>[]) (fun _ _ a b k=>a k++b k) (fun _ _ _ a b k=>a k++b k) (fun id _ b _=>b id) (fun b ih k=>(k,b)::ih k) (fun _ _=>[]) (fun _=>[]) c
theorem U7 {P:Program} {pl:List C3} {nt:Nat}:∀{c:Code} {q:IC} {k:Nat},Bd P pl nt c=some q→∀y∈Dn k c,∃z,Bd P pl nt y.2=some z∧(y.1,z)∈Xa q k:=by
 intro c
 induction c with
 |seq a b iha ihb=>
  intro q k h y d
  simp only [Bd]at h
  split at h
  ·rename_i u C o A
   simp only [oI]at h
   subst h
   rcases List.mem_append.1 d with d|d
   ·obtain ⟨x,g,j⟩:=iha o y d
    exact ⟨x,g,List.mem_append_left _ j⟩
   ·obtain ⟨x,g,j⟩:=ihb A y d
    exact ⟨x,g,List.mem_append_right _ j⟩
  ·cases h
 |cond v a b iha ihb=>
  intro q k h y d
  simp only [Bd]at h
  split at h
  ·rename_i u C o A
   simp only [oI]at h
   subst h
   rcases List.mem_append.1 d with d|d
   ·obtain ⟨x,g,j⟩:=iha o y d
    exact ⟨x,g,List.mem_append_left _ j⟩
   ·obtain ⟨x,g,j⟩:=ihb A y d
    exact ⟨x,g,List.mem_append_right _ j⟩
  ·cases h
 |block id b ih=>
  intro q k h y d
  simp only [Bd]at h
  obtain ⟨u,o,e⟩:=mS h
  subst e
  exact ih o y d
 |loop b ih=>
  intro q k h y d
  simp only [Bd]at h
  obtain ⟨u,o,e⟩:=mS h
  subst e
  rcases List.mem_cons.1 d with rfl|d
  ·exact ⟨u,o,List.mem_cons_self⟩
  ·obtain ⟨x,g,j⟩:=ih o y d
   exact ⟨x,g,List.mem_cons_of_mem _ j⟩
 |_=>intro q k h y d;simp [Dn]at d
noncomputable def WM (id:Nat) (l:List (Nat×IC)):List IC:=List.rec (motive:=fun _=>List IC) [] (fun x _ ih=>bif Nat.beq x.1 id then x.2::ih else ih) l
theorem Kv {id:Nat} {x:IC}:∀{l:List (Nat×IC)},(id,x)∈l→x∈WM id l
 |[],h=>by cases h
 |y::r,h=>by
  show x∈(bif Nat.beq y.1 id then y.2::WM id r else WM id r)
  rw [AP]
  rcases List.mem_cons.1 h with rfl|h
  ·rw [if_pos rfl];exact List.mem_cons_self
  ·split
   ·exact List.mem_cons_of_mem _ (Kv h)
   ·exact Kv h
def UQ (k:BF) (e:Bm):Bool:=
 match e with
 |.exit i=>!k.out&&Nat.beq i k.id
 |.ret=>k.out
 |_=>false
theorem Yj {k:BF} {e:Bm} (h:UQ k e=true):e=k.Nn:=by
 unfold UQ at h
 unfold BF.Nn
 split at h
 ·rw [aT,An]at h
  obtain ⟨c,rfl⟩:=h
  cases hk:k.out<;>rw [hk]at c
  ·rfl
  ·cases c
 ·rw [h];rfl
 ·cases h
noncomputable def Ub (Γ:Ao) (k:BF) (c:List Nat) (r:Option (Bm×Fr)):Bool:=
 match r with
 |some (e,f)=>UQ k e&&(Adp Γ (JM (GO k.pre) 0++c) k.df f.df&&(Nat.beq (Sv k.post) (GO k.pre+Iz c)&&(IU c&&(WX (GO k.pre) c&&(Xd Γ (JM (GO k.pre) 0++c) f.tm k.Oa&&KI Γ f.h (JM (GO k.pre) 0++c) k.post 0)))))
 |_=>false
noncomputable def QB (Γ:Ao) (call:C1) (fuel d:Nat) (F:EI) (k:BF):Option (Bm×Fr):=
 match WM k.id (Xa F.body 0)with
 |[b]=>iter (fun f=>IB Γ k.id f Γ.loops) (fun f=>FH Γ call fuel b k.id f) fuel ⟨OA k.X5 .nil,Bi k.pre (empty d Γ),k.df⟩
 |_=>none
theorem Ol {P:Program} {pl:List C3} {Γ:Ao} (A:Γ.AL ρ) {call:C1} (hc:BM P ρ call) (ad:P.follows .mixedOrders=true) {DP:FuncId→Option EI} (ht:PF P pl DP) {g:FuncId} {F:EI} (hF:DP g=some F) (hl:∀k∈Γ.loops,C0 P ρ g k)
  {fuel d:Nat} {k:BF} {nw:List Nat} (j:Ub Γ k nw (QB Γ call fuel d F k)=true):C0 P ρ g k:=by
 intro fn c hf M y hy u
 obtain ⟨ax,H,N,_⟩:=ht g F hF
 rw [hf]at H
 simp only [oI]at H
 subst H
 obtain ⟨c',D,ai,_⟩:=Ec N
 rw [M]at D
 simp only [oI]at D
 subst D
 obtain ⟨ay,hx,o⟩:=U7 ai y hy
 rw [u]at o
 have o:=Kv o
 unfold QB at j
 split at j
 case h_2=>cases j
 rename_i b hb
 rw [hb,List.mem_singleton]at o
 subst o
 unfold Ub at j
 split at j
 case h_2=>cases j
 rename_i i f ak
 rw [aT,aT,aT,aT,aT,aT,An,Gx,Fa,Dm]at j
 obtain ⟨af,am,ac,aj,ag,X,U⟩:=j
 have ab:DB P ρ fn.ntmps Γ.loops k.id y.2:=fun z hz Z C e=>by
  refine hl Z C fn c hf M z ?_ e.symm
  have sub:∀(c:Code) (cur:Nat),y∈Dn cur c→z∈Dn cur c:=by
   intro c
   induction c with
   |seq a b iha ihb=>intro cur h;rcases List.mem_append.1 h with h|h;exact List.mem_append_left _ (iha _ h);exact List.mem_append_right _ (ihb _ h)
   |cond v a b iha ihb=>intro cur h;rcases List.mem_append.1 h with h|h;exact List.mem_append_left _ (iha _ h);exact List.mem_append_right _ (ihb _ h)
   |block id b ih=>intro cur h;exact ih _ h
   |loop b ih=>
    intro cur h
    rcases List.mem_cons.1 h with e|h
    ·subst e
     refine List.mem_cons_of_mem _ ?_
     have u:cur=k.id:=u
     rw [u]
     exact hz
    ·exact List.mem_cons_of_mem _ (ih _ h)
   |_=>intro cur h;simp [Dn]at h
  exact sub c 0 hy
 obtain ⟨m,hm⟩:=Fh (nt:=fn.ntmps) (x:=y.2) A (fun Z C e=>hl Z C fn c hf M y hy (by rw [u,e])) (fun al F L=>HP A hc ad y.2 ab hx al F L) fuel ak
 refine ⟨m,fun μ a w Q J hQ=>hm ⟨J.tmps,J.size,J.heap.withFacts A,J.defs⟩ ?_⟩
 intro μ1 a' w' e F1 g1 O
 rw [Yj af]at O
 have O:=BF.Ado O
 subst O
 obtain ⟨μ',g',R⟩:=shown A ac (Fk aj) (K5 ag) U J.heap g1
 refine hQ μ' a' w' ⟨fun t=>?_,F1.size,g'.rel,?_⟩ g'
 ·show Ag ρ μ' (EB ((OA k.Oa .nil).get t)) _
  cases hg:(OA k.Oa .nil).get t with
  |none=>trivial
  |some v=>
   rcases PJ _ _ _ _ hg with q|q
   ·exact KL A R (KG X t v q) (F1.tmps t)
   ·cases q
 ·exact Td A R am F1.defs
theorem C0.sub {P:Program} {τ:Db} {g:FuncId} {k d:BF} (hs:k.sub τ=some d) (o:C0 P (ρ.sub τ) g k):C0 P ρ g d:=fun fn c hf hc y q e=>by
 have j:d.id=k.id:=by
  unfold BF.sub at hs
  split at hs
  ·simp only [oI]at hs;subst hs;rfl
  ·cases hs
 exact Ee.sub hs (o fn c hf hc y q (by rw [e,j]))
theorem C0.RF {P:Program} {τ:Db} {g:FuncId} {k d:BF} (hs:k.sub τ=some d) (o:C0 P ρ g d):C0 P (ρ.sub τ) g k:=fun fn c hf hc y q e=>by
 have j:d.id=k.id:=by
  unfold BF.sub at hs
  split at hs
  ·simp only [oI]at hs;subst hs;rfl
  ·cases hs
 exact Ee.RF hs (o fn c hf hc y q (by rw [e,j]))
end
end Go.AM
end
section
namespace Go.AM
structure C4 where
 n:Nat:=0
 s:Nat:=0
 l:Nat:=0
 m:Nat:=0
def C4.add (a b:C4):C4:=⟨a.n+b.n,a.s+b.s,a.l+b.l,a.m+b.m⟩
def C4.eq (a b:C4):Bool:=Nat.beq a.n b.n&&(Nat.beq a.s b.s&&(Nat.beq a.l b.l&&Nat.beq a.m b.m))
structure Ah where
 n:List Int:=[]
 s:List (List Nat):=[]
 l:List (List (List PV)):=[]
 m:List (List (List Nat×List PV)):=[]
def Ah.app (a b:Ah):Ah:=⟨a.n++b.n,a.s++b.s,a.l++b.l,a.m++b.m⟩
def Ah.cnt (v:Ah):C4:=⟨v.n.length,v.s.length,v.l.length,v.m.length⟩
def Ah.env (T:Nat→Option Obj) (v:Ah):Env:=Env.of T v.n v.s v.l v.m
def Ah.e (v:Ah):Env:=v.env fun _=>none
def Ni {α:Type} (d:α):Nat→Nat→List α→List α
 |0,_,_=>[]
 |k+1,i,l=>l.getD i d::Ni d k (i+1) l
def Ah.fit (c:C4) (v:Ah):Ah:=⟨Ni 0 c.n 0 v.n,Ni [] c.s 0 v.s,Ni [] c.l 0 v.l,Ni [] c.m 0 v.m⟩
def Db.vals (τ:Db) (ρ:Env):Ah:=⟨τ.n.map (·.den ρ),τ.s.map (Bz ρ),τ.l.map ρ.lst,τ.m.map ρ.map⟩
def Db.cnt (τ:Db):C4:=⟨τ.n.length,τ.s.length,τ.l.length,τ.m.length⟩
def Db.app (a b:Db):Db:=⟨a.n++b.n,a.s++b.s,a.l++b.l,a.m++b.m⟩
def Nf {α:Type} (f:Nat→α):Nat→Nat→List α
 |0,_=>[]
 |k+1,i=>f i::Nf f k (i+1)
def Mb (c d:C4):Db:=⟨Nf .var d.n c.n,Nf .svar d.s c.s,Nf id d.l c.l,Nf id d.m c.m⟩
inductive CK where
 |int (k:IntKind)
 |bool
 |str
 |list (es:Nat)
 |nilp
def CK.cnt:CK→C4
 |.int _=>{n:=1}
 |.bool=>{n:=1}
 |.str=>{s:=1}
 |.list _=>{n:=1,l:=1}
 |.nilp=>{}
def b01 (b:Bool):Int:=bif b then 1 else 0
def CK.read:CK→PV→Option Ah
 |.int k,.int k' n=>bif U4 k k' then some {n:=[n]}else none
 |.bool,.bool b=>some {n:=[b01 b]}
 |.str,.str s=>some {s:=[s]}
 |.list es,.list es' l=>bif Nat.beq es es' then some {n:=[(l.length:Int)],l:=[l]}else none
 |.nilp,.nilp=>some {}
 |_,_=>none
def CK.val (c:C4):CK→Aa
 |.int k=>.int k (.var c.n)
 |.bool=>.bool (.cmp .neq (.var c.n) (.lit 0))
 |.str=>.svar c.s
 |.list es=>.lst false c.l es (.var c.n)
 |.nilp=>.nilPtr
def HU:List CK→C4
 |[]=>{}
 |k::r=>k.cnt.add (HU r)
def CX:List CK→List PV→Option Ah
 |[],[]=>some {}
 |k::sh,p::ps=>match k.read p with
  |some a=>(match CX sh ps with|some b=>some (a.app b) |none=>none)
  |none=>none
 |_,_=>none
def NC:List CK→C4→List Aa
 |[],_=>[]
 |k::r,c=>k.val c::NC r (c.add k.cnt)
def MR:List CK→C4→List (Nat×ST)
 |[],_=>[]
 |k::r,c=>match k with
  |.list _=>(c.l,.var c.n)::MR r (c.add k.cnt)
  |_=>MR r (c.add k.cnt)
def GZ (ρ:Env):CK→Aa→Option PV
 |.int k,.int k' t=>bif U4 k k' then some (.int k (t.den ρ))else none
 |.bool,.bool b=>some (.bool (b.den ρ))
 |.str,.str s=>some (.str s)
 |.str,.svar i=>some (.str (ρ.str i))
 |.list es,.nilSlice=>some (.list es [])
 |.list es,.lst _ i es' _=>bif Nat.beq es es' then some (.list es (ρ.lst i))else none
 |.nilp,.nilPtr=>some .nilp
 |_,_=>none
def CB (ρ:Env):List CK→List Aa→Option (List PV)
 |[],[]=>some []
 |k::sh,a::as=>match GZ ρ k a with
  |some p=>(match CB ρ sh as with|some ps=>some (p::ps) |none=>none)
  |none=>none
 |_,_=>none
def GX (ρ:Env) (c:List CK):List (List Aa)→Option (List (List PV))
 |[]=>some []
 |a::as=>match CB ρ c a with
  |some p=>(match GX ρ c as with|some ps=>some (p::ps) |none=>none)
  |none=>none
def Dy (ρ:Env) (c:List CK):AR→Option (List (List PV))
 |.els es=>GX ρ c es
 |.all i=>some (ρ.lst i)
 |.take i n=>if 0≤n.den ρ∧n.den ρ≤((ρ.lst i).length:Int)then some ((ρ.lst i).take (n.den ρ).toNat)else none
 |.drop i n=>if 0≤n.den ρ∧n.den ρ≤((ρ.lst i).length:Int)then some ((ρ.lst i).drop (n.den ρ).toNat)else none
def CF (ρ:Env) (c:List CK):List AR→Option (List (List PV))
 |[]=>some []
 |p::ps=>match Dy ρ c p with
  |some a=>(match CF ρ c ps with|some b=>some (a++b) |none=>none)
  |none=>none
def CN (ρ:Env) (c:List CK):List (Aa×List Aa)→Option (List (List Nat×List PV))
 |[]=>some []
 |x::r=>match CB ρ c x.2 with
  |some p=>(match CN ρ c r with|some ps=>some ((Bz ρ x.1,p)::ps) |none=>none)
  |none=>none
def Mg (op:BinOp) (x y:Int):Prop:=
 match op with
 |.eql=>x=y
 |.neq=>x≠y
 |.lss=>x<y
 |.leq=>x≤y
 |.gtr=>x>y
 |_=>x≥y
instance Agm (op:BinOp) (x y:Int):Decidable (Mg op x y):=
 match op with
 |.eql=>inferInstanceAs (Decidable (x=y))
 |.neq=>inferInstanceAs (Decidable (x≠y))
 |.lss=>inferInstanceAs (Decidable (x<y))
 |.leq=>inferInstanceAs (Decidable (x≤y))
 |.gtr=>inferInstanceAs (Decidable (x>y))
 |.geq|.add|.sub|.mul|.quo|.rem|.and|.or|.xor|.shl|.shr|.andNot=>inferInstanceAs (Decidable (x≥y))
inductive Tree where
 |fail
 |leaf (alt:Nat) (nw:List Nat) (τ:Db)
 |test (op:BinOp) (a b:ST) (t e:Tree)
 |A0 (i:Nat) (n:Int) (t e:Tree)
 |sets (i:Nat) (s:List Nat) (t e:Tree)
 |elem (l:Nat) (j:ST) (sh:List CK) (k:Tree)
 |Ad (l:Nat) (t:ST) (k:Tree)
 |BA (s lo hi:Nat) (k:Tree)
 |E5 (x y:Aa) (t e:Tree)
 |cat (x y:Aa) (k:Tree)
 |Az (ps:List AR) (sh:List CK) (k:Tree)
 |look (m:Nat) (key:Aa) (sh:List CK) (t e:Tree)
 |up (m:Nat) (key:Aa) (cs:List Aa) (sh:List CK) (k:Tree)
 |LM (es:List (Aa×List Aa)) (sh:List CK) (k:Tree)
 |bump (t:ST) (n:Nat) (k:Tree)
 |BJ (z:Nat×Nat×Nat×Nat×Nat) (k:Tree)
 |call (c alt:Nat) (τ:Db) (o:C4) (k e:Tree)
abbrev Out:=Nat×Ah
abbrev Vw:=Nat→Ah→Option Out
def N0 (l:List (List PV)) (j:Int) (c:List CK) (k:Ah→Option Out):Option Out:=
 if 0≤j then (match l[j.toNat]? with|some ps=>(match CX c ps with|some w=>k (w.fit (HU c)) |none=>none) |none=>none)else none
def IX (m:List (List Nat×List PV)) (s:List Nat) (c:List CK) (k:Ah→Option Out) (e:Option Out):Option Out:=
 match BO m s with
 |some ps=>(match CX c ps with|some w=>k (w.fit (HU c)) |none=>none)
 |none=>e
def LA (r:Option Out) (c:Nat) (o:C4) (k:Ah→Option Out) (e:Option Out):Option Out:=
 match r with
 |some w=>if w.1=c then k (w.2.fit o)else e
 |none=>none
def H7 {α:Type} (r:Option α) (k:α→Option Out):Option Out:=
 match r with
 |some a=>k a
 |none=>none
def Tree.eval (M:Vw):Tree→Ah→Option Out
 |.fail,_=>none
 |.leaf alt _ τ,v=>some (alt,τ.vals v.e)
 |.test op a b t e,v=>if Mg op (a.den v.e) (b.den v.e)then t.eval M v else e.eval M v
 |.A0 i n t e,v=>if v.n.getD i 0=n then t.eval M v else e.eval M v
 |.sets i s t e,v=>if v.s.getD i []=s then t.eval M v else e.eval M v
 |.elem l j sh k,v=>N0 (v.l.getD l []) (j.den v.e) sh fun w=>k.eval M (v.app w)
 |.Ad l t k,v=>if t.den v.e=((v.l.getD l []).length:Int)then k.eval M v else none
 |.BA s lo hi k,v=>if lo≤(v.s.getD s []).length∧(v.s.getD s []).length≤hi then k.eval M (v.app {n:=[((v.s.getD s []).length:Int)]})else none
 |.E5 x y t e,v=>if Bz v.e x=Bz v.e y then t.eval M v else e.eval M v
 |.cat x y k,v=>if (Bz v.e x).length+(Bz v.e y).length≤1048576 then k.eval M (v.app {s:=[Bz v.e x++Bz v.e y]})else none
 |.Az ps sh k,v=>H7 (CF v.e sh ps) fun l=>k.eval M (v.app {n:=[(l.length:Int)],l:=[l]})
 |.look m key sh t e,v=>IX (v.m.getD m []) (Bz v.e key) sh (fun w=>t.eval M (v.app w)) (e.eval M v)
 |.up m key cs sh k,v=>H7 (CB v.e sh cs) fun ps=>k.eval M (v.app {m:=[Bn (v.m.getD m []) (Bz v.e key) ps]})
 |.LM es sh k,v=>H7 (CN v.e sh es) fun l=>k.eval M (v.app {m:=[l]})
 |.bump t n k,v=>if t.den v.e+n≤1048576 then k.eval M (v.app {n:=[t.den v.e+n]})else none
 |.BJ _ k,v=>k.eval M v
 |.call c alt τ o k e,v=>LA (M c (τ.vals v.e)) alt o (fun w=>k.eval M (v.app w)) (e.eval M v)
def mir (trees:Nat→Tree):Nat→Vw
 |0,_,_=>none
 |N+1,c,v=>(trees c).eval (mir trees N) v
def ST.Cr (n:Nat):ST→Bool
 |.lit _=>true
 |.var i=>Nat.blt i n
 |.bin _ _ a b=>a.Cr n&&b.Cr n
 |.conv _ a=>a.Cr n
def SB.Cr (n:Nat):SB→Bool
 |.lit _=>true
 |.cmp _ a b=>a.Cr n&&b.Cr n
 |.no a=>a.Cr n
def Aa.Cr (c:C4):Aa→Bool
 |.bool b=>b.Cr c.n
 |.int _ t=>t.Cr c.n
 |.str _=>true
 |.svar i=>Nat.blt i c.s
 |.lst f i _ t=>!f&&(Nat.blt i c.l&&t.Cr c.n)
 |.nilPtr=>true
 |.nilSlice=>true
 |_=>false
def Cn {α:Type} (p:α→Bool):List α→Bool
 |[]=>true
 |a::r=>p a&&Cn p r
def AR.Cr (c:C4):AR→Bool
 |.els es=>Cn (Cn (Aa.Cr c)) es
 |.all i=>Nat.blt i c.l
 |.take i n=>Nat.blt i c.l&&n.Cr c.n
 |.drop i n=>Nat.blt i c.l&&n.Cr c.n
def Ml (c:C4) (a:Aa):Bool:=a.isStr&&a.Cr c
def Db.Cr (c:C4) (τ:Db):Bool:=Cn (ST.Cr c.n) τ.n&&(Cn (Ml c) τ.s&&(Cn (fun i=>Nat.blt i c.l) τ.l&&Cn (fun i=>Nat.blt i c.m) τ.m))
def Tree.Cr:Tree→C4→Bool
 |.fail,_=>true
 |.leaf _ _ τ,c=>τ.Cr c
 |.test _ a b t e,c=>a.Cr c.n&&(b.Cr c.n&&(t.Cr c&&e.Cr c))
 |.A0 i _ t e,c=>Nat.blt i c.n&&(t.Cr c&&e.Cr c)
 |.sets i _ t e,c=>Nat.blt i c.s&&(t.Cr c&&e.Cr c)
 |.elem l j sh k,c=>Nat.blt l c.l&&(j.Cr c.n&&k.Cr (c.add (HU sh)))
 |.Ad l t k,c=>Nat.blt l c.l&&(t.Cr c.n&&k.Cr c)
 |.BA s _ _ k,c=>Nat.blt s c.s&&k.Cr (c.add {n:=1})
 |.E5 x y t e,c=>Ml c x&&(Ml c y&&(t.Cr c&&e.Cr c))
 |.cat x y k,c=>Ml c x&&(Ml c y&&k.Cr (c.add {s:=1}))
 |.Az ps _ k,c=>Cn (AR.Cr c) ps&&k.Cr (c.add {n:=1,l:=1})
 |.look m key sh t e,c=>Nat.blt m c.m&&(Ml c key&&(t.Cr (c.add (HU sh))&&e.Cr c))
 |.up m key cs _ k,c=>Nat.blt m c.m&&(Ml c key&&(Cn (Aa.Cr c) cs&&k.Cr (c.add {m:=1})))
 |.LM es _ k,c=>Cn (fun x:Aa×List Aa=>Ml c x.1&&Cn (Aa.Cr c) x.2) es&&k.Cr (c.add {m:=1})
 |.bump t _ k,c=>t.Cr c.n&&k.Cr (c.add {n:=1})
 |.BJ _ k,c=>k.Cr c
 |.call _ _ τ o k e,c=>τ.Cr c&&(k.Cr (c.add o)&&e.Cr c)
def At (vf:Ah) (c:C4) (w:Ah):Prop:=∃v r:Ah,v.cnt=c∧vf=(v.app w).app r
def Tree.sem (M:Vw) (vf:Ah):Tree→C4→Out→Prop
 |.fail,_,_=>False
 |.leaf alt _ τ,_,o=>o=(alt,τ.vals vf.e)
 |.test op a b t e,c,o=>(Mg op (a.den vf.e) (b.den vf.e)∧t.sem M vf c o)∨(¬Mg op (a.den vf.e) (b.den vf.e)∧e.sem M vf c o)
 |.A0 i n t e,c,o=>(vf.n.getD i 0=n∧t.sem M vf c o)∨(vf.n.getD i 0≠n∧e.sem M vf c o)
 |.sets i s t e,c,o=>(vf.s.getD i []=s∧t.sem M vf c o)∨(vf.s.getD i []≠s∧e.sem M vf c o)
 |.elem l j sh k,c,o=>0≤j.den vf.e∧∃ps w,(vf.l.getD l [])[(j.den vf.e).toNat]?=some ps∧CX sh ps=some w∧At vf c w∧k.sem M vf (c.add (HU sh)) o
 |.Ad l t k,c,o=>t.den vf.e=((vf.l.getD l []).length:Int)∧k.sem M vf c o
 |.BA s lo hi k,c,o=>lo≤(vf.s.getD s []).length∧(vf.s.getD s []).length≤hi∧At vf c {n:=[((vf.s.getD s []).length:Int)]}∧k.sem M vf (c.add {n:=1}) o
 |.E5 x y t e,c,o=>(Bz vf.e x=Bz vf.e y∧t.sem M vf c o)∨(Bz vf.e x≠Bz vf.e y∧e.sem M vf c o)
 |.cat x y k,c,o=>(Bz vf.e x).length+(Bz vf.e y).length≤1048576∧At vf c {s:=[Bz vf.e x++Bz vf.e y]}∧k.sem M vf (c.add {s:=1}) o
 |.Az ps sh k,c,o=>∃l,CF vf.e sh ps=some l∧At vf c {n:=[(l.length:Int)],l:=[l]}∧k.sem M vf (c.add {n:=1,l:=1}) o
 |.look m key sh t e,c,o=>(∃ps w,BO (vf.m.getD m []) (Bz vf.e key)=some ps∧CX sh ps=some w∧At vf c w∧t.sem M vf (c.add (HU sh)) o)∨(BO (vf.m.getD m []) (Bz vf.e key)=none∧e.sem M vf c o)
 |.up m key cs sh k,c,o=>∃ps,CB vf.e sh cs=some ps∧At vf c {m:=[Bn (vf.m.getD m []) (Bz vf.e key) ps]}∧k.sem M vf (c.add {m:=1}) o
 |.LM es sh k,c,o=>∃l,CN vf.e sh es=some l∧At vf c {m:=[l]}∧k.sem M vf (c.add {m:=1}) o
 |.bump t n k,c,o=>t.den vf.e+n≤1048576∧At vf c {n:=[t.den vf.e+n]}∧k.sem M vf (c.add {n:=1}) o
 |.BJ _ k,c,o=>k.sem M vf c o
 |.call g alt τ u k e,c,o=>(∃w,M g (τ.vals vf.e)=some (alt,w)∧At vf c (w.fit u)∧k.sem M vf (c.add u) o)∨e.sem M vf c o
end Go.AM
end
section
namespace Go.AM
theorem Ah.ext' {a b:Ah} (g:a.n=b.n) (d:a.s=b.s) (j:a.l=b.l) (c:a.m=b.m):a=b:=by
 cases a;cases b;simp only at g d j c;subst g d j c;rfl
theorem Ah.Bw (a b c:Ah):(a.app b).app c=a.app (b.app c):=by
 apply Ah.ext'<;>simp [Ah.app,List.append_assoc]
theorem Ah.Ad7 (a:Ah):a.app {}=a:=by
 apply Ah.ext'<;>simp [Ah.app]
theorem Ah.Cw (a b:Ah):(a.app b).cnt=a.cnt.add b.cnt:=by
 simp [Ah.app,Ah.cnt,C4.add]
theorem HM {α:Type} (d:α):∀(k i:Nat) (l:List α),(Ni d k i l).length=k
 |0,_,_=>rfl
 |k+1,i,l=>by simp [Ni,HM d k (i+1) l]
theorem Ah.Adv (c:C4) (v:Ah):(v.fit c).cnt=c:=by
 simp [Ah.fit,Ah.cnt,HM]
theorem SV {α:Type} (d:α):∀(k i j:Nat) (l:List α),j<k→(Ni d k i l)[j]?=some (l.getD (i+j) d)
 |0,_,_,_,h=>by omega
 |k+1,i,j,l,h=>by
  cases j with
  |zero=>simp [Ni]
  |succ j=>
   show (Ni d k (i+1) l)[j]?=_
   rw [SV d k (i+1) j l (by omega)]
   congr 2;omega
theorem Yi {α:Type} (d:α) (l:List α):Ni d l.length 0 l=l:=by
 apply List.ext_getElem?
 intro j
 by_cases h:j<l.length
 ·rw [SV d _ _ _ _ h,List.getElem?_eq_getElem h]
  simp [List.getD_eq_getElem?_getD,List.getElem?_eq_getElem h]
 ·rw [List.getElem?_eq_none (by rw [HM];omega),List.getElem?_eq_none (by omega)]
theorem Ah.Nh {v:Ah} {c:C4} (h:v.cnt=c):v.fit c=v:=by
 subst h
 apply Ah.ext'<;>exact Yi _ _
theorem C4.eq_iff {a b:C4}:a.eq b=true↔a=b:=by
 cases a;cases b
 simp [C4.eq]
theorem CK.Sn {k:CK} {p:PV} {w:Ah} (h:k.read p=some w):w.cnt=k.cnt:=by
 cases k<;>cases p<;>simp only [CK.read,reduceCtorEq,oI]at h
 case int.int=>
  obtain ⟨_,h⟩:=Ap h
  simp only [oI]at h
  subst h;rfl
 case list.list=>
  obtain ⟨_,h⟩:=Ap h
  simp only [oI]at h
  subst h;rfl
 all_goals subst h;rfl
theorem Gd:∀{c:List CK} {ps:List PV} {w:Ah},CX c ps=some w→w.cnt=HU c
 |[],[],w,h=>by simp only [CX,oI]at h;subst h;rfl
 |k::c,p::ps,w,h=>by
  simp only [CX]at h
  split at h
  ·rename_i a ha
   split at h
   ·rename_i b hb
    simp only [oI]at h
    subst h
    rw [Ah.Cw,CK.Sn ha,Gd hb];rfl
   ·cases h
  ·cases h
 |[],_::_,w,h=>by simp [CX]at h
 |_::_,[],w,h=>by simp [CX]at h
section
variable {v r:Ah}
theorem PI {i:Nat} (h:Nat.blt i v.cnt.n=true):(v.app r).n.getD i 0=v.n.getD i 0:=by
 have h:i<v.n.length:=by rwa [Nat.blt_eq]at h
 simp only [Ah.app,List.getD_eq_getElem?_getD,List.getElem?_append_left h]
theorem Jz {i:Nat} (h:Nat.blt i v.cnt.s=true):(v.app r).s.getD i []=v.s.getD i []:=by
 have h:i<v.s.length:=by rwa [Nat.blt_eq]at h
 simp only [Ah.app,List.getD_eq_getElem?_getD,List.getElem?_append_left h]
theorem Gy {i:Nat} (h:Nat.blt i v.cnt.l=true):(v.app r).l.getD i []=v.l.getD i []:=by
 have h:i<v.l.length:=by rwa [Nat.blt_eq]at h
 simp only [Ah.app,List.getD_eq_getElem?_getD,List.getElem?_append_left h]
theorem LU {i:Nat} (h:Nat.blt i v.cnt.m=true):(v.app r).m.getD i []=v.m.getD i []:=by
 have h:i<v.m.length:=by rwa [Nat.blt_eq]at h
 simp only [Ah.app,List.getD_eq_getElem?_getD,List.getElem?_append_left h]
theorem ST.Cc:∀{t:ST},t.Cr v.cnt.n=true→t.den (v.app r).e=t.den v.e
 |.lit _,_=>rfl
 |.var i,h=>PI h
 |.bin _ _ a b,h=>by
  simp only [ST.Cr,aT]at h
  simp only [ST.den,ST.Cc h.1,ST.Cc h.2]
 |.conv _ a,h=>by
  simp only [ST.Cr]at h
  simp only [ST.den,ST.Cc h]
theorem SB.Cc:∀{t:SB},t.Cr v.cnt.n=true→t.den (v.app r).e=t.den v.e
 |.lit _,_=>rfl
 |.cmp _ a b,h=>by
  simp only [SB.Cr,aT]at h
  simp only [SB.den,ST.Cc h.1,ST.Cc h.2]
 |.no a,h=>by
  simp only [SB.Cr]at h
  simp only [SB.den,SB.Cc h]
theorem Dc {a:Aa} (h:Ml v.cnt a=true):Bz (v.app r).e a=Bz v.e a:=by
 simp only [Ml,aT]at h
 cases a<;>simp only [Aa.isStr,Bool.false_eq_true,false_and]at h
 case str=>rfl
 case svar i=>exact Jz h.2
theorem Ys {k:CK} {a:Aa} (h:a.Cr v.cnt=true):GZ (v.app r).e k a=GZ v.e k a:=by
 cases k<;>cases a<;>simp only [Aa.Cr,Bool.false_eq_true]at h<;>try rfl
 case int.int=>simp only [GZ,ST.Cc h]
 case bool.bool=>simp only [GZ,SB.Cc h]
 case str.svar i=>simp only [GZ];rw [show (v.app r).e.str i=v.e.str i from Jz h]
 case list.lst es f i es' n=>
  simp only [aT]at h
  simp only [GZ];rw [show (v.app r).e.lst i=v.e.lst i from Gy h.2.1]
theorem Gm {α:Type} {p:α→Bool}:∀{l:List α},Cn p l=true→∀x∈l,p x=true
 |[],_,_,hx=>by cases hx
 |a::l,h,x,hx=>by
  simp only [Cn,aT]at h
  rcases List.mem_cons.1 hx with rfl|hx
  ·exact h.1
  ·exact Gm h.2 x hx
theorem GN:∀{c:List CK} {as:List Aa},Cn (Aa.Cr v.cnt) as=true→CB (v.app r).e c as=CB v.e c as
 |[],[],_=>rfl
 |[],_::_,_=>rfl
 |_::_,[],_=>rfl
 |k::c,a::as,h=>by
  simp only [Cn,aT]at h
  simp only [CB,Ys h.1,GN h.2]
theorem OT {c:List CK}:∀{as:List (List Aa)},Cn (Cn (Aa.Cr v.cnt)) as=true→GX (v.app r).e c as=GX v.e c as
 |[],_=>rfl
 |a::as,h=>by
  simp only [Cn,aT]at h
  simp only [GX,GN h.1,OT h.2]
theorem XP {c:List CK} {p:AR} (h:p.Cr v.cnt=true):Dy (v.app r).e c p=Dy v.e c p:=by
 cases p<;>simp only [AR.Cr,aT]at h
 case els es=>exact OT h
 case all i=>simp only [Dy];rw [show (v.app r).e.lst i=v.e.lst i from Gy h]
 case take i n=>simp only [Dy];rw [show (v.app r).e.lst i=v.e.lst i from Gy h.1,ST.Cc h.2]
 case drop i n=>simp only [Dy];rw [show (v.app r).e.lst i=v.e.lst i from Gy h.1,ST.Cc h.2]
theorem MD {c:List CK}:∀{ps:List AR},Cn (AR.Cr v.cnt) ps=true→CF (v.app r).e c ps=CF v.e c ps
 |[],_=>rfl
 |p::ps,h=>by
  simp only [Cn,aT]at h
  simp only [CF,XP h.1,MD h.2]
theorem JY {d:List CK}:∀{c:List (Aa×List Aa)},Cn (fun x:Aa×List Aa=>Ml v.cnt x.1&&Cn (Aa.Cr v.cnt) x.2) c=true→CN (v.app r).e d c=CN v.e d c
 |[],_=>rfl
 |x::c,h=>by
  simp only [Cn,aT]at h
  simp only [CN,GN h.1.2,Dc h.1.1,JY h.2]
theorem De {α β:Type} {f g:α→β}:∀{l:List α},(∀x∈l,f x=g x)→l.map f=l.map g
 |[],_=>rfl
 |x::l,h=>by
  rw [List.map_cons,List.map_cons,h x List.mem_cons_self,De fun y c=>h y (List.mem_cons_of_mem _ c)]
theorem Db.YG {τ:Db} (h:τ.Cr v.cnt=true):τ.vals (v.app r).e=τ.vals v.e:=by
 simp only [Db.Cr,aT]at h
 obtain ⟨k,j,o,g⟩:=h
 apply Ah.ext'
 ·exact De fun t d=>ST.Cc (Gm k t d)
 ·exact De fun t d=>Dc (Gm j t d)
 ·exact De fun i c=>Gy (Gm o i c)
 ·exact De fun i c=>LU (Gm g i c)
end
theorem UU {l:List (List PV)} {j:Int} {g:List CK} {k:Ah→Option Out} {o:Out} (h:N0 l j g k=some o):0≤j∧∃ps w,l[j.toNat]?=some ps∧CX g ps=some w∧k w=some o:=by
 unfold N0 at h
 split at h
 ·rename_i q
  split at h
  ·rename_i ps c
   split at h
   ·rename_i w d
    rw [Ah.Nh (Gd d)]at h
    exact ⟨q,ps,w,c,d,h⟩
   ·cases h
  ·cases h
 ·cases h
theorem Uz {m:List (List Nat×List PV)} {s:List Nat} {g:List CK} {k:Ah→Option Out} {e:Option Out} {o:Out} (h:IX m s g k e=some o):(∃ps w,BO m s=some ps∧CX g ps=some w∧k w=some o)∨(BO m s=none∧e=some o):=by
 unfold IX at h
 split at h
 ·rename_i ps d
  split at h
  ·rename_i w c
   rw [Ah.Nh (Gd c)]at h
   exact .inl ⟨ps,w,d,c,h⟩
  ·cases h
 ·rename_i j
  exact .inr ⟨j,h⟩
theorem Vh {r:Option Out} {c:Nat} {u:C4} {k:Ah→Option Out} {e:Option Out} {o:Out} (h:LA r c u k e=some o):(∃w,r=some (c,w)∧k (w.fit u)=some o)∨e=some o:=by
 unfold LA at h
 split at h
 ·rename_i w
  split at h
  ·rename_i ha
   refine .inl ⟨w.2,?_,h⟩
   rw [←ha]
  ·exact .inr h
 ·cases h
theorem IP {α:Type} {r:Option α} {k:α→Option Out} {o:Out} (h:H7 r k=some o):∃a,r=some a∧k a=some o:=by
 unfold H7 at h
 split at h
 ·rename_i a
  exact ⟨a,rfl,h⟩
 ·cases h
theorem B7 {M:Vw}:∀(t:Tree) {v:Ah} {o:Out},t.Cr v.cnt=true→t.eval M v=some o→∃r,t.sem M (v.app r) v.cnt o
 |.fail,v,o,_,h=>by simp [Tree.eval]at h
 |.leaf alt nw τ,v,o,hb,h=>by
  simp only [Tree.eval,oI]at h
  refine ⟨{},?_⟩
  simp only [Tree.sem,Ah.Ad7]
  exact h.symm
 |.test op a b t e,v,o,hb,h=>by
  simp only [Tree.Cr,aT]at hb
  simp only [Tree.eval]at h
  split at h
  ·rename_i hc
   obtain ⟨r,d⟩:=B7 t hb.2.2.1 h
   refine ⟨r,.inl ⟨?_,d⟩⟩
   rw [ST.Cc hb.1,ST.Cc hb.2.1];exact hc
  ·rename_i hc
   obtain ⟨r,d⟩:=B7 e hb.2.2.2 h
   refine ⟨r,.inr ⟨?_,d⟩⟩
   rw [ST.Cc hb.1,ST.Cc hb.2.1];exact hc
 |.A0 i n t e,v,o,hb,h=>by
  simp only [Tree.Cr,aT]at hb
  simp only [Tree.eval]at h
  split at h
  ·rename_i hc
   obtain ⟨r,d⟩:=B7 t hb.2.1 h
   exact ⟨r,.inl ⟨by rw [PI hb.1];exact hc,d⟩⟩
  ·rename_i hc
   obtain ⟨r,d⟩:=B7 e hb.2.2 h
   exact ⟨r,.inr ⟨by rw [PI hb.1];exact hc,d⟩⟩
 |.sets i s t e,v,o,hb,h=>by
  simp only [Tree.Cr,aT]at hb
  simp only [Tree.eval]at h
  split at h
  ·rename_i hc
   obtain ⟨r,d⟩:=B7 t hb.2.1 h
   exact ⟨r,.inl ⟨by rw [Jz hb.1];exact hc,d⟩⟩
  ·rename_i hc
   obtain ⟨r,d⟩:=B7 e hb.2.2 h
   exact ⟨r,.inr ⟨by rw [Jz hb.1];exact hc,d⟩⟩
 |.elem l j sh k,v,o,hb,h=>by
  simp only [Tree.Cr,aT]at hb
  simp only [Tree.eval]at h
  obtain ⟨A,ps,w,g,q,h⟩:=UU h
  have hc:(v.app w).cnt=v.cnt.add (HU sh):=by rw [Ah.Cw,Gd q]
  obtain ⟨r,d⟩:=B7 k (by rw [hc];exact hb.2.2) h
  rw [hc,Ah.Bw]at d
  exact ⟨w.app r,by rw [ST.Cc hb.2.1];exact A,ps,w,by rw [ST.Cc hb.2.1,Gy hb.1];exact g,q,⟨v,r,rfl,(Ah.Bw _ _ _).symm⟩,d⟩
 |.Ad l t k,v,o,hb,h=>by
  simp only [Tree.Cr,aT]at hb
  simp only [Tree.eval]at h
  split at h
  ·rename_i hc
   obtain ⟨r,d⟩:=B7 k hb.2.2 h
   exact ⟨r,by rw [ST.Cc hb.2.1,Gy hb.1];exact hc,d⟩
  ·cases h
 |.BA s lo hi k,v,o,hb,h=>by
  simp only [Tree.Cr,aT]at hb
  simp only [Tree.eval]at h
  split at h
  ·rename_i hc
   obtain ⟨r,d⟩:=B7 k (v:=v.app {n:=[((v.s.getD s []).length:Int)]}) (by rw [Ah.Cw];exact hb.2) h
   rw [Ah.Cw,Ah.Bw]at d
   refine ⟨Ah.app {n:=[((v.s.getD s []).length:Int)]} r,?_⟩
   simp only [Tree.sem]
   rw [Jz hb.1]
   exact ⟨hc.1,hc.2,⟨v,r,rfl,(Ah.Bw _ _ _).symm⟩,d⟩
  ·cases h
 |.E5 x y t e,v,o,hb,h=>by
  simp only [Tree.Cr,aT]at hb
  simp only [Tree.eval]at h
  split at h
  ·rename_i hc
   obtain ⟨r,d⟩:=B7 t hb.2.2.1 h
   exact ⟨r,.inl ⟨by rw [Dc hb.1,Dc hb.2.1];exact hc,d⟩⟩
  ·rename_i hc
   obtain ⟨r,d⟩:=B7 e hb.2.2.2 h
   exact ⟨r,.inr ⟨by rw [Dc hb.1,Dc hb.2.1];exact hc,d⟩⟩
 |.cat x y k,v,o,hb,h=>by
  simp only [Tree.Cr,aT]at hb
  simp only [Tree.eval]at h
  split at h
  ·rename_i hc
   obtain ⟨r,d⟩:=B7 k (v:=v.app {s:=[Bz v.e x++Bz v.e y]}) (by rw [Ah.Cw];exact hb.2.2) h
   rw [Ah.Cw,Ah.Bw]at d
   refine ⟨Ah.app {s:=[Bz v.e x++Bz v.e y]} r,?_⟩
   simp only [Tree.sem]
   rw [Dc hb.1,Dc hb.2.1]
   exact ⟨hc,⟨v,r,rfl,(Ah.Bw _ _ _).symm⟩,d⟩
  ·cases h
 |.Az ps sh k,v,o,hb,h=>by
  simp only [Tree.Cr,aT]at hb
  simp only [Tree.eval]at h
  obtain ⟨l,hl,h⟩:=IP h
  obtain ⟨r,d⟩:=B7 k (v:=v.app {n:=[(l.length:Int)],l:=[l]}) (by rw [Ah.Cw];exact hb.2) h
  rw [Ah.Cw,Ah.Bw]at d
  refine ⟨Ah.app {n:=[(l.length:Int)],l:=[l]} r,l,?_,⟨v,r,rfl,(Ah.Bw _ _ _).symm⟩,d⟩
  rw [MD hb.1];exact hl
 |.look m key sh t e,v,o,hb,h=>by
  simp only [Tree.Cr,aT]at hb
  simp only [Tree.eval]at h
  rcases Uz h with ⟨ps,w,g,q,h⟩|⟨hn,h⟩
  ·have hc:(v.app w).cnt=v.cnt.add (HU sh):=by rw [Ah.Cw,Gd q]
   obtain ⟨r,d⟩:=B7 t (by rw [hc];exact hb.2.2.1) h
   rw [hc,Ah.Bw]at d
   exact ⟨w.app r,.inl ⟨ps,w,by rw [LU hb.1,Dc hb.2.1];exact g,q,⟨v,r,rfl,(Ah.Bw _ _ _).symm⟩,d⟩⟩
  ·obtain ⟨r,d⟩:=B7 e hb.2.2.2 h
   exact ⟨r,.inr ⟨by rw [LU hb.1,Dc hb.2.1];exact hn,d⟩⟩
 |.up m key cs sh k,v,o,hb,h=>by
  simp only [Tree.Cr,aT]at hb
  simp only [Tree.eval]at h
  obtain ⟨ps,g,h⟩:=IP h
  obtain ⟨r,d⟩:=B7 k (v:=v.app {m:=[Bn (v.m.getD m []) (Bz v.e key) ps]}) (by rw [Ah.Cw];exact hb.2.2.2) h
  rw [Ah.Cw,Ah.Bw]at d
  refine ⟨Ah.app {m:=[Bn (v.m.getD m []) (Bz v.e key) ps]} r,ps,?_,?_,d⟩
  ·rw [GN hb.2.2.1];exact g
  ·rw [LU hb.1,Dc hb.2.1]
   exact ⟨v,r,rfl,(Ah.Bw _ _ _).symm⟩
 |.LM es sh k,v,o,hb,h=>by
  simp only [Tree.Cr,aT]at hb
  simp only [Tree.eval]at h
  obtain ⟨l,hl,h⟩:=IP h
  obtain ⟨r,d⟩:=B7 k (v:=v.app {m:=[l]}) (by rw [Ah.Cw];exact hb.2) h
  rw [Ah.Cw,Ah.Bw]at d
  refine ⟨Ah.app {m:=[l]} r,l,?_,⟨v,r,rfl,(Ah.Bw _ _ _).symm⟩,d⟩
  rw [JY hb.1];exact hl
 |.bump t n k,v,o,hb,h=>by
  simp only [Tree.Cr,aT]at hb
  simp only [Tree.eval]at h
  split at h
  ·rename_i hc
   obtain ⟨r,d⟩:=B7 k (v:=v.app {n:=[t.den v.e+n]}) (by rw [Ah.Cw];exact hb.2) h
   rw [Ah.Cw,Ah.Bw]at d
   refine ⟨Ah.app {n:=[t.den v.e+n]} r,?_⟩
   simp only [Tree.sem]
   rw [ST.Cc hb.1]
   exact ⟨hc,⟨v,r,rfl,(Ah.Bw _ _ _).symm⟩,d⟩
  ·cases h
 |.BJ z k,v,o,hb,h=>by
  obtain ⟨r,d⟩:=B7 k (v:=v) hb h
  exact ⟨r,d⟩
 |.call c alt τ u k e,v,o,hb,h=>by
  simp only [Tree.Cr,aT]at hb
  simp only [Tree.eval]at h
  rcases Vh h with ⟨w,q,h⟩|h
  ·have hc:(v.app (w.fit u)).cnt=v.cnt.add u:=by rw [Ah.Cw,Ah.Adv]
   obtain ⟨r,d⟩:=B7 k (by rw [hc];exact hb.2.1) h
   rw [hc,Ah.Bw]at d
   exact ⟨(w.fit u).app r,.inl ⟨w,by rw [Db.YG hb.1];exact q,⟨v,r,rfl,(Ah.Bw _ _ _).symm⟩,d⟩⟩
  ·obtain ⟨r,d⟩:=B7 e hb.2.2 h
   exact ⟨r,.inr d⟩
end Go.AM
end
section
namespace Go.AM
inductive Kf where
 |call (x:BC)
 |loop (k:BF)
def Kf.sub (τ:Db):Kf→Option Kf
 |.call x=>(x.sub τ).map .call
 |.loop k=>(k.sub τ).map .loop
def Kf.Holds (P:Program) (ρ:Env) (g:FuncId):Kf→Prop
 |.call x=>Go.AM.Holds P ρ g x
 |.loop k=>C0 P ρ g k
structure Alt where
 outs:C4
 w:Kf
structure Spec where
 f:Nat
 ins:C4
 alts:List Alt
theorem Kf.Afn {P:Program} {ρ:Env} {τ:Db} {g:FuncId} {w y:Kf} (hs:w.sub τ=some y) (h:w.Holds P (ρ.sub τ) g):y.Holds P ρ g:=by
 cases w
 case call x=>
  obtain ⟨z,c,rfl⟩:=mS hs
  exact Go.AM.Holds.sub c h
 case loop k=>
  obtain ⟨z,c,rfl⟩:=mS hs
  exact C0.sub c h
theorem Kf.Aep {P:Program} {ρ:Env} {τ:Db} {g:FuncId} {w y:Kf} (hs:w.sub τ=some y) (h:y.Holds P ρ g):w.Holds P (ρ.sub τ) g:=by
 cases w
 case call x=>
  obtain ⟨z,c,rfl⟩:=mS hs
  exact Go.AM.Holds.RF c h
 case loop k=>
  obtain ⟨z,c,rfl⟩:=mS hs
  exact C0.RF c h
structure Cx where
 cnt:C4
 fx:Ao
 ks:List (Nat×BC)
 ins:Db
def ST.A0 (i:Nat) (n:Int):ST→ST
 |.lit m=>.lit m
 |.var j=>bif Nat.beq i j then .lit n else .var j
 |.bin o k a b=>.bin o k (a.A0 i n) (b.A0 i n)
 |.conv k a=>.conv k (a.A0 i n)
def SB.A0 (i:Nat) (n:Int):SB→SB
 |.lit b=>.lit b
 |.cmp o a b=>Adw o (a.A0 i n) (b.A0 i n)
 |.no a=>(match a.A0 i n with|.lit b=>.lit (!b) |a=>.no a)
def Aa.A0 (i:Nat) (n:Int) (a:Aa):Aa:=
 match a with
 |.bool b=>.bool (b.A0 i n)
 |.int k t=>.int k (t.A0 i n)
 |.lst f j es t=>.lst f j es (t.A0 i n)
 |a=>a
def Aa.sets (i:Nat) (s:List Nat) (a:Aa):Aa:=
 match a with
 |.svar j=>bif Nat.beq i j then .str s else .svar j
 |a=>a
def HE {α β:Type} (f:α→β):List α→List β
 |[]=>[]
 |a::r=>f a::HE f r
def Cx.A0 (cx:Cx) (i:Nat) (n:Int):Cx:=
 {cx with ins:={cx.ins with n:=HE (ST.A0 i n) cx.ins.n},fx:={cx.fx with elems:=HE (fun x=>(x.1,x.2.1.A0 i n,HE (Aa.A0 i n) x.2.2)) cx.fx.elems,Ad:=HE (fun x=>(x.1,x.2.A0 i n)) cx.fx.Ad}}
def Cx.sets (cx:Cx) (i:Nat) (s:List Nat):Cx:=
 {cx with ins:={cx.ins with s:=HE (Aa.sets i s) cx.ins.s},fx:={cx.fx with elems:=HE (fun x=>(x.1,x.2.1,HE (Aa.sets i s) x.2.2)) cx.fx.elems}}
def Un (op:BinOp) (a b:ST) (v:Bool) (l:List (ST×Int)):List (ST×Int):=
 match b with
 |.lit n=>bif v&&Of op .eql||!v&&Of op .neq then (a,n)::l else l
 |_=>l
def Cx.test (cx:Cx) (op:BinOp) (a b:ST) (v:Bool):Cx:=
 {cx with fx:={cx.fx with tests:=(op,a,b,v)::cx.fx.tests,DY:=Un op a b v cx.fx.DY}}
noncomputable def Eu (fx:Ao) (a:Aa):Bool:=
 match a with
 |.lst _ i _ t=>(match EU i fx.Ad with|some u=>u.eq t|none=>false)
 |_=>true
noncomputable def AR.Eu (fx:Ao) (p:AR):Bool:=
 match p with
 |.els es=>Cn (Cn (Go.AM.Eu fx)) es
 |_=>true
def Fo (c:Nat):List (Nat×Spec)→Option Spec
 |[]=>none
 |x::r=>bif Nat.beq x.1 c then some x.2 else Fo c r
def XT {α:Type}:List α→Nat→Option α
 |[],_=>none
 |a::_,0=>some a
 |_::r,i+1=>XT r i
def Cx.Aiu (cx:Cx) (f g:Nat) (o:C4) (y:Kf):Option Cx:=
 match y with
 |.call x=>some {cx with ks:=(g,x)::cx.ks,cnt:=cx.cnt.add o}
 |.loop k=>bif Nat.beq f g then some {cx with fx:={cx.fx with loops:=k::cx.fx.loops},cnt:=cx.cnt.add o}else none
def Cx.call (cx:Cx) (S:List (Nat×Spec)) (f c g:Nat) (τ:Db) (o:C4):Option Cx:=
 AF (Fo c S) fun d=>AF (XT d.alts g) fun A=>bif τ.cnt.eq d.ins&&o.eq A.outs then
  AF (A.w.sub (τ.app (Mb cx.cnt o))) fun y=>cx.Aiu f d.f o y else none
abbrev R6:=Ao→List (Nat×BC)→Kf→List Nat→Bool
noncomputable def Tree.ok (S:List (Nat×Spec)) (run:R6) (f:Nat) (alts:List Alt):Tree→Cx→Bool
 |.fail,_=>true
 |.leaf alt nw τ,cx=>Ds (AF (XT alts alt) fun A=>bif τ.cnt.eq A.outs then AF (A.w.sub (cx.ins.app τ)) fun y=>some (run cx.fx cx.ks y nw)else none)
 |.test op a b t e,cx=>t.ok S run f alts (cx.test op a b true)&&e.ok S run f alts (cx.test op a b false)
 |.A0 i n t e,cx=>t.ok S run f alts (cx.A0 i n)&&e.ok S run f alts (cx.test .eql (.var i) (.lit n) false)
 |.sets i s t e,cx=>t.ok S run f alts (cx.sets i s)&&e.ok S run f alts {cx with fx:={cx.fx with strs:=(.svar i,.str s,false)::cx.fx.strs}}
 |.elem l j sh k,cx=>k.ok S run f alts {cx with fx:={cx.fx with elems:=(l,j,NC sh cx.cnt)::cx.fx.elems,Ad:=MR sh cx.cnt++cx.fx.Ad},cnt:=cx.cnt.add (HU sh)}
 |.Ad l t k,cx=>k.ok S run f alts {cx with fx:={cx.fx with Ad:=(l,t)::cx.fx.Ad}}
 |.BA s lo hi k,cx=>k.ok S run f alts {cx with fx:={cx.fx with BA:=(s,.var cx.cnt.n,lo,hi)::cx.fx.BA},cnt:=cx.cnt.add {n:=1}}
 |.E5 x y t e,cx=>x.isStr&&(y.isStr&&(t.ok S run f alts {cx with fx:={cx.fx with strs:=(x,y,true)::cx.fx.strs}}&&e.ok S run f alts {cx with fx:={cx.fx with strs:=(x,y,false)::cx.fx.strs}}))
 |.cat x y k,cx=>x.isStr&&(y.isStr&&k.ok S run f alts {cx with fx:={cx.fx with EO:=(x,y,.svar cx.cnt.s)::cx.fx.EO},cnt:=cx.cnt.add {s:=1}})
 |.Az ps _ k,cx=>Cn (AR.Cr cx.cnt) ps&&(Cn (AR.Eu cx.fx) ps&&k.ok S run f alts {cx with fx:={cx.fx with defs:=(cx.cnt.l,ps)::cx.fx.defs,Ad:=(cx.cnt.l,.var cx.cnt.n)::cx.fx.Ad},cnt:=cx.cnt.add {n:=1,l:=1}})
 |.look m key sh t e,cx=>key.isStr&&(t.ok S run f alts {cx with fx:={cx.fx with looks:=(m,key,some (NC sh cx.cnt))::cx.fx.looks,Ad:=MR sh cx.cnt++cx.fx.Ad},cnt:=cx.cnt.add (HU sh)}&&e.ok S run f alts {cx with fx:={cx.fx with looks:=(m,key,none)::cx.fx.looks}})
 |.up m key cs _ k,cx=>key.isStr&&(Cn (Aa.Cr cx.cnt) cs&&(Cn (Eu cx.fx) cs&&k.ok S run f alts {cx with fx:={cx.fx with LI:=(m,key,cs,cx.cnt.m)::cx.fx.LI},cnt:=cx.cnt.add {m:=1}}))
 |.LM es _ k,cx=>Cn (fun x:Aa×List Aa=>x.1.isStr&&(Cn (Aa.Cr cx.cnt) x.2&&Cn (Eu cx.fx) x.2)) es&&k.ok S run f alts {cx with fx:={cx.fx with CM:=(cx.cnt.m,es)::cx.fx.CM},cnt:=cx.cnt.add {m:=1}}
 |.bump t n k,cx=>k.ok S run f alts {cx with fx:={cx.fx with CO:=(t,n,.var cx.cnt.n)::cx.fx.CO},cnt:=cx.cnt.add {n:=1}}
 |.BJ z k,cx=>k.ok S run f alts {cx with fx:={cx.fx with BJ:=cx.fx.BJ++[z]}}
 |.call c alt τ o k e,cx=>Ds (AF (cx.call S f c alt τ o) fun d=>some (k.ok S run f alts d))&&e.ok S run f alts cx
def NS (P:Program) (T:Nat→Option Obj) (f:Nat) (run:R6):Prop:=
 ∀Γ ks w c (ρ:Env),ρ.AY=T→Γ.AL ρ→(∀x∈ks,Go.AM.Holds P ρ x.1 x.2)→(∀k∈Γ.loops,C0 P ρ f k)→run Γ ks w c=true→w.Holds P ρ f
def Good (P:Program) (T:Nat→Option Obj) (S:List (Nat×Spec)) (M:Vw):Prop:=
 ∀c d,Fo c S=some d→∀v a w,M c v=some (a,w)→v.cnt=d.ins→∃A,d.alts[a]?=some A∧w.cnt=A.outs∧A.w.Holds P ((v.app w).env T) d.f
theorem Q4 {α:Type}:∀(l:List α) (i:Nat),XT l i=l[i]?
 |[],_=>by simp [XT]
 |a::r,0=>rfl
 |a::r,i+1=>by rw [XT,Q4 r i];simp
section
variable {T:Nat→Option Obj} {vf:Ah}
theorem E6 (a:Aa):Eo (vf.env T) a=Eo vf.e a:=by cases a<;>rfl
theorem YW (a:Aa):Bz (vf.env T) a=Bz vf.e a:=by unfold Bz;rw [E6]
theorem Gs {ρ:Env} {a:Aa} (h:a.isStr=true):Eo ρ a=some (Bz ρ a):=by
 cases a<;>simp only [Aa.isStr,Bool.false_eq_true]at h<;>rfl
theorem At.val {c:C4} {w:Ah} (h:At vf c w) (i:Nat) (d:i<w.n.length):vf.n.getD (c.n+i) 0=w.n.getD i 0:=by
 obtain ⟨v,r,rfl,rfl⟩:=h
 simp only [Ah.app,Ah.cnt,List.getD_eq_getElem?_getD,List.append_assoc]
 rw [List.getElem?_append_right (by omega),List.getElem?_append_left (by omega)]
 congr 2;omega
theorem At.str {c:C4} {w:Ah} (h:At vf c w) (i:Nat) (d:i<w.s.length):vf.s.getD (c.s+i) []=w.s.getD i []:=by
 obtain ⟨v,r,rfl,rfl⟩:=h
 simp only [Ah.app,Ah.cnt,List.getD_eq_getElem?_getD,List.append_assoc]
 rw [List.getElem?_append_right (by omega),List.getElem?_append_left (by omega)]
 congr 2;omega
theorem At.lst {c:C4} {w:Ah} (h:At vf c w) (i:Nat) (d:i<w.l.length):vf.l.getD (c.l+i) []=w.l.getD i []:=by
 obtain ⟨v,r,rfl,rfl⟩:=h
 simp only [Ah.app,Ah.cnt,List.getD_eq_getElem?_getD,List.append_assoc]
 rw [List.getElem?_append_right (by omega),List.getElem?_append_left (by omega)]
 congr 2;omega
theorem At.map {c:C4} {w:Ah} (h:At vf c w) (i:Nat) (d:i<w.m.length):vf.m.getD (c.m+i) []=w.m.getD i []:=by
 obtain ⟨v,r,rfl,rfl⟩:=h
 simp only [Ah.app,Ah.cnt,List.getD_eq_getElem?_getD,List.append_assoc]
 rw [List.getElem?_append_right (by omega),List.getElem?_append_left (by omega)]
 congr 2;omega
theorem At.left {c:C4} {a b:Ah} (h:At vf c (a.app b)):At vf c a:=by
 obtain ⟨v,r,hc,rfl⟩:=h
 exact ⟨v,b.app r,hc,by simp only [Ah.Bw]⟩
theorem At.right {c:C4} {a b:Ah} (h:At vf c (a.app b)):At vf (c.add a.cnt) b:=by
 obtain ⟨v,r,rfl,rfl⟩:=h
 exact ⟨v.app a,r,by rw [Ah.Cw],by simp only [Ah.Bw]⟩
theorem AfM (b:Bool):EG .neq (b01 b) 0=b:=by cases b<;>rfl
theorem CK.ZY {k:CK} {p:PV} {w:Ah} {c:C4} (h:k.read p=some w) (d:At vf c w):LR (vf.env T) (k.val c) p∧(∀g,k=.list g→vf.n.getD c.n 0=((vf.l.getD c.l []).length:Int)):=by
 cases k<;>cases p<;>simp only [CK.read,reduceCtorEq,oI]at h
 case int.int k k' n=>
  obtain ⟨j,h⟩:=Ap h
  simp only [oI]at h
  subst h
  rw [Dq.1 j]
  have hv:vf.n.getD c.n 0=n:=d.val 0 (by simp)
  refine ⟨?_,fun _ e=>by cases e⟩
  show PV.int k' n=.int k' (vf.n.getD c.n 0)
  rw [hv]
 case bool.bool b=>
  subst h
  have hv:vf.n.getD c.n 0=b01 b:=d.val 0 (by simp)
  refine ⟨?_,fun _ e=>by cases e⟩
  show PV.bool b=.bool (EG .neq (vf.n.getD c.n 0) 0)
  rw [hv,AfM]
 case str.str s=>
  subst h
  have hv:vf.s.getD c.s []=s:=d.str 0 (by simp)
  refine ⟨?_,fun _ e=>by cases e⟩
  show PV.str s=.str (vf.s.getD c.s [])
  rw [hv]
 case list.list g es' l=>
  obtain ⟨j,h⟩:=Ap h
  simp only [oI]at h
  subst h
  have e:=An.1 j
  subst e
  have hv:vf.n.getD c.n 0=(l.length:Int):=d.val 0 (by simp)
  have hl:vf.l.getD c.l []=l:=d.lst 0 (by simp)
  refine ⟨⟨rfl,?_,?_⟩,fun _ _=>?_⟩
  ·show PV.list g l=.list g (vf.l.getD c.l [])
   rw [hl]
  ·show vf.n.getD c.n 0=((vf.l.getD c.l []).length:Int)
   rw [hl,hv]
  ·rw [hl,hv]
 case nilp.nilp=>exact ⟨rfl,fun _ e=>by cases e⟩
theorem Ku:∀{d:List CK} {ps:List PV} {w:Ah} {c:C4},CX d ps=some w→At vf c w→FK (vf.env T) (NC d c) ps∧∀x∈MR d c,x.2.den vf.e=((vf.l.getD x.1 []).length:Int)
 |[],[],w,c,h,hat=>⟨rfl,fun x hx=>by cases hx⟩
 |k::d,p::ps,w,c,h,hat=>by
  simp only [CX]at h
  split at h
  ·rename_i a ha
   split at h
   ·rename_i b hb
    simp only [oI]at h
    subst h
    obtain ⟨q,o⟩:=CK.ZY (T:=T) ha hat.left
    have j:=hat.right
    rw [CK.Sn ha]at j
    obtain ⟨u,g⟩:=Ku hb j
    refine ⟨⟨p,ps,rfl,q,u⟩,fun x hx=>?_⟩
    simp only [MR]at hx
    split at hx
    ·rename_i v
     rcases List.mem_cons.1 hx with rfl|hx
     ·exact o v rfl
     ·exact g x hx
    ·exact g x hx
   ·cases h
  ·cases h
 |[],_::_,w,c,h,_=>by simp [CX]at h
 |_::_,[],w,c,h,_=>by simp [CX]at h
theorem Yr {fx:Ao} (g:fx.AL (vf.env T)) {k:CK} {a:Aa} {p:PV} {c:C4} (hb:a.Cr c=true) (hl:Eu fx a=true) (h:GZ vf.e k a=some p):Vy (vf.env T) a p:=by
 cases k<;>cases a<;>simp only [Aa.Cr,Bool.false_eq_true]at hb<;>simp only [GZ,reduceCtorEq,oI]at h
 case int.int=>
  obtain ⟨d,h⟩:=Ap h
  simp only [oI]at h
  rw [Dq.1 d]at h
  exact h.symm
 case bool.bool=>exact h.symm
 case str.str=>exact h.symm
 case str.svar=>exact h.symm
 case list.nilSlice es=>exact ⟨es,h.symm⟩
 case list.lst es f i es' n=>
  obtain ⟨d,h⟩:=Ap h
  simp only [oI]at h
  rw [An.1 d]at h
  simp only [aT,Bool.not_eq_true']at hb
  simp only [Eu]at hl
  split at hl
  ·rename_i u j
   refine ⟨hb.1,h.symm,?_⟩
   rw [←ST.Bk hl]
   exact g.Ad _ (CE j)
  ·cases hl
 case nilp.nilPtr=>exact h.symm
theorem GM {fx:Ao} (d:fx.AL (vf.env T)) {c:C4}:∀{g:List CK} {as:List Aa} {ps:List PV},Cn (Aa.Cr c) as=true→Cn (Eu fx) as=true→CB vf.e g as=some ps→CP (vf.env T) as ps
 |[],[],ps,_,_,h=>by simp only [CB,oI]at h;subst h;rfl
 |k::g,a::as,ps,hb,hl,h=>by
  simp only [Cn,aT]at hb hl
  simp only [CB]at h
  split at h
  ·rename_i p j
   split at h
   ·rename_i q o
    simp only [oI]at h
    subst h
    exact ⟨p,q,rfl,Yr d hb.1 hl.1 j,GM d hb.2 hl.2 o⟩
   ·cases h
  ·cases h
 |[],_::_,_,_,_,h=>by simp [CB]at h
 |_::_,[],_,_,_,h=>by simp [CB]at h
theorem OS {fx:Ao} (d:fx.AL (vf.env T)) {c:C4} {j:List CK}:∀{as:List (List Aa)} {ps:List (List PV)},Cn (Cn (Aa.Cr c)) as=true→Cn (Cn (Eu fx)) as=true→GX vf.e j as=some ps→Eg (vf.env T) as ps
 |[],ps,_,_,h=>by simp only [GX,oI]at h;subst h;rfl
 |a::as,ps,hb,hl,h=>by
  simp only [Cn,aT]at hb hl
  simp only [GX]at h
  split at h
  ·rename_i p g
   split at h
   ·rename_i q k
    simp only [oI]at h
    subst h
    exact ⟨p,q,rfl,GM d hb.1 hl.1 g,OS d hb.2 hl.2 k⟩
   ·cases h
  ·cases h
theorem XO {fx:Ao} (d:fx.AL (vf.env T)) {c:C4} {g:List CK} {p:AR} {l:List (List PV)} (hb:p.Cr c=true) (hl:p.Eu fx=true) (h:Dy vf.e g p=some l):FI (vf.env T) p l:=by
 cases p<;>simp only [AR.Cr]at hb<;>simp only [AR.Eu]at hl<;>simp only [Dy,oI]at h
 case els es=>exact OS d hb hl h
 case all i=>exact h.symm
 case take i n=>
  split at h
  ·rename_i hc
   simp only [oI]at h
   exact ⟨hc.1,hc.2,h.symm⟩
  ·cases h
 case drop i n=>
  split at h
  ·rename_i hc
   simp only [oI]at h
   exact ⟨hc.1,hc.2,h.symm⟩
  ·cases h
theorem MC {fx:Ao} (d:fx.AL (vf.env T)) {c:C4} {j:List CK}:∀{ps:List AR} {l:List (List PV)},Cn (AR.Cr c) ps=true→Cn (AR.Eu fx) ps=true→CF vf.e j ps=some l→B8 (vf.env T) ps l
 |[],l,_,_,h=>by simp only [CF,oI]at h;subst h;rfl
 |p::ps,l,hb,hl,h=>by
  simp only [Cn,aT]at hb hl
  simp only [CF]at h
  split at h
  ·rename_i a ha
   split at h
   ·rename_i b g
    simp only [oI]at h
    subst h
    exact ⟨a,b,rfl,XO d hb.1 hl.1 ha,MC d hb.2 hl.2 g⟩
   ·cases h
  ·cases h
theorem JX {fx:Ao} (g:fx.AL (vf.env T)) {c:C4} {k:List CK}:∀{d:List (Aa×List Aa)} {l:List (List Nat×List PV)},Cn (fun x:Aa×List Aa=>x.1.isStr&&(Cn (Aa.Cr c) x.2&&Cn (Eu fx) x.2)) d=true→CN vf.e k d=some l→Ab1 (vf.env T) d l
 |[],l,_,h=>by simp only [CN,oI]at h;subst h;rfl
 |x::d,l,hb,h=>by
  simp only [Cn,aT]at hb
  simp only [CN]at h
  split at h
  ·rename_i p j
   split at h
   ·rename_i q o
    simp only [oI]at h
    subst h
    refine ⟨Bz vf.e x.1,p,q,rfl,?_,GM g hb.1.2.1 hb.1.2.2 j,JX g hb.2 o⟩
    rw [E6];exact Gs hb.1.1
   ·cases h
  ·cases h
theorem Jk (op:BinOp) (x y:Int):EG op x y=decide (Mg op x y):=by
 cases op
 case neq=>by_cases h:x=y<;>simp [EG,Mg,bne,h]
 all_goals rfl
theorem Im {α β:Type} (f:α→β):∀l:List α,HE f l=l.map f
 |[]=>rfl
 |a::r=>by simp [HE,Im f r]
theorem ST.Cq {i:Nat} {n:Int} (h:vf.n.getD i 0=n):∀t:ST,(t.A0 i n).den vf.e=t.den vf.e
 |.lit _=>rfl
 |.var j=>by
  simp only [ST.A0]
  rw [AP]
  split
  ·rename_i e;subst e;exact h.symm
  ·rfl
 |.bin o k a b=>by simp only [ST.A0,ST.den,ST.Cq h a,ST.Cq h b]
 |.conv k a=>by simp only [ST.A0,ST.den,ST.Cq h a]
theorem SB.Cq {i:Nat} {n:Int} (h:vf.n.getD i 0=n):∀t:SB,(t.A0 i n).den vf.e=t.den vf.e
 |.lit _=>rfl
 |.cmp o a b=>by
  simp only [SB.A0]
  rw [Tj]
  simp only [SB.den,ST.Cq h]
 |.no a=>by
  have ih:=SB.Cq h a
  simp only [SB.A0]
  split
  ·rename_i b hb
   rw [hb]at ih
   simp only [SB.den]at ih⊢
   rw [ih]
  ·simp only [SB.den,ih]
theorem Aa.Cq {i:Nat} {n:Int} (h:vf.n.getD i 0=n) {a:Aa} {p:PV} (ha:LR (vf.env T) a p):LR (vf.env T) (a.A0 i n) p:=by
 cases a<;>simp only [Aa.A0]<;>first|exact ha|skip
 case bool b=>
  have ha:p=.bool (b.den vf.e):=ha
  show p=.bool ((b.A0 i n).den vf.e)
  rw [SB.Cq h,ha]
 case int k t=>
  have ha:p=.int k (t.den vf.e):=ha
  show p=.int k ((t.A0 i n).den vf.e)
  rw [ST.Cq h,ha]
 case lst f j es t=>
  obtain ⟨d,c,g⟩:=ha
  refine ⟨d,c,?_⟩
  show (t.A0 i n).den vf.e=_
  rw [ST.Cq h];exact g
theorem Aa.ZH {i:Nat} {s:List Nat} (h:vf.s.getD i []=s) {a:Aa} {p:PV} (ha:LR (vf.env T) a p):LR (vf.env T) (a.sets i s) p:=by
 cases a<;>simp only [Aa.sets]<;>first|exact ha|skip
 rw [AP]
 split
 ·rename_i e
  subst e
  have ha:p=.str (vf.s.getD i []):=ha
  show p=.str s
  rw [ha,h]
 ·exact ha
theorem FK.HE {f:Aa→Aa} (hf:∀{a p},LR (vf.env T) a p→LR (vf.env T) (f a) p):∀{as:List Aa} {ps:List PV},FK (vf.env T) as ps→FK (vf.env T) (HE f as) ps
 |[],ps,h=>h
 |a::as,ps,h=>by
  obtain ⟨p,rest,rfl,d,c⟩:=h
  exact ⟨p,rest,rfl,hf d,FK.HE hf c⟩
theorem Cx.XF {cx:Cx} {i:Nat} {n:Int} (h:vf.n.getD i 0=n) (c:cx.fx.AL (vf.env T)):(cx.A0 i n).fx.AL (vf.env T):=by
 refine ⟨c.DY,c.tests,c.strs,c.EO,c.BA,fun x hx=>?_,fun x hx=>?_,c.defs,c.looks,c.LI,c.CO,c.CM⟩
 ·rw [show (cx.A0 i n).fx.Ad=_ from Im _ _]at hx
  obtain ⟨y,d,rfl⟩:=List.mem_map.1 hx
  show (y.2.A0 i n).den vf.e=_
  rw [ST.Cq h]
  exact c.Ad y d
 ·rw [show (cx.A0 i n).fx.elems=_ from Im _ _]at hx
  obtain ⟨y,d,rfl⟩:=List.mem_map.1 hx
  obtain ⟨ps,j,g,k⟩:=c.elems y d
  refine ⟨ps,?_,?_,FK.HE (Aa.Cq h) k⟩
  ·show 0≤(y.2.1.A0 i n).den vf.e
   rw [ST.Cq h];exact j
  ·show _[((y.2.1.A0 i n).den vf.e).toNat]?=_
   rw [ST.Cq h];exact g
theorem Cx.XD {cx:Cx} {i:Nat} {s:List Nat} (h:vf.s.getD i []=s) (c:cx.fx.AL (vf.env T)):(cx.sets i s).fx.AL (vf.env T):=by
 refine ⟨c.DY,c.tests,c.strs,c.EO,c.BA,c.Ad,fun x hx=>?_,c.defs,c.looks,c.LI,c.CO,c.CM⟩
 rw [show (cx.sets i s).fx.elems=_ from Im _ _]at hx
 obtain ⟨y,k,rfl⟩:=List.mem_map.1 hx
 obtain ⟨ps,g,d,j⟩:=c.elems y k
 exact ⟨ps,g,d,FK.HE (Aa.ZH h) j⟩
theorem Db.XE {τ:Db} {i:Nat} {n:Int} (h:vf.n.getD i 0=n):Db.vals {τ with n:=HE (ST.A0 i n) τ.n} vf.e=τ.vals vf.e:=by
 apply Ah.ext'<;>simp only [Db.vals]
 rw [Im,List.map_map]
 exact De fun t _=>ST.Cq h t
theorem Db.XC {τ:Db} {i:Nat} {s:List Nat} (h:vf.s.getD i []=s):Db.vals {τ with s:=HE (Aa.sets i s) τ.s} vf.e=τ.vals vf.e:=by
 apply Ah.ext'<;>simp only [Db.vals]
 rw [Im,List.map_map]
 refine De fun a _=>?_
 show Bz vf.e (a.sets i s)=Bz vf.e a
 cases a<;>simp only [Aa.sets]
 rename_i j
 rw [AP]
 split
 ·rename_i e;subst e;exact h.symm
 ·rfl
theorem Cx.Kl {cx:Cx} {op:BinOp} {a b:ST} {v:Bool} (h:EG op (a.den vf.e) (b.den vf.e)=v) (c:cx.fx.AL (vf.env T)):(cx.test op a b v).fx.AL (vf.env T):=by
 refine ⟨fun x hx=>?_,B3 h c.tests,c.strs,c.EO,c.BA,c.Ad,c.elems,c.defs,c.looks,c.LI,c.CO,c.CM⟩
 have hx:x∈Un op a b v cx.fx.DY:=hx
 unfold Un at hx
 cases b with
 |lit n=>
  simp only at hx
  cases e:(v&&Of op .eql||!v&&Of op .neq)with
  |false=>rw [e]at hx;exact c.DY x hx
  |true=>
   rw [e]at hx
   rcases List.mem_cons.1 hx with rfl|hx
   ·show a.den vf.e=n
    simp only [Bool.or_eq_true,aT,Bool.not_eq_true']at e
    rcases e with ⟨rfl,e⟩|⟨rfl,e⟩
    ·rw [HC.1 e]at h;simpa [EG,ST.den]using h
    ·rw [HC.1 e]at h;simpa [EG,ST.den]using h
   ·exact c.DY x hx
 |_=>exact c.DY x hx
theorem Gh {α β γ:Type} (f:Nat→α) (g:α→β) (l:List β) (d:β):∀(w:List β) (i:Nat),(∀j,j<w.length→g (f (i+j))=w.getD j d)→(Nf f w.length i).map g=w
 |[],i,_=>rfl
 |x::w,i,h=>by
  simp only [lC,Nf,List.map_cons]
  rw [show g (f i)=x by simpa using h 0 (by simp),Gh (γ:=γ) f g l d w (i+1) fun j c=>by
   have:=h (j+1) (by simp;omega)
   rw [show i+(j+1)=i+1+j by omega]at this
   simpa using this]
theorem Ma {c:C4} {w:Ah} (h:At vf c w):(Mb c w.cnt).vals vf.e=w:=by
 apply Ah.ext'<;>simp only [Db.vals,Mb,Ah.cnt]
 ·exact Gh (γ:=Unit) _ _ w.n 0 w.n c.n fun j d=>h.val j d
 ·exact Gh (γ:=Unit) _ _ w.s [] w.s c.s fun j d=>h.str j d
 ·exact Gh (γ:=Unit) _ _ w.l [] w.l c.l fun j d=>h.lst j d
 ·exact Gh (γ:=Unit) _ _ w.m [] w.m c.m fun j d=>h.map j d
theorem Db.Tu (a b:Db) (ρ:Env):(a.app b).vals ρ=(a.vals ρ).app (b.vals ρ):=by
 apply Ah.ext'<;>simp [Db.app,Db.vals,Ah.app]
theorem Db.RE (τ:Db) (ρ:Env):(τ.vals ρ).cnt=τ.cnt:=by simp [Db.vals,Ah.cnt,Db.cnt]
theorem We (τ:Db):(vf.env T).sub τ=(τ.vals vf.e).env T:=by
 show Env.of T _ _ _ _=Env.of T _ _ _ _
 simp only [Db.vals]
 rw [De (l:=τ.s) (f:=Bz (vf.env T)) fun a _=>YW a]
 rfl
end
section
variable {P:Program} {T:Nat→Option Obj} {S:List (Nat×Spec)} {run:R6} {f:Nat} {alts:List Alt} {M:Vw} {vf:Ah}
structure Cx.AL (P:Program) (T:Nat→Option Obj) (f:Nat) (vf ins:Ah) (cx:Cx):Prop where
 fx:cx.fx.AL (vf.env T)
 ks:∀x∈cx.ks,Go.AM.Holds P (vf.env T) x.1 x.2
 ls:∀k∈cx.fx.loops,C0 P (vf.env T) f k
 ins:cx.ins.vals vf.e=ins
theorem Cx.Yt {ins:Ah} (Z:Good P T S M) {cx j:Cx} (H:cx.AL P T f vf ins) {c k:Nat} {τ:Db} {o:C4} (hc:cx.call S f c k τ o=some j) {w:Ah} (U:M c (τ.vals vf.e)=some (k,w)) (q:At vf cx.cnt (w.fit o)):j.AL P T f vf ins∧j.cnt=cx.cnt.add o:=by
 unfold Cx.call at hc
 obtain ⟨D,z,q1⟩:=Ac hc
 obtain ⟨A,x,q2⟩:=Ac q1
 obtain ⟨v,O⟩:=Ap q2
 obtain ⟨y,R,d⟩:=Ac O
 rw [aT]at v
 have X:=C4.eq_iff.1 v.1
 have C:=C4.eq_iff.1 v.2
 obtain ⟨A',N,g,Q⟩:=Z c D z _ _ _ U (by rw [Db.RE];exact X)
 rw [Q4,N]at x
 simp only [oI]at x
 subst x
 rw [C,Ah.Nh g]at q
 have hv:(vf.env T).sub (τ.app (Mb cx.cnt o))=((τ.vals vf.e).app w).env T:=by
  rw [We,Db.Tu,C,←g,Ma q]
 have u:y.Holds P (vf.env T) D.f:=Kf.Afn R (by rw [hv];exact Q)
 unfold Cx.Aiu at d
 split at d
 ·simp only [oI]at d
  subst d
  exact ⟨⟨H.fx,B3 u H.ks,H.ls,H.ins⟩,rfl⟩
 ·obtain ⟨hf,J⟩:=Ap d
  simp only [oI]at J
  subst J
  have hf:=An.1 hf
  subst hf
  exact ⟨⟨⟨H.fx.DY,H.fx.tests,H.fx.strs,H.fx.EO,H.fx.BA,H.fx.Ad,H.fx.elems,H.fx.defs,H.fx.looks,H.fx.LI,H.fx.CO,H.fx.CM⟩,H.ks,B3 u H.ls,H.ins⟩,rfl⟩
theorem B5 {ins:Ah} (q:NS P T f run) (C:Good P T S M):∀(t:Tree) {cx:Cx} {o:Out},t.ok S run f alts cx=true→t.sem M vf cx.cnt o→cx.AL P T f vf ins→∃A,alts[o.1]?=some A∧o.2.cnt=A.outs∧A.w.Holds P ((ins.app o.2).env T) f
 |.fail,cx,o,_,hs,_=>hs.elim
 |.leaf alt nw τ,cx,o,g,hs,H=>by
  simp only [Tree.ok]at g
  obtain ⟨A,hA,g⟩:=Ac (FC.1 g)
  obtain ⟨he,g⟩:=Ap g
  obtain ⟨y,N,g⟩:=Ac g
  simp only [oI]at g
  simp only [Tree.sem]at hs
  subst hs
  rw [Q4]at hA
  refine ⟨A,hA,by rw [Db.RE];exact C4.eq_iff.1 he,?_⟩
  have Q:=q cx.fx cx.ks y nw (vf.env T) rfl H.fx H.ks H.ls g
  have R:=Kf.Aep N Q
  rw [We,Db.Tu,H.ins]at R
  exact R
 |.test op a b t e,cx,o,g,hs,H=>by
  simp only [Tree.ok,aT]at g
  rcases hs with ⟨hc,hs⟩|⟨hc,hs⟩
  ·exact B5 q C t (cx:=cx.test op a b true) g.1 hs ⟨Cx.Kl (by rw [Jk];exact decide_eq_true hc) H.fx,H.ks,H.ls,H.ins⟩
  ·exact B5 q C e (cx:=cx.test op a b false) g.2 hs ⟨Cx.Kl (by rw [Jk];exact decide_eq_false hc) H.fx,H.ks,H.ls,H.ins⟩
 |.A0 i n t e,cx,o,g,hs,H=>by
  simp only [Tree.ok,aT]at g
  rcases hs with ⟨hc,hs⟩|⟨hc,hs⟩
  ·exact B5 q C t (cx:=cx.A0 i n) g.1 hs ⟨Cx.XF hc H.fx,H.ks,H.ls,by rw [←H.ins];exact Db.XE hc⟩
  ·refine B5 q C e (cx:=cx.test .eql (.var i) (.lit n) false) g.2 hs ⟨Cx.Kl ?_ H.fx,H.ks,H.ls,H.ins⟩
   rw [Jk];exact decide_eq_false hc
 |.sets i s t e,cx,o,g,hs,H=>by
  simp only [Tree.ok,aT]at g
  rcases hs with ⟨hc,hs⟩|⟨hc,hs⟩
  ·exact B5 q C t (cx:=cx.sets i s) g.1 hs ⟨Cx.XD hc H.fx,H.ks,H.ls,by rw [←H.ins];exact Db.XC hc⟩
  ·refine B5 q C e (cx:={cx with fx:={cx.fx with strs:=(.svar i,.str s,false)::cx.fx.strs}}) g.2 hs ⟨⟨H.fx.DY,H.fx.tests,B3 ⟨vf.s.getD i [],s,rfl,rfl,(decide_eq_false hc).symm⟩ H.fx.strs,H.fx.EO,H.fx.BA,H.fx.Ad,H.fx.elems,H.fx.defs,H.fx.looks,H.fx.LI,H.fx.CO,H.fx.CM⟩,H.ks,H.ls,H.ins⟩
 |.elem l j sh k,cx,o,g,hs,H=>by
  simp only [Tree.ok]at g
  obtain ⟨hj,ps,w,D,O,v,hs⟩:=hs
  obtain ⟨Z,d2⟩:=Ku (T:=T) O v
  refine B5 q C k g hs ⟨⟨H.fx.DY,H.fx.tests,H.fx.strs,H.fx.EO,H.fx.BA,fun x hx=>?_,B3 ⟨ps,hj,D,Z⟩ H.fx.elems,H.fx.defs,H.fx.looks,H.fx.LI,H.fx.CO,H.fx.CM⟩,H.ks,H.ls,H.ins⟩
  rcases List.mem_append.1 hx with hx|hx
  ·exact d2 x hx
  ·exact H.fx.Ad x hx
 |.Ad l t k,cx,o,g,hs,H=>by
  simp only [Tree.ok]at g
  exact B5 q C k g hs.2 ⟨⟨H.fx.DY,H.fx.tests,H.fx.strs,H.fx.EO,H.fx.BA,B3 hs.1 H.fx.Ad,H.fx.elems,H.fx.defs,H.fx.looks,H.fx.LI,H.fx.CO,H.fx.CM⟩,H.ks,H.ls,H.ins⟩
 |.BA s lo hi k,cx,o,g,hs,H=>by
  simp only [Tree.ok]at g
  obtain ⟨Q,R,v,hs⟩:=hs
  exact B5 q C k g hs ⟨⟨H.fx.DY,H.fx.tests,H.fx.strs,H.fx.EO,B3 ⟨v.val 0 (by simp),Q,R⟩ H.fx.BA,H.fx.Ad,H.fx.elems,H.fx.defs,H.fx.looks,H.fx.LI,H.fx.CO,H.fx.CM⟩,H.ks,H.ls,H.ins⟩
 |.E5 x y t e,cx,o,g,hs,H=>by
  simp only [Tree.ok,aT]at g
  have hx:Eo (vf.env T) x=some (Bz vf.e x):=by rw [E6];exact Gs g.1
  have N:Eo (vf.env T) y=some (Bz vf.e y):=by rw [E6];exact Gs g.2.1
  rcases hs with ⟨hc,hs⟩|⟨hc,hs⟩
  ·exact B5 q C t (cx:={cx with fx:={cx.fx with strs:=(x,y,true)::cx.fx.strs}}) g.2.2.1 hs ⟨⟨H.fx.DY,H.fx.tests,B3 ⟨_,_,hx,N,(decide_eq_true hc).symm⟩ H.fx.strs,H.fx.EO,H.fx.BA,H.fx.Ad,H.fx.elems,H.fx.defs,H.fx.looks,H.fx.LI,H.fx.CO,H.fx.CM⟩,H.ks,H.ls,H.ins⟩
  ·exact B5 q C e (cx:={cx with fx:={cx.fx with strs:=(x,y,false)::cx.fx.strs}}) g.2.2.2 hs ⟨⟨H.fx.DY,H.fx.tests,B3 ⟨_,_,hx,N,(decide_eq_false hc).symm⟩ H.fx.strs,H.fx.EO,H.fx.BA,H.fx.Ad,H.fx.elems,H.fx.defs,H.fx.looks,H.fx.LI,H.fx.CO,H.fx.CM⟩,H.ks,H.ls,H.ins⟩
 |.cat x y k,cx,o,g,hs,H=>by
  simp only [Tree.ok,aT]at g
  obtain ⟨hl,v,hs⟩:=hs
  have hx:Eo (vf.env T) x=some (Bz vf.e x):=by rw [E6];exact Gs g.1
  have N:Eo (vf.env T) y=some (Bz vf.e y):=by rw [E6];exact Gs g.2.1
  exact B5 q C k g.2.2 hs ⟨⟨H.fx.DY,H.fx.tests,H.fx.strs,B3 ⟨_,_,hx,N,congrArg some (v.str 0 (by simp)),hl⟩ H.fx.EO,H.fx.BA,H.fx.Ad,H.fx.elems,H.fx.defs,H.fx.looks,H.fx.LI,H.fx.CO,H.fx.CM⟩,H.ks,H.ls,H.ins⟩
 |.Az ps sh k,cx,o,g,hs,H=>by
  simp only [Tree.ok,aT]at g
  obtain ⟨l,hl,v,hs⟩:=hs
  have J:vf.l.getD cx.cnt.l []=l:=v.lst 0 (by simp)
  have e2:vf.n.getD cx.cnt.n 0=(l.length:Int):=v.val 0 (by simp)
  have d:=MC H.fx g.1 g.2.1 hl
  refine B5 q C k g.2.2 hs ⟨⟨H.fx.DY,H.fx.tests,H.fx.strs,H.fx.EO,H.fx.BA,B3 ?_ H.fx.Ad,H.fx.elems,B3 ?_ H.fx.defs,H.fx.looks,H.fx.LI,H.fx.CO,H.fx.CM⟩,H.ks,H.ls,H.ins⟩
  ·show vf.n.getD cx.cnt.n 0=((vf.l.getD cx.cnt.l []).length:Int)
   rw [J,e2]
  ·show B8 _ _ (vf.l.getD cx.cnt.l [])
   rw [J];exact d
 |.look m key sh t e,cx,o,g,hs,H=>by
  simp only [Tree.ok,aT]at g
  have hx:Eo (vf.env T) key=some (Bz vf.e key):=by rw [E6];exact Gs g.1
  rcases hs with ⟨ps,w,D,O,v,hs⟩|⟨hn,hs⟩
  ·obtain ⟨Z,d2⟩:=Ku (T:=T) O v
   refine B5 q C t (cx:={cx with fx:={cx.fx with looks:=(m,key,some (NC sh cx.cnt))::cx.fx.looks,Ad:=MR sh cx.cnt++cx.fx.Ad},cnt:=cx.cnt.add (HU sh)}) g.2.1 hs ⟨⟨H.fx.DY,H.fx.tests,H.fx.strs,H.fx.EO,H.fx.BA,fun x hx=>?_,H.fx.elems,H.fx.defs,B3 ⟨_,hx,ps,D,Z⟩ H.fx.looks,H.fx.LI,H.fx.CO,H.fx.CM⟩,H.ks,H.ls,H.ins⟩
   rcases List.mem_append.1 hx with hx|hx
   ·exact d2 x hx
   ·exact H.fx.Ad x hx
  ·exact B5 q C e (cx:={cx with fx:={cx.fx with looks:=(m,key,none)::cx.fx.looks}}) g.2.2 hs ⟨⟨H.fx.DY,H.fx.tests,H.fx.strs,H.fx.EO,H.fx.BA,H.fx.Ad,H.fx.elems,H.fx.defs,B3 ⟨_,hx,hn⟩ H.fx.looks,H.fx.LI,H.fx.CO,H.fx.CM⟩,H.ks,H.ls,H.ins⟩
 |.up m key cs sh k,cx,o,g,hs,H=>by
  simp only [Tree.ok,aT]at g
  obtain ⟨ps,D,v,hs⟩:=hs
  have hx:Eo (vf.env T) key=some (Bz vf.e key):=by rw [E6];exact Gs g.1
  have J:vf.m.getD cx.cnt.m []=Bn (vf.m.getD m []) (Bz vf.e key) ps:=v.map 0 (by simp)
  exact B5 q C k g.2.2.2 hs ⟨⟨H.fx.DY,H.fx.tests,H.fx.strs,H.fx.EO,H.fx.BA,H.fx.Ad,H.fx.elems,H.fx.defs,H.fx.looks,B3 ⟨_,ps,hx,GM H.fx g.2.1 g.2.2.1 D,J⟩ H.fx.LI,H.fx.CO,H.fx.CM⟩,H.ks,H.ls,H.ins⟩
 |.LM es sh k,cx,o,g,hs,H=>by
  simp only [Tree.ok,aT]at g
  obtain ⟨l,hl,v,hs⟩:=hs
  have J:vf.m.getD cx.cnt.m []=l:=v.map 0 (by simp)
  have d:=JX H.fx g.1 hl
  refine B5 q C k g.2 hs ⟨⟨H.fx.DY,H.fx.tests,H.fx.strs,H.fx.EO,H.fx.BA,H.fx.Ad,H.fx.elems,H.fx.defs,H.fx.looks,H.fx.LI,H.fx.CO,B3 ?_ H.fx.CM⟩,H.ks,H.ls,H.ins⟩
  show Ab1 _ _ (vf.m.getD cx.cnt.m [])
  rw [J];exact d
 |.bump t n k,cx,o,g,hs,H=>by
  simp only [Tree.ok]at g
  obtain ⟨Q,v,hs⟩:=hs
  have J:vf.n.getD cx.cnt.n 0=t.den vf.e+n:=v.val 0 (by simp)
  refine B5 q C k g hs ⟨⟨H.fx.DY,H.fx.tests,H.fx.strs,H.fx.EO,H.fx.BA,H.fx.Ad,H.fx.elems,H.fx.defs,H.fx.looks,H.fx.LI,B3 ?_ H.fx.CO,H.fx.CM⟩,H.ks,H.ls,H.ins⟩
  show t.den vf.e+n≤vf.n.getD cx.cnt.n 0∧vf.n.getD cx.cnt.n 0≤1048576
  rw [J];exact ⟨Int.le_refl _,Q⟩
 |.BJ z k,cx,o,g,hs,H=>by
  simp only [Tree.ok]at g
  exact B5 q C k g hs ⟨⟨H.fx.DY,H.fx.tests,H.fx.strs,H.fx.EO,H.fx.BA,H.fx.Ad,H.fx.elems,H.fx.defs,H.fx.looks,H.fx.LI,H.fx.CO,H.fx.CM⟩,H.ks,H.ls,H.ins⟩
 |.call c alt τ u k e,cx,o,g,hs,H=>by
  simp only [Tree.ok,aT]at g
  rcases hs with ⟨w,O,v,hs⟩|hs
  ·obtain ⟨ag,aa,U⟩:=Ac (FC.1 g.1)
   simp only [oI]at U
   obtain ⟨H',X⟩:=Cx.Yt C H aa O v
   exact B5 q C k U (by rw [X];exact hs) H'
  ·exact B5 q C e g.2 hs H
noncomputable def Spec.ok (S:List (Nat×Spec)) (run:R6) (c:Spec) (t:Tree):Bool:=
 t.Cr c.ins&&t.ok S run c.f c.alts ⟨c.ins,{},[],Mb {} c.ins⟩
theorem At.zero (v r:Ah):At (v.app r) {} v:=⟨{},r,rfl,by
 apply Ah.ext'<;>simp [Ah.app]⟩
theorem TD {d:Spec} {t:Tree} (g:NS P T d.f run) (k:Good P T S M) (c:d.ok S run t=true) {v w:Ah} {a:Nat} (h:t.eval M v=some (a,w)) (hv:v.cnt=d.ins):∃A,d.alts[a]?=some A∧w.cnt=A.outs∧A.w.Holds P ((v.app w).env T) d.f:=by
 unfold Spec.ok at c
 rw [aT]at c
 obtain ⟨r,j⟩:=B7 t (by rw [hv];exact c.1) h
 rw [hv]at j
 refine B5 (vf:=v.app r) (ins:=v) g k t c.2 j ⟨Ao.AL.none _,fun x hx=>(by cases hx),fun x hx=>(by cases hx),?_⟩
 have:=Ma (At.zero v r)
 rw [hv]at this
 exact this
def AbH (P:Program) (T:Nat→Option Obj) (S:List (Nat×Spec)) (trees:Nat→Tree):Prop:=
 ∀c g,Fo c S=some g→∃j run,(∀k d,Fo k j=some d→Fo k S=some d)∧NS P T g.f run∧g.ok j run (trees c)=true
theorem SK {trees:Nat→Tree} (h:AbH P T S trees):∀N,Good P T S (mir trees N)
 |0=>fun c o _ v a w g _=>by cases g
 |N+1=>fun c o k v a w g hv=>by
  have ih:=SK h N
  obtain ⟨z,run,y,j,x⟩:=h c o k
  exact TD j (fun u d q=>ih u d (y u d q)) x g hv
end
end Go.AM
end
section
namespace Go.AM
def Vd (P:Program) (pl:List C3) (i:Nat):Option EI:=
 match P.funcs[i]? with
 |some fn=>bif fn.name== "runtime.NumGoroutine" then none else EW P pl fn
 |none=>none
theorem Ti {P:Program} {pl:List C3} {i:Nat} {F:EI} (h:Vd P pl i=some F):∃fn,P.funcs[i]?=some fn∧EW P pl fn=some F∧(fn.name== "runtime.NumGoroutine")=false:=by
 unfold Vd at h
 split at h
 ·rename_i fn hf
  cases e:fn.name== "runtime.NumGoroutine" with
  |true=>rw [e]at h;cases h
  |false=>rw [e]at h;exact ⟨fn,hf,h,e⟩
 ·cases h
theorem all_cons {α:Type} {p:α→Prop} {x:α} {l:List α} (h:p x) (d:∀y∈l,p y):∀y∈x::l,p y:=fun y c=>by
 rcases List.mem_cons.1 c with rfl|c
 ·exact h
 ·exact d y c
theorem all_nil {α:Type} {p:α→Prop}:∀y∈([]:List α),p y:=fun y c=>by cases c
end Go.AM
end
section
namespace Go.AM
def Sp (g:Nat):List (Nat×BC)→List BC
 |[]=>[]
 |x::r=>bif Nat.beq x.1 g then x.2::Sp g r else Sp g r
noncomputable def XQ (ks:List (Nat×BC)):List (Nat×BC)→List (Nat×By)→List (Nat×By)
 |[],l=>l
 |x::r,l=>(x.1,JZ (Sp x.1 ks))::XQ ks r l
noncomputable def Es (DP:FuncId→Option EI) (fixed:Ao→List (Nat×By)) (fuel d j f:Nat):R6:=fun Γ ks w c=>
 match w with
 |.call x=>ZE Γ x c (Aeo Γ (fun g=>Ss g (XQ ks ks (fixed Γ))) DP fuel d f x.args (Bi x.pre (empty j Γ)))
 |.loop k=>match DP f with
  |some F=>Ub Γ k c (QB Γ (Lz Γ.bare (fun g=>Ss g (XQ ks ks (fixed Γ))) DP fuel d) fuel j F k)
  |none=>false
section
variable {P:Program} {pl:List C3} {T:Nat→Option Obj} {DP:FuncId→Option EI} {fixed:Ao→List (Nat×By)}
theorem Kw {g:Nat} {x:BC}:∀{l:List (Nat×BC)},x∈Sp g l→(g,x)∈l
 |[],h=>by cases h
 |y::r,h=>by
  simp only [Sp]at h
  cases hc:Nat.beq y.1 g with
  |true=>
   rw [hc]at h
   simp only [cond_true,List.mem_cons]at h
   have e:=An.1 hc
   rcases h with rfl|h
   ·rw [←e];exact List.mem_cons_self
   ·exact List.mem_cons_of_mem _ (Kw h)
  |false=>rw [hc]at h;exact List.mem_cons_of_mem _ (Kw h)
theorem MF {ρ:Env} {ks:List (Nat×BC)} (c:∀x∈ks,Go.AM.Holds P ρ x.1 x.2) {l:List (Nat×By)} (hl:∀x∈l,CC P ρ x.1 x.2):∀(r:List (Nat×BC)),∀x∈XQ ks r l,CC P ρ x.1 x.2
 |[],x,hx=>hl x hx
 |y::r,x,hx=>by
  simp only [XQ,List.mem_cons]at hx
  rcases hx with rfl|hx
  ·exact HS fun z d=>c _ (Kw d)
  ·exact MF c hl r x hx
theorem OZ (q:P.follows .mixedOrders=true) (z:PF P pl DP) (y:∀Γ (ρ:Env),ρ.AY=T→Γ.AL ρ→∀x∈fixed Γ,CC P ρ x.1 x.2) (fuel d J f:Nat):NS P T f (Es DP fixed fuel d J f):=by
 intro Γ ks w M ρ D u A j c
 have v:∀g o,Ss g (XQ ks ks (fixed Γ))=some o→CC P ρ g o:=fun g o C=>MF A (y Γ ρ D u) ks _ (OX C)
 cases w with
 |call x=>exact QM u (T5 u q z v d (Uw j)) c
 |loop k=>
  simp only [Es]at c
  split at c
  ·rename_i F H
   exact Ol u (HY u.bare rfl q z v d) q z H j c
  ·cases c
end
theorem Vi {r g:Option Out} (x:∀o,r=some o→g=some o) {c:Nat} {u:C4} {k d:Ah→Option Out} (v:∀w o,k w=some o→d w=some o) {e j:Option Out} (q:∀o,e=some o→j=some o) {o:Out} (h:LA r c u k e=some o):LA g c u d j=some o:=by
 unfold LA at h⊢
 cases hr':r with
 |none=>rw [hr']at h;cases h
 |some w=>
  rw [hr']at h
  rw [x w hr']
  simp only at h⊢
  split at h
  ·rename_i ha;rw [if_pos ha];exact v _ _ h
  ·rename_i ha;rw [if_neg ha];exact q _ h
theorem UW {l:List (List PV)} {j:Int} {c:List CK} {k d:Ah→Option Out} (q:∀w o,k w=some o→d w=some o) {o:Out} (h:N0 l j c k=some o):N0 l j c d=some o:=by
 unfold N0 at h⊢
 split at h
 ·rename_i g
  rw [if_pos g]
  cases hg:l[j.toNat]? with
  |none=>rw [hg]at h;cases h
  |some ps=>
   rw [hg]at h
   simp only at h⊢
   cases hr:CX c ps with
   |none=>rw [hr]at h;cases h
   |some w=>rw [hr]at h;exact q _ _ h
 ·cases h
theorem U0 {m:List (List Nat×List PV)} {s:List Nat} {c:List CK} {k d:Ah→Option Out} (q:∀w o,k w=some o→d w=some o) {e g:Option Out} (j:∀o,e=some o→g=some o) {o:Out} (h:IX m s c k e=some o):IX m s c d g=some o:=by
 unfold IX at h⊢
 cases hg:BO m s with
 |none=>rw [hg]at h;exact j _ h
 |some ps=>
  rw [hg]at h
  simp only at h⊢
  cases hr:CX c ps with
  |none=>rw [hr]at h;cases h
  |some w=>rw [hr]at h;exact q _ _ h
theorem IQ {α:Type} {r:Option α} {k c:α→Option Out} (d:∀w o,k w=some o→c w=some o) {o:Out} (h:H7 r k=some o):H7 r c=some o:=by
 unfold H7 at h⊢
 cases r with
 |none=>cases h
 |some a=>exact d _ _ h
theorem ED {c:Prop} [Decidable c] {a g b d:Option Out} (ha:∀o,a=some o→g=some o) (hb:∀o,b=some o→d=some o) {o:Out} (h:(if c then a else b)=some o):(if c then g else d)=some o:=by
 split at h
 ·rename_i hc;rw [if_pos hc];exact ha _ h
 ·rename_i hc;rw [if_neg hc];exact hb _ h
theorem Ba {M M':Vw} (d:∀c v o,M c v=some o→M' c v=some o):∀(t:Tree) (v:Ah) (o:Out),t.eval M v=some o→t.eval M' v=some o
 |.fail,_,_,h=>by cases h
 |.leaf _ _ _,_,_,h=>h
 |.test _ _ _ t e,v,_,h=>ED (Ba d t v) (Ba d e v) h
 |.A0 _ _ t e,v,_,h=>ED (Ba d t v) (Ba d e v) h
 |.sets _ _ t e,v,_,h=>ED (Ba d t v) (Ba d e v) h
 |.elem _ _ _ k,v,_,h=>UW (fun w=>Ba d k (v.app w)) h
 |.Ad _ _ k,v,_,h=>ED (Ba d k v) (fun _ h=>h) h
 |.BA s _ _ k,v,_,h=>ED (Ba d k (v.app {n:=[((v.s.getD s []).length:Int)]})) (fun _ h=>h) h
 |.E5 _ _ t e,v,_,h=>ED (Ba d t v) (Ba d e v) h
 |.cat x y k,v,_,h=>ED (Ba d k (v.app {s:=[Bz v.e x++Bz v.e y]})) (fun _ h=>h) h
 |.Az _ _ k,v,_,h=>IQ (fun l=>Ba d k (v.app {n:=[(l.length:Int)],l:=[l]})) h
 |.look _ _ _ t e,v,_,h=>U0 (fun w=>Ba d t (v.app w)) (Ba d e v) h
 |.up m key _ _ k,v,_,h=>IQ (fun ps=>Ba d k (v.app {m:=[Bn (v.m.getD m []) (Bz v.e key) ps]})) h
 |.LM _ _ k,v,_,h=>IQ (fun l=>Ba d k (v.app {m:=[l]})) h
 |.bump t n k,v,_,h=>ED (Ba d k (v.app {n:=[t.den v.e+n]})) (fun _ h=>h) h
 |.BJ _ k,v,_,h=>Ba d k v _ h
 |.call c _ τ _ k e,v,_,h=>Vi (d c (τ.vals v.e)) (fun w=>Ba d k (v.app w)) (Ba d e v) h
theorem Sz {trees:Nat→Tree}:∀(N c:Nat) (v:Ah) (o:Out),mir trees N c v=some o→mir trees (N+1) c v=some o
 |0,_,_,_,h=>by cases h
 |N+1,c,v,o,h=>Ba (Sz N) (trees c) v o h
theorem Q8 {trees:Nat→Tree} {N d:Nat} (h:N≤d) {c:Nat} {v:Ah} {o:Out} (g:mir trees N c v=some o):mir trees d c v=some o:=by
 induction h with
 |refl=>exact g
 |step _ ih=>exact Sz _ _ _ _ ih
def Ef (trees:Nat→Tree) (c:Nat) (v:Ah) (Q:Out→Prop):Prop:=∃N o,mir trees N c v=some o∧Q o
abbrev AfT:=Nat→Ah→(Out→Prop)→Prop
def Xg (l:List (List PV)) (j:Int) (c:List CK) (k:Ah→Prop):Prop:=
 0≤j∧match l[j.toNat]? with
  |some ps=>(match CX c ps with|some w=>k (w.fit (HU c)) |none=>False)
  |none=>False
def Pe (m:List (List Nat×List PV)) (s:List Nat) (c:List CK) (k:Ah→Prop) (e:Prop):Prop:=
 match BO m s with
 |some ps=>(match CX c ps with|some w=>k (w.fit (HU c)) |none=>False)
 |none=>e
def J4 {α:Type} (r:Option α) (k:α→Prop):Prop:=
 match r with
 |some a=>k a
 |none=>False
abbrev AiK (g:(Out→Prop)→Prop) (c:Nat) (u:C4) (k:Ah→Prop) (e:Prop):Prop:=g fun o=>if o.1=c then k (o.2.fit u)else e
def Tree.wp (G:AfT) (Q:Out→Prop):Tree→Ah→Prop
 |.fail,_=>False
 |.leaf alt _ τ,v=>Q (alt,τ.vals v.e)
 |.test op a b t e,v=>if Mg op (a.den v.e) (b.den v.e)then t.wp G Q v else e.wp G Q v
 |.A0 i n t e,v=>if v.n.getD i 0=n then t.wp G Q v else e.wp G Q v
 |.sets i s t e,v=>if v.s.getD i []=s then t.wp G Q v else e.wp G Q v
 |.elem l j sh k,v=>Xg (v.l.getD l []) (j.den v.e) sh fun w=>k.wp G Q (v.app w)
 |.Ad l t k,v=>if t.den v.e=((v.l.getD l []).length:Int)then k.wp G Q v else False
 |.BA s lo hi k,v=>if lo≤(v.s.getD s []).length∧(v.s.getD s []).length≤hi then k.wp G Q (v.app {n:=[((v.s.getD s []).length:Int)]})else False
 |.E5 x y t e,v=>if Bz v.e x=Bz v.e y then t.wp G Q v else e.wp G Q v
 |.cat x y k,v=>if (Bz v.e x).length+(Bz v.e y).length≤1048576 then k.wp G Q (v.app {s:=[Bz v.e x++Bz v.e y]})else False
 |.Az ps sh k,v=>J4 (CF v.e sh ps) fun l=>k.wp G Q (v.app {n:=[(l.length:Int)],l:=[l]})
 |.look m key sh t e,v=>Pe (v.m.getD m []) (Bz v.e key) sh (fun w=>t.wp G Q (v.app w)) (e.wp G Q v)
 |.up m key cs sh k,v=>J4 (CB v.e sh cs) fun ps=>k.wp G Q (v.app {m:=[Bn (v.m.getD m []) (Bz v.e key) ps]})
 |.LM es sh k,v=>J4 (CN v.e sh es) fun l=>k.wp G Q (v.app {m:=[l]})
 |.bump t n k,v=>if t.den v.e+n≤1048576 then k.wp G Q (v.app {n:=[t.den v.e+n]})else False
 |.BJ _ k,v=>k.wp G Q v
 |.call c alt τ u k e,v=>AiK (G c (τ.vals v.e)) alt u (fun w=>k.wp G Q (v.app w)) (e.wp G Q v)
theorem BP {trees:Nat→Tree} {Q:Out→Prop}:∀(t:Tree) (v:Ah),t.wp (Ef trees) Q v→∃N o,t.eval (mir trees N) v=some o∧Q o
 |.fail,_,h=>h.elim
 |.leaf alt _ τ,v,h=>⟨0,_,rfl,h⟩
 |.test op a b t e,v,h=>by
  simp only [Tree.wp]at h
  simp only [Tree.eval]
  split at h
  ·rename_i hc;simp only [if_pos hc];exact BP t v h
  ·rename_i hc;simp only [if_neg hc];exact BP e v h
 |.A0 i n t e,v,h=>by
  simp only [Tree.wp]at h
  simp only [Tree.eval]
  split at h
  ·rename_i hc;simp only [if_pos hc];exact BP t v h
  ·rename_i hc;simp only [if_neg hc];exact BP e v h
 |.sets i s t e,v,h=>by
  simp only [Tree.wp]at h
  simp only [Tree.eval]
  split at h
  ·rename_i hc;simp only [if_pos hc];exact BP t v h
  ·rename_i hc;simp only [if_neg hc];exact BP e v h
 |.elem l j sh k,v,h=>by
  simp only [Tree.wp,Xg]at h
  obtain ⟨D,h⟩:=h
  simp only [Tree.eval,N0,if_pos D]
  cases hg:(v.l.getD l [])[(j.den v.e).toNat]? with
  |none=>rw [hg]at h;exact h.elim
  |some ps=>
   rw [hg]at h
   simp only at h⊢
   cases hr:CX sh ps with
   |none=>rw [hr]at h;exact h.elim
   |some w=>rw [hr]at h;exact BP k _ h
 |.Ad l t k,v,h=>by
  simp only [Tree.wp]at h
  simp only [Tree.eval]
  split at h
  ·rename_i hc;simp only [if_pos hc];exact BP k _ h
  ·exact h.elim
 |.BA s lo hi k,v,h=>by
  simp only [Tree.wp]at h
  simp only [Tree.eval]
  split at h
  ·rename_i hc;simp only [if_pos hc];exact BP k _ h
  ·exact h.elim
 |.E5 x y t e,v,h=>by
  simp only [Tree.wp]at h
  simp only [Tree.eval]
  split at h
  ·rename_i hc;simp only [if_pos hc];exact BP t v h
  ·rename_i hc;simp only [if_neg hc];exact BP e v h
 |.cat x y k,v,h=>by
  simp only [Tree.wp]at h
  simp only [Tree.eval]
  split at h
  ·rename_i hc;simp only [if_pos hc];exact BP k _ h
  ·exact h.elim
 |.Az ps sh k,v,h=>by
  simp only [Tree.wp,J4]at h
  simp only [Tree.eval,H7]
  cases hg:CF v.e sh ps with
  |none=>rw [hg]at h;exact h.elim
  |some l=>rw [hg]at h;exact BP k _ h
 |.look m key sh t e,v,h=>by
  simp only [Tree.wp,Pe]at h
  simp only [Tree.eval,IX]
  cases hg:BO (v.m.getD m []) (Bz v.e key)with
  |none=>rw [hg]at h;exact BP e _ h
  |some ps=>
   rw [hg]at h
   simp only at h⊢
   cases hr:CX sh ps with
   |none=>rw [hr]at h;exact h.elim
   |some w=>rw [hr]at h;exact BP t _ h
 |.up m key cs sh k,v,h=>by
  simp only [Tree.wp,J4]at h
  simp only [Tree.eval,H7]
  cases hg:CB v.e sh cs with
  |none=>rw [hg]at h;exact h.elim
  |some l=>rw [hg]at h;exact BP k _ h
 |.LM es sh k,v,h=>by
  simp only [Tree.wp,J4]at h
  simp only [Tree.eval,H7]
  cases hg:CN v.e sh es with
  |none=>rw [hg]at h;exact h.elim
  |some l=>rw [hg]at h;exact BP k _ h
 |.bump t n k,v,h=>by
  simp only [Tree.wp]at h
  simp only [Tree.eval]
  split at h
  ·rename_i hc;simp only [if_pos hc];exact BP k _ h
  ·exact h.elim
 |.BJ _ k,v,h=>by
  simp only [Tree.wp]at h
  exact BP k v h
 |.call c alt τ u k e,v,h=>by
  simp only [Tree.wp]at h
  obtain ⟨N,o,C,A⟩:=h
  split at A
  ·rename_i ha
   obtain ⟨d,q,g,z⟩:=BP k _ A
   refine ⟨max N d,q,?_,z⟩
   simp only [Tree.eval,LA,Q8 (Nat.le_max_left N d) C,if_pos ha]
   exact Ba (fun _ _ _=>Q8 (Nat.le_max_right N d)) k _ _ g
  ·rename_i ha
   obtain ⟨d,q,g,z⟩:=BP e _ A
   refine ⟨max N d,q,?_,z⟩
   simp only [Tree.eval,LA,Q8 (Nat.le_max_left N d) C,if_neg ha]
   exact Ba (fun _ _ _=>Q8 (Nat.le_max_right N d)) e _ _ g
theorem SN {trees:Nat→Tree} {c:Nat} {v:Ah} {Q:Out→Prop} (h:(trees c).wp (Ef trees) Q v):Ef trees c v Q:=by
 obtain ⟨N,o,g,d⟩:=BP _ _ h
 exact ⟨N+1,o,g,d⟩
theorem Ef.elim {trees:Nat→Tree} {c:Nat} {v:Ah} {R:Out→Prop} (h:Ef trees c v R):∃o,R o∧∀Q:Out→Prop,Q o→Ef trees c v Q:=by
 obtain ⟨N,o,g,d⟩:=h
 exact ⟨o,d,fun Q j=>⟨N,o,g,j⟩⟩
def YM (c:Nat):List (Nat×Tree)→Tree
 |[]=>.fail
 |x::r=>bif Nat.beq x.1 c then x.2 else YM c r
def Ab0 (P:Program) (T:Nat→Option Obj) (S:List (Nat×Spec)) (d:Spec) (t:Tree):Prop:=
 ∃g run,(∀j c,Fo j g=some c→Fo j S=some c)∧NS P T d.f run∧d.ok g run t=true
def Sub (g S:List (Nat×Spec)):Prop:=∀d c,Fo d g=some c→Fo d S=some c
theorem Ai {S:List (Nat×Spec)}:Sub [] S:=fun _ _ h=>by cases h
theorem YR {j S:List (Nat×Spec)} {c:Nat} {g:Spec} (h:Fo c S=some g) (k:Sub j S):Sub ((c,g)::j) S:=fun o q d=>by
 simp only [Fo]at d
 cases e:Nat.beq c o with
 |true=>
  rw [e]at d
  simp only [cond_true,oI]at d
  rw [←d,←An.1 e];exact h
 |false=>rw [e]at d;exact k _ _ d
def AbI (P:Program) (T:Nat→Option Obj) (S:List (Nat×Spec)) (tr:Nat→Tree):List (Nat×Spec)→Prop
 |[]=>True
 |x::r=>Ab0 P T S x.2 (tr x.1)∧AbI P T S tr r
theorem Pw {c:Nat} {d:Spec}:∀{l:List (Nat×Spec)},Fo c l=some d→(c,d)∈l
 |[],h=>by cases h
 |x::r,h=>by
  simp only [Fo]at h
  cases e:Nat.beq x.1 c with
  |true=>
   rw [e]at h
   simp only [cond_true,oI]at h
   rw [←An.1 e,←h];exact List.mem_cons_self
  |false=>rw [e]at h;exact List.mem_cons_of_mem _ (Pw h)
theorem AbI.mem {P:Program} {T:Nat→Option Obj} {S:List (Nat×Spec)} {tr:Nat→Tree}:∀{l:List (Nat×Spec)},AbI P T S tr l→∀x∈l,Ab0 P T S x.2 (tr x.1)
 |[],_,x,hx=>by cases hx
 |y::r,h,x,hx=>by
  rcases List.mem_cons.1 hx with rfl|hx
  ·exact h.1
  ·exact AbI.mem h.2 x hx
theorem Abl {P:Program} {T:Nat→Option Obj} {S:List (Nat×Spec)} {tr:Nat→Tree} (h:AbI P T S tr S):AbH P T S tr:=fun c d hc=>h.mem (c,d) (Pw hc)
def Tree.parts:Nat→Tree→Cx→List (Tree×Cx)
 |d+1,.test op a b t e,cx=>t.parts d (cx.test op a b true)++e.parts d (cx.test op a b false)
 |_,t,cx=>[(t,cx)]
theorem Tree.MB {S:List (Nat×Spec)} {run:R6} {f:Nat} {alts:List Alt}:∀(d:Nat) (t:Tree) (cx:Cx),(∀p∈t.parts d cx,p.1.ok S run f alts p.2=true)→t.ok S run f alts cx=true
 |0,t,cx,h=>by cases t<;>exact h _ List.mem_cons_self
 |d+1,t,cx,h=>by
  cases t with
  |test op a b t e=>
   simp only [Tree.parts,List.mem_append]at h
   simp only [Tree.ok,aT]
   exact ⟨Tree.MB d t _ fun p c=>h p (.inl c),Tree.MB d e _ fun p c=>h p (.inr c)⟩
  |_=>exact h _ List.mem_cons_self
noncomputable def Spec.Q2 (S:List (Nat×Spec)) (run:R6) (c:Spec) (t:Tree) (d n i:Nat):Bool:=
 Cn (fun p:Tree×Cx=>p.1.ok S run c.f c.alts p.2) (((t.parts d ⟨c.ins,{},[],Mb {} c.ins⟩).drop (n*i)).take n)
theorem Spec.AgU {S:List (Nat×Spec)} {run:R6} {c:Spec} {t:Tree} (d n k:Nat) (hb:t.Cr c.ins=true) (hl:Nat.ble (t.parts d ⟨c.ins,{},[],Mb {} c.ins⟩).length (n*k)=true) (h:∀i,i<k→c.Q2 S run t d n i=true):c.ok S run t=true:=by
 unfold Spec.ok
 rw [aT]
 refine ⟨hb,Tree.MB d t _ fun p u=>?_⟩
 obtain ⟨j,q⟩:=List.mem_iff_getElem?.1 u
 have x:=(List.getElem?_eq_some_iff.1 q).1
 have hl:=Nat.le_of_ble_eq_true hl
 have g:0<n:=by
  rcases Nat.eq_zero_or_pos n with e|e
  ·subst e;rw [Nat.zero_mul]at hl;omega
  ·exact e
 have o:=Nat.div_add_mod j n
 have v:=Nat.mod_lt j g
 refine Gm (h (j/n) ?_) p (List.mem_iff_getElem?.2 ⟨j%n,?_⟩)
 ·exact (Nat.div_lt_iff_lt_mul g).2 (by rw [Nat.mul_comm];omega)
 ·rw [List.getElem?_take,if_pos v,List.getElem?_drop,o];exact q
end Go.AM
end
