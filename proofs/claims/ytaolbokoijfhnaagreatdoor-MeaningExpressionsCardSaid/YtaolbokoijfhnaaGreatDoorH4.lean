/- Part 4 of MeaningExpressions. -/
import Derived.Test.YtaolbokoijfhnaaGreatDoorH3
set_option linter.all false
namespace Go.AM
section
def Env.of (AQ:Nat->Option Obj) (n:List Int) (s:List (List Nat)) (l:List (List (List PV))) (m:List (List (List Nat×List PV))):Env:=
 {val:=fun i=>n.getD i 0,AQ:=AQ,str:=fun i=>s.getD i [],lst:=fun i=>l.getD i [],map:=fun i=>m.getD i []}
structure CI where
 n:List ST:=[]
 s:List Aa:=[]
 l:List Nat:=[]
 m:List Nat:=[]
def Bq (ρ:Env) (v:Aa):List Nat:=(DZ ρ v).getD []
def Env.sub (ρ:Env) (τ:CI):Env:=Env.of ρ.AQ (τ.n.map (·.den ρ)) (τ.s.map (Bq ρ)) (τ.l.map ρ.lst) (τ.m.map ρ.map)
def ST.sub (τ:CI):ST->Option ST
 |.lit n=>some (.lit n)
 |.var i=>τ.n[i]?
 |.bin op k a b=>match a.sub τ,b.sub τ with
  |some a,some b=>some (.bin op k a b)
  |_,_=>none
 |.conv k a=>(a.sub τ).map (.conv k)
def Ae1 (op:BinOp) (a b:ST):SB:=
 match a,b with
 |.lit x,.lit y=>(match AcO op x y with|some v=>.lit v|none=>.cmp op (.lit x) (.lit y))
 |a,b=>.cmp op a b
theorem TJ {ρ:Env} (op:BinOp) (a b:ST):(Ae1 op a b).den ρ=(SB.cmp op a b).den ρ:=by
 unfold Ae1
 split
 ·split
  ·rename_i x y v h
   simp only [SB.den,ST.den]
   exact (N0 h).1
  ·rfl
 ·rfl
def SB.sub (τ:CI):SB->Option SB
 |.lit b=>some (.lit b)
 |.cmp op a b=>match a.sub τ,b.sub τ with
  |some a,some b=>some (Ae1 op a b)
  |_,_=>none
 |.no a=>(a.sub τ).map .no
def Aa.isStr:Aa->Bool
 |.str _=>true
 |.svar _=>true
 |_=>false
def Aa.Uh (τ:CI):Aa->Option Aa
 |.bool b=>(b.sub τ).map .bool
 |.int k n=>(n.sub τ).map (.int k)
 |.str s=>some (.str s)
 |.ptr b o=>some (.ptr b o)
 |.nilPtr=>some .nilPtr
 |.slice b o l c=>some (.slice b o l c)
 |.gslice b o l e=>some (.gslice b o l e)
 |.nilSlice=>some .nilSlice
 |.map b=>some (.map b)
 |.nilMap=>some .nilMap
 |.nilFunc=>some .nilFunc
 |.nilIface=>some .nilIface
 |.gbytes b=>some (.gbytes b)
 |.svar i=>match τ.s[i]? with
  |some v=>if v.isStr then some v else none
  |none=>none
 |.lst f i es n=>match τ.l[i]?,n.sub τ with
  |some j,some n=>some (.lst f j es n)
  |_,_=>none
 |.lptr i j o=>match τ.l[i]?,j.sub τ with
  |some k,some j=>some (.lptr k j o)
  |_,_=>none
 |.vec b es n=>(n.sub τ).map (.vec b es)
 |.vptr b es j o=>(j.sub τ).map fun j=>.vptr b es j o
 |.anyStr n=>some (.anyStr n)
 |_=>none
def Mf (τ:CI):List Aa->Option (List Aa)
 |[]=>some []
 |v::r=>match v.Uh τ,Mf τ r with
  |some v,some r=>some (v::r)
  |_,_=>none
def Aa.XC (τ:CI):Aa->Option Aa
 |.func f a c=>match Mf τ a,Mf τ c with
  |some a,some c=>some (.func f a c)
  |_,_=>none
 |v=>v.Uh τ
def S1 (τ:CI):List Entry->Option (List Entry)
 |[]=>some []
 |e::r=>match e.key.XC τ,e.val.XC τ,S1 τ r with
  |some k,some v,some es=>some (⟨k,v,e.born⟩::es)
  |_,_,_=>none
def Aa.Ag0 (τ:CI):Aa->Option Aa
 |.agg cs=>(Mf τ cs).map .agg
 |v=>v.XC τ
def S0 (τ:CI):List Aa->Option (List Aa)
 |[]=>some []
 |v::r=>match v.Ag0 τ,S0 τ r with
  |some v,some r=>some (v::r)
  |_,_=>none
def Aa.Sy (τ:CI):Aa->Option Aa
 |.agg cs=>(Mf τ cs).map .agg
 |.tuple cs=>(S0 τ cs).map .tuple
 |v=>v.XC τ
def OD (τ:CI):List Aa->Option (List Aa)
 |[]=>some []
 |v::r=>match v.Sy τ,OD τ r with
  |some v,some r=>some (v::r)
  |_,_=>none
def Block.sub (τ:CI):Block->Option Block
 |.cells vs=>(Mf τ vs).map .cells
 |.typed e vs=>(Mf τ vs).map (.typed e)
 |.bytes n e=>some (.bytes n e)
 |.sbytes t e=>(t.sub τ).map fun t=>.sbytes t e
 |.list i q=>(τ.l[i]?).map fun j=>.list j q
 |.smap i=>(τ.m[i]?).map .smap
 |.map q c=>(S1 τ q).map fun q=>.map q c
def I4 (τ:CI):List Block->Option (List Block)
 |[]=>some []
 |B::r=>match B.sub τ,I4 τ r with
  |some B,some r=>some (B::r)
  |_,_=>none
def I3 (τ:CI):List (Option Block)->Option (List (Option Block))
 |[]=>some []
 |none::r=>(I3 τ r).map (none::·)
 |some B::r=>match B.sub τ,I3 τ r with
  |some B,some r=>some (some B::r)
  |_,_=>none
def BR.sub (τ:CI) (x:BR):Option BR:=
 match OD τ x.args,I4 τ x.pre,x.res.Sy τ,I3 τ x.post with
 |some args,some pre,some res,some post=>some ⟨args,pre,res,post⟩
 |_,_,_,_=>none
section
variable {ρ:Env} {μ:Aq} {τ:CI}
theorem getD_map {α β:Type} {f:α->β} {l:List α} {i:Nat} {x:α} {d:β} (h:l[i]?=some x):(l.map f).getD i d=f x:=by
 rw [List.getD_eq_getElem?_getD,List.getElem?_map,h];rfl
theorem ST.CO:∀{t u:ST},t.sub τ=some u->u.den ρ=t.den (ρ.sub τ)
 |.lit n,u,h=>by simp only [ST.sub,oI]at h;subst h;rfl
 |.var i,u,h=>by
  simp only [ST.sub]at h
  exact (getD_map (f:=fun x:ST=>x.den ρ) h).symm
 |.bin op k a b,u,h=>by
  simp only [ST.sub]at h
  split at h
  ·rename_i j q ha hb
   simp only [oI]at h
   subst h
   simp only [ST.den,ST.CO ha,ST.CO hb]
  ·cases h
 |.conv k a,u,h=>by
  simp only [ST.sub]at h
  obtain ⟨j,ha,rfl⟩:=mS h
  simp only [ST.den,ST.CO ha]
theorem SB.CO:∀{t u:SB},t.sub τ=some u->u.den ρ=t.den (ρ.sub τ)
 |.lit n,u,h=>by simp only [SB.sub,oI]at h;subst h;rfl
 |.cmp op a b,u,h=>by
  simp only [SB.sub]at h
  split at h
  ·rename_i j q ha hb
   simp only [oI]at h
   subst h
   rw [TJ]
   simp only [SB.den,ST.CO ha,ST.CO hb]
  ·cases h
 |.no a,u,h=>by
  simp only [SB.sub]at h
  obtain ⟨j,ha,rfl⟩:=mS h
  simp only [SB.den,SB.CO ha]
theorem DI {p a:Aa} (h:p.Uh τ=some a) {u:Value}:(Ah (ρ.sub τ) μ p u↔Ah ρ μ a u)/\a.single=p.single:=by
 cases p<;>simp only [Aa.Uh,oI,reduceCtorEq]at h
 case bool b=>
  obtain ⟨C,hb,rfl⟩:=mS h
  simp only [Ah,SB.CO (ρ:=ρ) hb,Aa.single,and_self]
 case int k n=>
  obtain ⟨x,q,rfl⟩:=mS h
  simp only [Ah,ST.CO (ρ:=ρ) q,Aa.single,and_self]
 case svar i=>
  split at h
  ·rename_i v B
   split at h
   ·rename_i hs
    simp only [oI]at h
    subst h
    have e:(ρ.sub τ).str i=Bq ρ v:=getD_map (f:=Bq ρ) B
    cases v<;>simp only [Aa.isStr,Bool.false_eq_true]at hs
    case str s=>simp only [Ah,e,Bq,DZ,Option.getD_some,Aa.single,and_self]
    case svar j=>simp only [Ah,e,Bq,DZ,Option.getD_some,Aa.single,and_self]
   ·cases h
  ·cases h
 case lst f i es n=>
  split at h
  ·rename_i j x z q
   simp only [oI]at h
   subst h
   have e:(ρ.sub τ).lst i=ρ.lst j:=getD_map (f:=ρ.lst) z
   simp only [Ah,e,ST.CO (ρ:=ρ) q,Aa.single,and_self]
  ·cases h
 case lptr i j o=>
  split at h
  ·rename_i k j' A z
   simp only [oI]at h
   subst h
   have e:(ρ.sub τ).lst i=ρ.lst k:=getD_map (f:=ρ.lst) A
   simp only [Ah,e,ST.CO (ρ:=ρ) z,Aa.single,and_self]
  ·cases h
 case vec b es n=>
  obtain ⟨x,q,rfl⟩:=mS h
  simp only [Ah,ST.CO (ρ:=ρ) q,Aa.single,and_self]
 case vptr b es j o=>
  obtain ⟨x,q,rfl⟩:=mS h
  simp only [Ah,ST.CO (ρ:=ρ) q,Aa.single,and_self]
 all_goals
  subst h
  simp only [Ah,Aa.single,and_self]
theorem XB (v:Aa) (r:List Aa):Mf τ (v::r)=match v.Uh τ,Mf τ r with
  |some v,some r=>some (v::r)
  |_,_=>none:=rfl
theorem EU:∀{l r:List Aa},Mf τ l=some r->l.length=r.length/\(∀{us:List Value},Av (ρ.sub τ) μ l us↔Av ρ μ r us)/\(∀{us:List Value},A9 (ρ.sub τ) μ l us↔A9 ρ μ r us)/\
  ∀(i:Nat),(∀p,l[i]?=some p->∃a,r[i]?=some a/\p.Uh τ=some a)/\(∀a,r[i]?=some a->∃p,l[i]?=some p/\p.Uh τ=some a)
 |[],r,h=>by
  simp only [Mf,oI]at h
  subst h
  exact ⟨rfl,by simp only [Av,implies_true],by simp only [A9,implies_true],fun i=>⟨fun p h=>by simp at h,fun p h=>by simp at h⟩⟩
 |v::l,r,h=>by
  rw [XB]at h
  split at h
  ·rename_i C J q H
   simp only [oI]at h
   subst h
   obtain ⟨B,z,A,I⟩:=EU H
   refine ⟨by simp [B],fun {us}=>?_,fun {us}=>?_,fun i=>?_⟩
   ·simp only [Av]
    constructor
    ·rintro ⟨u,rest,rfl,⟨h1,h2⟩,h3⟩
     obtain ⟨j,x⟩:=DI (ρ:=ρ) (μ:=μ) q (u:=u)
     exact ⟨u,rest,rfl,⟨by rw [x];exact h1,j.1 h2⟩,z.1 h3⟩
    ·rintro ⟨u,rest,rfl,⟨h1,h2⟩,h3⟩
     obtain ⟨j,x⟩:=DI (ρ:=ρ) (μ:=μ) q (u:=u)
     exact ⟨u,rest,rfl,⟨by rw [<-x];exact h1,j.2 h2⟩,z.2 h3⟩
   ·simp only [A9]
    constructor
    ·rintro ⟨u,rest,rfl,h2,h3⟩
     obtain ⟨j,x⟩:=DI (ρ:=ρ) (μ:=μ) q (u:=u)
     exact ⟨u,rest,rfl,j.1 h2,A.1 h3⟩
    ·rintro ⟨u,rest,rfl,h2,h3⟩
     obtain ⟨j,x⟩:=DI (ρ:=ρ) (μ:=μ) q (u:=u)
     exact ⟨u,rest,rfl,j.2 h2,A.2 h3⟩
   ·cases i with
    |zero=>
     simp only [List.getElem?_cons_zero,oI]
     exact ⟨fun p e=>⟨C,rfl,e▸q⟩,fun a e=>⟨v,rfl,e▸q⟩⟩
    |succ i=>simpa using I i
  ·cases h
theorem Hq {p a:Aa} (h:p.XC τ=some a) {u:Value}:(Ah (ρ.sub τ) μ p u↔Ah ρ μ a u)/\a.single=p.single:=by
 unfold Aa.XC at h
 split at h
 ·split at h
  ·rename_i x y z v
   simp only [oI]at h
   subst h
   obtain ⟨_,_,j,_⟩:=EU (ρ:=ρ) (μ:=μ) z
   obtain ⟨_,_,q,_⟩:=EU (ρ:=ρ) (μ:=μ) v
   simp only [Ah,j,q,Aa.single,and_self]
  ·cases h
 ·exact DI h
theorem OG:∀{l r:List Entry} {ms:List MapEntry},S1 τ l=some r->(BP (ρ.sub τ) μ l ms↔BP ρ μ r ms)
 |[],r,ms,h=>by
  simp only [S1,oI]at h
  subst h
  simp only [BP]
 |e::l,r,ms,h=>by
  simp only [S1]at h
  split at h
  ·rename_i k v z j x q
   simp only [oI]at h
   subst h
   simp only [BP,Ad2,(Hq (ρ:=ρ) (μ:=μ) j).1,(Hq (ρ:=ρ) (μ:=μ) (u:=.bool true) j).2,(Hq (ρ:=ρ) (μ:=μ) x).1,OG q]
  ·cases h
theorem Aav {p a:Aa} (h:p.Ag0 τ=some a) {u:Value}:Ah (ρ.sub τ) μ p u↔Ah ρ μ a u:=by
 unfold Aa.Ag0 at h
 split at h
 ·obtain ⟨cs,j,rfl⟩:=mS h
  obtain ⟨_,k,_⟩:=EU (ρ:=ρ) (μ:=μ) j
  simp only [Ah,k]
 ·exact (Hq h).1
theorem OF:∀{l r:List Aa} {us:List Value},S0 τ l=some r->(A9 (ρ.sub τ) μ l us↔A9 ρ μ r us)
 |[],r,us,h=>by
  simp only [S0,oI]at h
  subst h
  simp only [A9]
 |v::l,r,us,h=>by
  simp only [S0]at h
  split at h
  ·rename_i z x j q
   simp only [oI]at h
   subst h
   simp only [A9,Aav (ρ:=ρ) (μ:=μ) j,OF q]
  ·cases h
theorem Hp {p a:Aa} (h:p.Sy τ=some a) {u:Value}:Ah (ρ.sub τ) μ p u↔Ah ρ μ a u:=by
 unfold Aa.Sy at h
 split at h
 ·obtain ⟨cs,j,rfl⟩:=mS h
  obtain ⟨_,k,_⟩:=EU (ρ:=ρ) (μ:=μ) j
  simp only [Ah,k]
 ·obtain ⟨cs,j,rfl⟩:=mS h
  simp only [Ah,fun us=>OF (ρ:=ρ) (μ:=μ) (us:=us) j]
 ·exact (Hq h).1
theorem FL:∀{l r:List Aa} {us:List Value},OD τ l=some r->(A9 (ρ.sub τ) μ l us↔A9 ρ μ r us)
 |[],r,us,h=>by
  simp only [OD,oI]at h
  subst h
  simp only [A9]
 |v::l,r,us,h=>by
  simp only [OD]at h
  split at h
  ·rename_i z x j q
   simp only [oI]at h
   subst h
   simp only [A9,Hp (ρ:=ρ) (μ:=μ) j,FL q]
  ·cases h
theorem EN {B C:Block} (h:B.sub τ=some C) {o:Option Obj} {δ:Nat×Nat}:C7 (ρ.sub τ) μ B o δ↔C7 ρ μ C o δ:=by
 cases B<;>simp only [Block.sub,oI,reduceCtorEq]at h
 case cells vs=>
  obtain ⟨us,J,rfl⟩:=mS h
  obtain ⟨_,_,_,k⟩:=EU (ρ:=ρ) (μ:=μ) J
  simp only [C7]
  constructor
  ·rintro ⟨c,e,ho,hm,hc⟩
   refine ⟨c,e,ho,hm,fun i a ha=>?_⟩
   obtain ⟨p,q,hs⟩:=(k i).2 a ha
   obtain ⟨v,A,x,z⟩:=hc i p q
   obtain ⟨H,I⟩:=DI (ρ:=ρ) (μ:=μ) hs (u:=v)
   exact ⟨v,A,by rw [I];exact x,H.1 z⟩
  ·rintro ⟨c,e,ho,hm,hc⟩
   refine ⟨c,e,ho,hm,fun i p q=>?_⟩
   obtain ⟨a,ha,hs⟩:=(k i).1 p q
   obtain ⟨v,A,x,z⟩:=hc i a ha
   obtain ⟨H,I⟩:=DI (ρ:=ρ) (μ:=μ) hs (u:=v)
   exact ⟨v,A,by rw [<-I];exact x,H.2 z⟩
 case typed t vs=>
  obtain ⟨us,J,rfl⟩:=mS h
  obtain ⟨N,_,_,k⟩:=EU (ρ:=ρ) (μ:=μ) J
  simp only [C7]
  constructor
  ·rintro ⟨c,ho,⟨h0,hs0⟩,hm,hc⟩
   refine ⟨c,ho,⟨h0,by rw [hs0,N]⟩,hm,fun i a ha=>?_⟩
   obtain ⟨p,q,hs⟩:=(k i).2 a ha
   obtain ⟨v,A,x,z⟩:=hc i p q
   obtain ⟨H,I⟩:=DI (ρ:=ρ) (μ:=μ) hs (u:=v)
   exact ⟨v,A,by rw [I];exact x,H.1 z⟩
  ·rintro ⟨c,ho,⟨h0,hs0⟩,hm,hc⟩
   refine ⟨c,ho,⟨h0,by rw [hs0,N]⟩,hm,fun i p q=>?_⟩
   obtain ⟨a,ha,hs⟩:=(k i).1 p q
   obtain ⟨v,A,x,z⟩:=hc i a ha
   obtain ⟨H,I⟩:=DI (ρ:=ρ) (μ:=μ) hs (u:=v)
   exact ⟨v,A,by rw [<-I];exact x,H.2 z⟩
 case map es c=>
  obtain ⟨P,M,rfl⟩:=mS h
  simp only [C7,OG (ρ:=ρ) (μ:=μ) M]
 case bytes n e=>subst h;simp only [C7]
 case sbytes t e=>
  obtain ⟨t',O,rfl⟩:=mS h
  simp only [C7,ST.CO (ρ:=ρ) O]
 case list i es=>
  obtain ⟨j,L,rfl⟩:=mS h
  have e:(ρ.sub τ).lst i=ρ.lst j:=getD_map (f:=ρ.lst) L
  simp only [C7,e]
 case smap i=>
  obtain ⟨j,L,rfl⟩:=mS h
  have e:(ρ.sub τ).map i=ρ.map j:=getD_map (f:=ρ.map) L
  simp only [C7,e]
theorem FM:∀{l r:List Block},I4 τ l=some r->l.length=r.length/\∀(i:Nat),(∀p,l[i]?=some p->∃a,r[i]?=some a/\p.sub τ=some a)/\(∀a,r[i]?=some a->∃p,l[i]?=some p/\p.sub τ=some a)
 |[],r,h=>by
  simp only [I4,oI]at h
  subst h
  exact ⟨rfl,fun i=>⟨fun p h=>by simp at h,fun p h=>by simp at h⟩⟩
 |v::l,r,h=>by
  simp only [I4]at h
  split at h
  ·rename_i x B j z
   simp only [oI]at h
   subst h
   obtain ⟨q,A⟩:=FM z
   refine ⟨by simp [q],fun i=>?_⟩
   cases i with
   |zero=>
    simp only [List.getElem?_cons_zero,oI]
    exact ⟨fun p e=>⟨x,rfl,e▸j⟩,fun a e=>⟨v,rfl,e▸j⟩⟩
   |succ i=>simpa using A i
  ·cases h
theorem Ie:∀{l r:List (Option Block)},I3 τ l=some r->l.length=r.length/\∀(i:Nat),(∀p,l[i]?=some (some p)->∃a,r[i]?=some (some a)/\p.sub τ=some a)/\(∀a,r[i]?=some (some a)->∃p,l[i]?=some (some p)/\p.sub τ=some a)
 |[],r,h=>by
  simp only [I3,oI]at h
  subst h
  exact ⟨rfl,fun i=>⟨fun p h=>by simp at h,fun p h=>by simp at h⟩⟩
 |none::l,r,h=>by
  simp only [I3]at h
  obtain ⟨A,q,rfl⟩:=mS h
  obtain ⟨j,x⟩:=Ie q
  refine ⟨by simp [j],fun i=>?_⟩
  cases i with
  |zero=>simp
  |succ i=>simpa using x i
 |some v::l,r,h=>by
  simp only [I3]at h
  split at h
  ·rename_i B A z q
   simp only [oI]at h
   subst h
   obtain ⟨j,x⟩:=Ie q
   refine ⟨by simp [j],fun i=>?_⟩
   cases i with
   |zero=>
    simp only [List.getElem?_cons_zero,oI]
    exact ⟨fun p e=>⟨B,rfl,e▸z⟩,fun a e=>⟨v,rfl,e▸z⟩⟩
   |succ i=>simpa using x i
  ·cases h
theorem AJ.over {x:Env} {h v:Ak} {w:World} (H:AJ ρ μ h w) (N:v.next=h.next) (J:x.AQ=ρ.AQ) (hf:v.fx.AI x) (hb:∀b j,v.get b=some j->∃B,h.get b=some B/\∀o δ,C7 ρ μ B o δ->C7 x μ j o δ):AJ x μ v w:=by
 have own:∀r,AN μ v r->AN μ h r:=fun r ⟨b,B,δ,C,A⟩=>by
  obtain ⟨j,k,_⟩:=hb b B C
  exact ⟨b,j,δ,k,A⟩
 refine ⟨fun b e=>H.fresh b (N▸e),fun b B e=>?_,fun b L B j r δ O C A m1 m2=>?_,⟨fun g o e=>?_,fun g o e=>?_,hf⟩⟩
 ·obtain ⟨M,z,I⟩:=hb b B e
  obtain ⟨r,δ,m1,m2⟩:=H.blk b M z
  exact ⟨r,δ,m1,I _ _ m2⟩
 ·obtain ⟨P,z,_⟩:=hb b B C
  obtain ⟨Q,I,_⟩:=hb L j A
  exact H.inj _ _ _ _ _ _ _ z I m1 m2
 ·rw [J]at e
  exact ⟨(H.AQ.AQ g o e).1,fun q=>(H.AQ.AQ g o e).2 (own g q)⟩
 ·exact ⟨(H.AQ.AX g o e).1,fun q=>(H.AQ.AX g o e).2 (own g q)⟩
end
section
variable {ρ:Env} {τ:CI} {μ:Aq} {w w':World} {pre pre':List Block} {post post':List (Option Block)}
theorem Md (q:I4 τ pre=some pre') (H:AJ ρ μ (AY pre' (empty 0)) w):AJ (ρ.sub τ) μ (AY pre (empty 0)) w:=by
 obtain ⟨v,j⟩:=FM q
 refine H.over (by rw [BU,BU,v]) rfl (by rw [(BY pre (empty 0)).2.1];exact Ao.AI.none _) fun b B hB=>?_
 rw [Ct]at hB
 obtain ⟨a,ha,hs⟩:=(j b).1 B hB
 exact ⟨a,by rw [Ct];exact ha,fun o δ=>(EN hs).2⟩
theorem Js (q:I4 τ pre=some pre') (H:AJ (ρ.sub τ) μ (AY pre (empty 0)) w):AJ ρ μ (AY pre' (empty 0)) w:=by
 obtain ⟨v,j⟩:=FM q
 refine H.over (by rw [BU,BU,v]) rfl (by rw [(BY pre' (empty 0)).2.1];exact Ao.AI.none _) fun b B hB=>?_
 rw [Ct]at hB
 obtain ⟨a,ha,hs⟩:=(j b).2 B hB
 exact ⟨a,by rw [Ct];exact ha,fun o δ=>(EN hs).1⟩
theorem Kn {μ':Aq} (M:I4 τ pre=some pre') (Q:I3 τ post=some post') (v:Au (ρ.sub τ) μ (AY pre (empty 0)) w μ' (Cv post (empty 0)) w'):Au ρ μ (AY pre' (empty 0)) w μ' (Cv post' (empty 0)) w':=by
 obtain ⟨R,H⟩:=FM M
 obtain ⟨J,I⟩:=Ie Q
 have A:∀r,AN μ (AY pre (empty 0)) r↔AN μ (AY pre' (empty 0)) r:=fun r=>by
  constructor
  ·rintro ⟨b,B,δ,j,z⟩
   rw [Ct]at j
   obtain ⟨a,ha,_⟩:=(H b).1 B j
   exact ⟨b,a,δ,by rw [Ct];exact ha,z⟩
  ·rintro ⟨b,B,δ,j,z⟩
   rw [Ct]at j
   obtain ⟨a,ha,_⟩:=(H b).2 B j
   exact ⟨b,a,δ,by rw [Ct];exact ha,z⟩
 have x:∀{l:List (Option Block)} {b:Nat} {B:Block},(l[b]?).join=some B->l[b]?=some (some B):=fun {l b B} h=>by
  cases e:l[b]? with
  |none=>rw [e]at h;cases h
  |some o=>rw [e]at h;have h:o=some B:=h;rw [h]
 have C:∀r,AN μ' (Cv post' (empty 0)) r->AN μ' (Cv post (empty 0)) r:=fun r ⟨b,B,δ,j,z⟩=>by
  rw [Dt]at j
  obtain ⟨a,ha,_⟩:=(I b).2 B (x j)
  exact ⟨b,a,δ,by rw [Dt,ha];rfl,z⟩
 have P:AJ ρ μ' (Cv post' (empty 0)) w':=by
  refine v.rel.over (by rw [D8,D8,J]) rfl (by rw [(C5 post' (empty 0)).2.1];exact Ao.AI.none _) fun b B hB=>?_
  rw [Dt]at hB
  obtain ⟨a,ha,hs⟩:=(I b).2 B (x hB)
  exact ⟨a,by rw [Dt,ha];rfl,fun o δ=>(EN hs).1⟩
 refine ⟨v.le,P,v.size,fun r N L=>?_,v.os,v.output,?_,fun b hb=>v.old b ?_,fun k o O=>?_,?_⟩
 ·obtain ⟨j,z⟩:=v.kept r N fun e=>L ((A r).1 e)
  exact ⟨j,fun e=>z (C r e)⟩
 ·have:=v.next
  rw [BU,D8]at this⊢
  show pre'.length<=post'.length
  omega
 ·rw [BU]at hb⊢
  show b<pre.length
  have hb:b<pre'.length:=hb
  omega
 ·rcases v.icy k o O with q|q|q
  ·exact .inl q
  ·exact .inr (.inl ((A k).1 q))
  ·exact .inr (.inr q)
 ·rw [(C5 post' (empty 0)).2.1,(BY pre' (empty 0)).2.1]
theorem Hl {μ':Aq} (M:I4 τ pre=some pre') (Q:I3 τ post=some post') (v:Au ρ μ (AY pre' (empty 0)) w μ' (Cv post' (empty 0)) w'):Au (ρ.sub τ) μ (AY pre (empty 0)) w μ' (Cv post (empty 0)) w':=by
 obtain ⟨R,H⟩:=FM M
 obtain ⟨J,I⟩:=Ie Q
 have A:∀r,AN μ (AY pre' (empty 0)) r↔AN μ (AY pre (empty 0)) r:=fun r=>by
  constructor
  ·rintro ⟨b,B,δ,j,z⟩
   rw [Ct]at j
   obtain ⟨a,ha,_⟩:=(H b).2 B j
   exact ⟨b,a,δ,by rw [Ct];exact ha,z⟩
  ·rintro ⟨b,B,δ,j,z⟩
   rw [Ct]at j
   obtain ⟨a,ha,_⟩:=(H b).1 B j
   exact ⟨b,a,δ,by rw [Ct];exact ha,z⟩
 have x:∀{l:List (Option Block)} {b:Nat} {B:Block},(l[b]?).join=some B->l[b]?=some (some B):=fun {l b B} h=>by
  cases e:l[b]? with
  |none=>rw [e]at h;cases h
  |some o=>rw [e]at h;have h:o=some B:=h;rw [h]
 have C:∀r,AN μ' (Cv post (empty 0)) r->AN μ' (Cv post' (empty 0)) r:=fun r ⟨b,B,δ,j,z⟩=>by
  rw [Dt]at j
  obtain ⟨a,ha,_⟩:=(I b).1 B (x j)
  exact ⟨b,a,δ,by rw [Dt,ha];rfl,z⟩
 have P:AJ (ρ.sub τ) μ' (Cv post (empty 0)) w':=by
  refine v.rel.over (by rw [D8,D8,J]) rfl (by rw [(C5 post (empty 0)).2.1];exact Ao.AI.none _) fun b B hB=>?_
  rw [Dt]at hB
  obtain ⟨a,ha,hs⟩:=(I b).1 B (x hB)
  exact ⟨a,by rw [Dt,ha];rfl,fun o δ=>(EN hs).2⟩
 refine ⟨v.le,P,v.size,fun r N L=>?_,v.os,v.output,?_,fun b hb=>v.old b ?_,fun k o O=>?_,?_⟩
 ·obtain ⟨j,z⟩:=v.kept r N fun e=>L ((A r).1 e)
  exact ⟨j,fun e=>z (C r e)⟩
 ·have:=v.next
  rw [BU,D8]at this⊢
  show pre.length<=post.length
  have this:pre'.length<=post'.length:=this
  omega
 ·rw [BU]at hb⊢
  show b<pre'.length
  have hb:b<pre.length:=hb
  omega
 ·rcases v.icy k o O with q|q|q
  ·exact .inl q
  ·exact .inr (.inl ((A k).1 q))
  ·exact .inr (.inr q)
 ·rw [(C5 post (empty 0)).2.1,(BY pre (empty 0)).2.1]
theorem Holds.sub {P:Program} {g:FuncId} {x y:BR} (hs:x.sub τ=some y) (z:Holds P (ρ.sub τ) g x):Holds P ρ g y:=by
 unfold BR.sub at hs
 split at hs
 case h_2=>cases hs
 rename_i args pre res post J v A I
 simp only [oI]at hs
 subst hs
 refine ⟨z.1,fun μ w j H C=>(z.2 μ w j (Md v H) ((FL J).2 C)).mono fun e w' q=>?_⟩
 obtain ⟨μ',B,q⟩:=q
 refine ⟨μ',Kn v I B,?_⟩
 cases e
 case returned u=>exact (Hp A).1 (show Ah (ρ.sub τ) μ' x.res u from q)
 all_goals exact q.elim
theorem Holds.Sr {P:Program} {g:FuncId} {x y:BR} (hs:x.sub τ=some y) (v:Holds P ρ g y):Holds P (ρ.sub τ) g x:=by
 unfold BR.sub at hs
 split at hs
 case h_2=>cases hs
 rename_i args pre res post J z A I
 simp only [oI]at hs
 subst hs
 refine ⟨v.1,fun μ w j H C=>(v.2 μ w j (Js z H) ((FL J).1 C)).mono fun e w' q=>?_⟩
 obtain ⟨μ',B,q⟩:=q
 refine ⟨μ',Hl z I B,?_⟩
 cases e
 case returned u=>exact (Hp A).2 (show Ah ρ μ' res u from q)
 all_goals exact q.elim
def Me (τ:CI):List (Nat×Aa)->Option (List (Nat×Aa))
 |[]=>some []
 |v::r=>match v.2.Sy τ,Me τ r with
  |some a,some r=>some ((v.1,a)::r)
  |_,_=>none
def Aaw (τ:CI) (p:List (FuncId×List Aa)):Option (List (FuncId×List Aa)):=
 match p with
 |[]=>some []
 |[p]=>(OD τ p.2).map fun l=>[(p.1,l)]
 |_=>none
theorem Ig {l r:List (FuncId×List Aa)} (h:Aaw τ l=some r) {ds:List Deferred}:C6 (ρ.sub τ) μ l ds↔C6 ρ μ r ds:=by
 unfold Aaw at h
 split at h
 ·simp only [oI]at h
  subst h
  exact Iff.rfl
 ·obtain ⟨l,hl,rfl⟩:=mS h
  constructor
  ·rintro ⟨c,rest,e1,⟨cap,e2,e3⟩,e4⟩
   exact ⟨c,rest,e1,⟨cap,e2,(FL hl).1 e3⟩,e4⟩
  ·rintro ⟨c,rest,e1,⟨cap,e2,e3⟩,e4⟩
   exact ⟨c,rest,e1,⟨cap,e2,(FL hl).2 e3⟩,e4⟩
 ·cases h
def B7.sub (τ:CI) (k:B7):Option B7:=
 match Me τ k.X9,I4 τ k.pre,Me τ k.NY,I3 τ k.post,Aaw τ k.df with
 |some X9,some pre,some NY,some post,some df=>some ⟨k.id,X9,pre,NY,post,df,k.out⟩
 |_,_,_,_,_=>none
theorem OE:∀{l j:List (Nat×Aa)} {t t':Tr Aa},Me τ l=some j->(∀n,match t.get n with|some p=>∃a,t'.get n=some a/\p.Sy τ=some a|none=>t'.get n=none)->
  ∀n,match (O9 l t).get n with|some p=>∃a,(O9 j t').get n=some a/\p.Sy τ=some a|none=>(O9 j t').get n=none
 |[],j,t,t',h,ht,n=>by
  simp only [Me,oI]at h
  subst h
  exact ht n
 |v::r,j,t,t',h,ht,n=>by
  simp only [Me]at h
  split at h
  ·rename_i a q ha x
   simp only [oI]at h
   subst h
   show match (O9 r (t.set v.1 (some v.2))).get n with|some p=>∃b,(O9 q (t'.set v.1 (some a))).get n=some b/\p.Sy τ=some b|none=>(O9 q (t'.set v.1 (some a))).get n=none
   refine OE x (fun m=>?_) n
   rw [Tr.Bf,Tr.Bf]
   by_cases e:m=v.1
   ·rw [if_pos e,if_pos e];exact ⟨a,rfl,ha⟩
   ·rw [if_neg e,if_neg e];exact ht m
  ·cases h
theorem Ic {l A:List (Nat×Aa)} (h:Me τ l=some A) {a:Act}:AW (ρ.sub τ) μ (O9 l .nil) a↔AW ρ μ (O9 A .nil) a:=by
 have B:=OE (τ:=τ) (t:=.nil) (t':=.nil) h fun n=>rfl
 constructor
 ·intro z t
  have j:=B t
  have q:=z t
  cases e:(O9 l .nil).get t with
  |none=>rw [e]at j;simp only at j;rw [j];trivial
  |some p=>
   rw [e]at j q
   obtain ⟨b,v,x⟩:=j
   rw [v]
   exact (Hp x).1 q
 ·intro z t
  have j:=B t
  have q:=z t
  cases e:(O9 l .nil).get t with
  |none=>trivial
  |some p=>
   rw [e]at j
   obtain ⟨b,v,x⟩:=j
   rw [v]at q
   exact (Hp x).2 q
theorem DU.sub {P:Program} {nt:Nat} {x:Code} {k C:B7} (hs:k.sub τ=some C) (q:DU P (ρ.sub τ) nt x k):DU P ρ nt x C:=by
 unfold B7.sub at hs
 split at hs
 case h_2=>cases hs
 rename_i X9 pre NY post df L j H z A
 simp only [oI]at hs
 subst hs
 obtain ⟨n,q⟩:=q
 exact ⟨n,fun μ a w Q F I=>q μ a w Q ⟨(Ic L).2 F.tmps,F.size,Md j F.heap,(Ig A).2 F.defs⟩ fun μ' J w' v B=>I μ' J w' ⟨(Ic H).1 v.tmps,v.size,(Kn j z B).rel,(Ig A).1 v.defs⟩ (Kn j z B)⟩
theorem DU.Sr {P:Program} {nt:Nat} {x:Code} {k C:B7} (hs:k.sub τ=some C) (q:DU P ρ nt x C):DU P (ρ.sub τ) nt x k:=by
 unfold B7.sub at hs
 split at hs
 case h_2=>cases hs
 rename_i X9 pre NY post df L j H z A
 simp only [oI]at hs
 subst hs
 obtain ⟨n,q⟩:=q
 exact ⟨n,fun μ a w Q F I=>q μ a w Q ⟨(Ic L).1 F.tmps,F.size,Js j F.heap,(Ig A).1 F.defs⟩ fun μ' J w' v B=>I μ' J w' ⟨(Ic H).2 v.tmps,v.size,(Hl j z B).rel,(Ig A).2 v.defs⟩ (Hl j z B)⟩
end
noncomputable def JI (n:Nat):Nat->List Nat:=Nat.rec (motive:=fun _=>Nat->List Nat) (fun _=>[]) (fun _ ih i=>i::ih (i+1)) n
theorem JH:∀(n k i:Nat),(JI n k)[i]?=if i<n then some (k+i)else none
 |0,k,i=>by rw [if_neg (by omega)];show ([]:List Nat)[i]?=none;simp
 |n+1,k,i=>by
  show (k::JI n (k+1))[i]?=_
  cases i with
  |zero=>simp
  |succ i=>
   rw [List.getElem?_cons_succ,JH n (k+1) i]
   by_cases h:i<n
   ·rw [if_pos h,if_pos (by omega)];congr 1;omega
   ·rw [if_neg h,if_neg (by omega)]
noncomputable def AcE (Γ:Ao) (σ:List Nat) (p a:Aa):Bool:=
 match p,a with
 |.agg ps,.agg as=>Gx Γ σ ps as
 |.tuple ps,.tuple as=>KQ Γ σ ps as
 |p,a=>HM Γ σ p a
noncomputable def KN (Γ:Ao) (h:Ak) (σ:List Nat) (l:List (Option Block)):Nat->Bool:=
 List.rec (motive:=fun _=>Nat->Bool) (fun _=>true) (fun B _ ih i=>(match B with|some B=>eqB Γ h σ i B|none=>true)&&ih (i+1)) l
noncomputable def Xb (k:Nat) (l:List Nat):Bool:=List.rec (motive:=fun _=>Bool) true (fun n _ ih=>Nat.ble k n&&ih) l
noncomputable def Abe (Γ:Ao) (x:BR) (j:List Nat) (r:Option (NT×Ak)):Bool:=
 match r with
 |some (.ret v,h)=>Nat.beq (Ta x.post) (GG x.pre+I0 j)&&(IV j&&(Xb (GG x.pre) j&&(AcE Γ (JI (GG x.pre) 0++j) x.res v&&KN Γ h (JI (GG x.pre) 0++j) x.post 0)))
 |_=>false
section
variable {ρ:Env} {μ μ':Aq} {σ:List Nat}
theorem YD {Γ:Ao} (hΓ:Γ.AI ρ) (R:Ren μ' μ σ) {p a:Aa} (h:AcE Γ σ p a=true) {u:Value} (j:Ah ρ μ a u):Ah ρ μ' p u:=by
 unfold AcE at h
 split at h
 ·obtain ⟨x,e,q⟩:=j.agg
  subst e
  simp only [Ah]
  exact ⟨x,rfl,KM hΓ R h q⟩
 ·obtain ⟨x,e,q⟩:=j.tuple
  subst e
  simp only [Ah]
  exact ⟨x,rfl,Gy hΓ R h q⟩
 ·exact (Eg hΓ R h j).1
theorem T6 {Γ:Ao} {h:Ak} (W:Option Block) (r:List (Option Block)) (k:Nat):KN Γ h σ (W::r) k=((match W with|some B=>eqB Γ h σ k B|none=>true)&&KN Γ h σ r (k+1)):=rfl
theorem Nn {Γ:Ao} {h:Ak}:∀{l:List (Option Block)} {k:Nat},KN Γ h σ l k=true->∀i B,l[i]?=some (some B)->∃b A,Cb σ (k+i)=some b/\h.get b=some A/\Nr Γ σ B A=true
 |[],_,_,i,vs,hv=>by simp at hv
 |W::r,k,hb,i,B,hv=>by
  rw [T6,aT]at hb
  cases i with
  |zero=>
   simp only [List.getElem?_cons_zero,oI]at hv
   subst hv
   have j:=hb.1
   simp only at j
   unfold eqB at j
   split at j
   ·rename_i b q
    split at j
    ·rename_i A z
     exact ⟨b,A,q,z,j⟩
    ·cases j
   ·cases j
  |succ i=>
   obtain ⟨b,A,j,v,x⟩:=Nn hb.2 i B (by simpa using hv)
   exact ⟨b,A,by rw [<-j];congr 1;omega,v,x⟩
theorem K8 {k:Nat}:∀{l:List Nat},Xb k l=true->∀n∈l,k<=n
 |[],_,n,hn=>by cases hn
 |m::r,h,n,hn=>by
  have h:(Nat.ble k m&&Xb k r)=true:=h
  rw [aT]at h
  rcases List.mem_cons.1 hn with rfl|hn
  ·exact AP.1 h.1
  ·exact K8 h.2 n hn
theorem shown {Γ:Ao} (hΓ:Γ.AI ρ) {pre:List Block} {post:List (Option Block)} {M:List Nat} {d:Nat} {h:Ak} {w w':World} {C:Aq} (ak:post.length=pre.length+M.length) (ah:M.Nodup) (aa:∀n∈M,pre.length<=n) (O:KN Γ h (JI pre.length 0++M) post 0=true)
  (H:AJ ρ μ (AY pre (empty 0)) w) (g1:Au ρ μ (AY pre (empty d Γ)) w C h w'):∃μ',Au ρ μ (AY pre (empty 0)) w μ' (Cv post (empty 0)) w'/\Ren μ' C (JI pre.length 0++M):=by
 generalize hσ:JI pre.length 0++M=σ at O⊢
 have af:(JI pre.length 0).length=pre.length:=by
  apply Nat.le_antisymm
  ·rcases Nat.lt_or_ge pre.length (JI pre.length 0).length with hlt|hge
   ·have:=List.getElem?_eq_getElem hlt
    rw [JH,if_neg (by omega)]at this
    cases this
   ·exact hge
  ·rcases Nat.lt_or_ge (JI pre.length 0).length pre.length with hlt|hge
   ·have:=List.getElem?_eq_none (Nat.le_refl (JI pre.length 0).length)
    rw [JH,if_pos hlt]at this
    cases this
   ·exact hge
 have v:∀i b,Cb σ i=some b↔(i<pre.length/\b=i)∨(pre.length<=i/\M[i-pre.length]?=some b):=fun i b=>by
  rw [<-hσ,Fw]
  by_cases X:i<pre.length
  ·rw [List.getElem?_append_left (by omega),JH,if_pos X]
   simp only [Nat.zero_add,oI]
   constructor
   ·intro e;exact .inl ⟨X,e.symm⟩
   ·rintro (⟨_,e⟩|⟨e,_⟩)
    ·exact e.symm
    ·omega
  ·rw [List.getElem?_append_right (by omega),af]
   constructor
   ·intro e;exact .inr ⟨by omega,e⟩
   ·rintro (⟨e,_⟩|⟨_,e⟩)
    ·omega
    ·exact e
 have ac:∀i j b,Cb σ i=some b->Cb σ j=some b->i=j:=fun i j b X hj=>by
  rcases (v i b).1 X with ⟨h1,h2⟩|⟨h1,h2⟩<;>rcases (v j b).1 hj with ⟨h3,h4⟩|⟨h3,h4⟩
  ·omega
  ·have:=aa b (List.mem_of_getElem? h4);omega
  ·have:=aa b (List.mem_of_getElem? h2);omega
  ·obtain ⟨l1,e1⟩:=List.getElem?_eq_some_iff.1 h2
   obtain ⟨l2,e2⟩:=List.getElem?_eq_some_iff.1 h4
   have:=(List.getElem_inj ah).1 (e1.trans e2.symm)
   omega
 have Q:∀r,AN μ (AY pre (empty d Γ)) r↔AN μ (AY pre (empty 0)) r:=fun r=>by
  unfold AN
  simp only [Ct]
 let μ':Aq:=⟨fun i=>(Cb σ i).bind C.spot,C.AX⟩
 have R:Ren μ' C σ:=⟨fun i b e=>by show (Cb σ i).bind C.spot=_;rw [e];rfl,rfl⟩
 have P:∀{l:List (Option Block)} {b:Nat} {B:Block},(l[b]?).join=some B->l[b]?=some (some B):=fun {l b B} h=>by
  cases e:l[b]? with
  |none=>rw [e]at h;cases h
  |some o=>rw [e]at h;have h:o=some B:=h;rw [h]
 have x:∀i B,(Cv post (empty 0)).get i=some B->∃b A,Cb σ i=some b/\h.get b=some A/\Nr Γ σ B A=true:=fun i B hB=>by
  rw [Dt]at hB
  obtain ⟨b,A,I,N,k3⟩:=Nn O i B (P hB)
  exact ⟨b,A,by rw [<-I,Nat.zero_add],N,k3⟩
 have V:∀b,b<pre.length->μ' b=μ b:=fun b hb=>by
  have e:Cb σ b=some b:=(v b b).2 (.inl ⟨hb,rfl⟩)
  rw [R.spot b b e,g1.old b (by rw [BU];exact hb)]
 have L:∀r,AN μ' (Cv post (empty 0)) r->AN C h r:=fun r ⟨i,B,δ,J,z⟩=>by
  obtain ⟨b,A,I,N,_⟩:=x i B J
  rw [R.spot i b I]at z
  exact ⟨b,A,δ,N,z⟩
 refine ⟨μ',⟨⟨fun b y hy=>?_,g1.le.AX⟩,⟨fun b hb=>?_,fun b B hB=>?_,fun b b' B B' r δ δ' hb aj hm Y=>?_,⟨fun k o U=>?_,fun k o U=>?_,?_⟩⟩,g1.size,fun r hr ho=>?_,g1.os,g1.output,?_,fun b hb=>?_,fun k o U=>?_,?_⟩,R⟩
 ·have hb:b<pre.length:=by
   rcases Nat.lt_or_ge b pre.length with hlt|hge
   ·exact hlt
   ·rw [H.fresh b (by rw [BU];exact hge)]at hy;cases hy
  rw [V b hb];exact hy
 ·rw [D8]at hb
  show (Cb σ b).bind C.spot=none
  cases e:Cb σ b with
  |none=>rfl
  |some c=>
   rcases (v b c).1 e with ⟨q,_⟩|⟨J,z⟩
   ·omega
   ·have:=(List.getElem?_eq_some_iff.1 z).1;omega
 ·obtain ⟨c,A,I,N,k3⟩:=x b B hB
  obtain ⟨r,δ,m1,m2⟩:=g1.rel.blk c A N
  exact ⟨r,δ,by rw [R.spot b c I];exact m1,Py hΓ R k3 m2⟩
 ·obtain ⟨c,A,I,N,_⟩:=x b B hb
  obtain ⟨c',A',Z,ag,_⟩:=x b' B' aj
  rw [R.spot b c I]at hm
  rw [R.spot b' c' Z]at Y
  have:=g1.rel.inj _ _ _ _ _ _ _ N ag hm Y
  subst this
  exact ac b b' c I Z
 ·obtain ⟨J,z⟩:=g1.rel.AQ.AQ k o U
  exact ⟨J,fun q=>z (L k q)⟩
 ·obtain ⟨J,z⟩:=g1.rel.AQ.AX k o U
  exact ⟨J,fun q=>z (L k q)⟩
 ·rw [(C5 post (empty 0)).2.1];exact Ao.AI.none ρ
 ·obtain ⟨J,z⟩:=g1.kept r hr fun q=>ho ((Q r).1 q)
  exact ⟨J,fun q=>z (L r q)⟩
 ·rw [BU,D8];omega
 ·rw [BU]at hb
  exact V b hb
 ·rcases g1.icy k o U with q|q|q
  ·exact .inl q
  ·exact .inr (.inl ((Q k).1 q))
  ·exact .inr (.inr q)
 ·rw [(C5 post (empty 0)).2.1,(BY pre (empty 0)).2.1]
theorem AJ.withFacts {Γ:Ao} (hΓ:Γ.AI ρ) {pre:List Block} {d:Nat} {w:World} (H:AJ ρ μ (AY pre (empty 0)) w):AJ ρ μ (AY pre (empty d Γ)) w:=by
 refine H.over (by rw [BU,BU]) rfl (by rw [(BY pre (empty d Γ)).2.1];exact hΓ) fun b B hB=>?_
 rw [Ct]at hB
 exact ⟨B,by rw [Ct];exact hB,fun o δ h=>h⟩
theorem Rq {P:Program} {Γ:Ao} (hΓ:Γ.AI ρ) {g:FuncId} {call:Bm} (hc:Cy P ρ g call) {x:BR} {d:Nat} {M:List Nat} (j:Abe Γ x M (call x.args (AY x.pre (empty d Γ)))=true):Holds P ρ g x:=by
 unfold Abe at j
 split at j
 case h_2=>cases j
 rename_i v h q
 rw [aT,aT,aT,aT,An,Gn,EO,Dg]at j
 obtain ⟨I,J,L,C,A⟩:=j
 refine ⟨(hc x.args _ _ _ q).1,fun μ w z H O=>?_⟩
 refine ((hc x.args _ _ _ q).2 μ w z (H.withFacts hΓ) O).mono fun e w' B=>?_
 obtain ⟨Q,g1,B⟩:=B
 obtain ⟨μ',N,R⟩:=shown hΓ I (EX J) (K8 L) A H g1
 refine ⟨μ',N,?_⟩
 cases e
 case returned u=>exact YD hΓ R C (show Ah ρ Q v u from B)
 all_goals exact B.elim
def Cn (P:Program) (ρ:Env) (g:FuncId) (k:B7):Prop:=∀fn c,P.funcs[g]?=some fn->fn.body=some c->∀y∈Dh 0 c,y.1=k.id->DU P ρ fn.ntmps y.2 k
theorem UZ {P:Program} {g:FuncId} {l:List B7} (h:∀k∈l,Cn P ρ g k):∀fn c,P.funcs[g]?=some fn->fn.body=some c->Dz P ρ fn.ntmps l 0 c:=
 fun fn c hf hc y q k j e=>h k j fn c hf hc y q e.symm
noncomputable def Xe (c:IC):Nat->List (Nat×IC):=
 IC.rec (motive:=fun _=>Nat->List (Nat×IC)) (fun _=>[]) (fun _ _ _=>[]) (fun _ _ a b k=>a k++b k) (fun _ _ _ a b k=>a k++b k) (fun id _ b _=>b id) (fun b ih k=>(k,b)::ih k) (fun _ _=>[]) (fun _=>[]) c
theorem Vk {P:Program} {pl:List Cq} {nt:Nat}:∀{c:Code} {B:IC} {k:Nat},AV P pl nt c=some B->∀y∈Dh k c,∃H,AV P pl nt y.2=some H/\(y.1,H)∈Xe B k:=by
 intro c
 induction c with
 |seq a b iha ihb=>
  intro B k h y j
  simp only [AV]at h
  split at h
  ·rename_i C J A I
   simp only [oI]at h
   subst h
   rcases List.mem_append.1 j with j|j
   ·obtain ⟨x,q,z⟩:=iha A y j
    exact ⟨x,q,List.mem_append_left _ z⟩
   ·obtain ⟨x,q,z⟩:=ihb I y j
    exact ⟨x,q,List.mem_append_right _ z⟩
  ·cases h
 |cond v a b iha ihb=>
  intro B k h y j
  simp only [AV]at h
  split at h
  ·rename_i C J A I
   simp only [oI]at h
   subst h
   rcases List.mem_append.1 j with j|j
   ·obtain ⟨x,q,z⟩:=iha A y j
    exact ⟨x,q,List.mem_append_left _ z⟩
   ·obtain ⟨x,q,z⟩:=ihb I y j
    exact ⟨x,q,List.mem_append_right _ z⟩
  ·cases h
 |block id b ih=>
  intro B k h y j
  simp only [AV]at h
  obtain ⟨C,A,e⟩:=mS h
  subst e
  exact ih A y j
 |loop b ih=>
  intro B k h y j
  simp only [AV]at h
  obtain ⟨C,A,e⟩:=mS h
  subst e
  rcases List.mem_cons.1 j with rfl|j
  ·exact ⟨C,A,List.mem_cons_self⟩
  ·obtain ⟨x,q,z⟩:=ih A y j
   exact ⟨x,q,List.mem_cons_of_mem _ z⟩
 |_=>intro B k h y j;simp [Dh]at j
noncomputable def WR (id:Nat) (l:List (Nat×IC)):List IC:=List.rec (motive:=fun _=>List IC) [] (fun x _ ih=>bif Nat.beq x.1 id then x.2::ih else ih) l
theorem Kw {id:Nat} {x:IC}:∀{l:List (Nat×IC)},(id,x)∈l->x∈WR id l
 |[],h=>by cases h
 |y::r,h=>by
  show x∈(bif Nat.beq y.1 id then y.2::WR id r else WR id r)
  rw [AH]
  rcases List.mem_cons.1 h with rfl|h
  ·rw [if_pos rfl];exact List.mem_cons_self
  ·split
   ·exact List.mem_cons_of_mem _ (Kw h)
   ·exact Kw h
def V6 (k:B7) (e:Bc):Bool:=
 match e with
 |.exit i=>!k.out&&Nat.beq i k.id
 |.ret=>k.out
 |_=>false
theorem YB {k:B7} {e:Bc} (h:V6 k e=true):e=k.Nh:=by
 unfold V6 at h
 unfold B7.Nh
 split at h
 ·rw [aT,An]at h
  obtain ⟨j,rfl⟩:=h
  cases hk:k.out<;>rw [hk]at j
  ·rfl
  ·cases j
 ·rw [h];rfl
 ·cases h
noncomputable def UC (Γ:Ao) (k:B7) (j:List Nat) (r:Option (Bc×Fr)):Bool:=
 match r with
 |some (e,f)=>V6 k e&&(Aeu Γ (JI (GG k.pre) 0++j) k.df f.df&&(Nat.beq (Ta k.post) (GG k.pre+I0 j)&&(IV j&&(Xb (GG k.pre) j&&(Xi Γ (JI (GG k.pre) 0++j) f.tm k.NY&&KN Γ f.h (JI (GG k.pre) 0++j) k.post 0)))))
 |_=>false
noncomputable def Re (Γ:Ao) (call:Co) (fuel d:Nat) (F:E4) (k:B7):Option (Bc×Fr):=
 match WR k.id (Xe F.body 0)with
 |[b]=>iter (fun f=>IA Γ k.id f Γ.loops) (fun f=>F6 Γ call fuel b k.id f) fuel ⟨O9 k.X9 .nil,AY k.pre (empty d Γ),k.df⟩
 |_=>none
theorem Oj {P:Program} {pl:List Cq} {Γ:Ao} (hΓ:Γ.AI ρ) {call:Co} (hc:BC P ρ call) (V:P.follows .mixedOrders=true) {DG:FuncId->Option E4} (ht:PI P pl DG) {g:FuncId} {F:E4} (hF:DG g=some F) (hl:∀k∈Γ.loops,Cn P ρ g k)
  {fuel d:Nat} {k:B7} {nw:List Nat} (j:UC Γ k nw (Re Γ call fuel d F k)=true):Cn P ρ g k:=by
 intro fn c hf I y hy B
 obtain ⟨ay,H,O,_⟩:=ht g F hF
 rw [hf]at H
 simp only [oI]at H
 subst H
 obtain ⟨c',M,ag,_⟩:=DR O
 rw [I]at M
 simp only [oI]at M
 subst M
 obtain ⟨ax,hx,A⟩:=Vk ag y hy
 rw [B]at A
 have A:=Kw A
 unfold Re at j
 split at j
 case h_2=>cases j
 rename_i b hb
 rw [hb,List.mem_singleton]at A
 subst A
 unfold UC at j
 split at j
 case h_2=>cases j
 rename_i i f ah
 rw [aT,aT,aT,aT,aT,aT,An,Gn,EO,Dg]at j
 obtain ⟨aj,af,Y,ai,ak,aa,U⟩:=j
 have Z:Dz P ρ fn.ntmps Γ.loops k.id y.2:=fun z hz X C e=>by
  refine hl X C fn c hf I z ?_ e.symm
  have sub:∀(c:Code) (cur:Nat),y∈Dh cur c->z∈Dh cur c:=by
   intro c
   induction c with
   |seq a b iha ihb=>intro cur h;rcases List.mem_append.1 h with h|h;exact List.mem_append_left _ (iha _ h);exact List.mem_append_right _ (ihb _ h)
   |cond v a b iha ihb=>intro cur h;rcases List.mem_append.1 h with h|h;exact List.mem_append_left _ (iha _ h);exact List.mem_append_right _ (ihb _ h)
   |block id b ih=>intro cur h;exact ih _ h
   |loop b ih=>
    intro cur h
    rcases List.mem_cons.1 h with e|h
    ·subst e
     refine List.mem_cons_of_mem _ ?_
     have B:cur=k.id:=B
     rw [B]
     exact hz
    ·exact List.mem_cons_of_mem _ (ih _ h)
   |_=>intro cur h;simp [Dh]at h
  exact sub c 0 hy
 obtain ⟨m,hm⟩:=EV (nt:=fn.ntmps) (x:=y.2) hΓ (fun X C e=>hl X C fn c hf I y hy (by rw [B,e])) (fun ae F L=>HK hΓ hc V y.2 Z hx ae F L) fuel ah
 refine ⟨m,fun μ a w Q J hQ=>hm ⟨J.tmps,J.size,J.heap.withFacts hΓ,J.defs⟩ ?_⟩
 intro μ1 a' w' e F1 g1 N
 rw [YB aj]at N
 have N:=B7.Aet N
 subst N
 obtain ⟨μ',g',R⟩:=shown hΓ Y (EX ai) (K8 ak) U J.heap g1
 refine hQ μ' a' w' ⟨fun t=>?_,F1.size,g'.rel,?_⟩ g'
 ·show Ah ρ μ' (Eu ((O9 k.NY .nil).get t)) _
  cases hg:(O9 k.NY .nil).get t with
  |none=>trivial
  |some v=>
   rcases PR _ _ _ _ hg with q|q
   ·exact KR hΓ R (KL aa t v q) (F1.tmps t)
   ·cases q
 ·exact TA hΓ R af F1.defs
theorem Cn.sub {P:Program} {τ:CI} {g:FuncId} {k j:B7} (hs:k.sub τ=some j) (x:Cn P (ρ.sub τ) g k):Cn P ρ g j:=fun fn c hf hc y v e=>by
 have q:j.id=k.id:=by
  unfold B7.sub at hs
  split at hs
  ·simp only [oI]at hs;subst hs;rfl
  ·cases hs
 exact DU.sub hs (x fn c hf hc y v (by rw [e,q]))
theorem Cn.Sr {P:Program} {τ:CI} {g:FuncId} {k j:B7} (hs:k.sub τ=some j) (x:Cn P ρ g j):Cn P (ρ.sub τ) g k:=fun fn c hf hc y v e=>by
 have q:j.id=k.id:=by
  unfold B7.sub at hs
  split at hs
  ·simp only [oI]at hs;subst hs;rfl
  ·cases hs
 exact DU.Sr hs (x fn c hf hc y v (by rw [e,q]))
end
end
section
structure CN where
 n:Nat:=0
 s:Nat:=0
 l:Nat:=0
 m:Nat:=0
def CN.add (a b:CN):CN:=⟨a.n+b.n,a.s+b.s,a.l+b.l,a.m+b.m⟩
def CN.eq (a b:CN):Bool:=Nat.beq a.n b.n&&(Nat.beq a.s b.s&&(Nat.beq a.l b.l&&Nat.beq a.m b.m))
structure Aj where
 n:List Int:=[]
 s:List (List Nat):=[]
 l:List (List (List PV)):=[]
 m:List (List (List Nat×List PV)):=[]
def Aj.app (a b:Aj):Aj:=⟨a.n++b.n,a.s++b.s,a.l++b.l,a.m++b.m⟩
def Aj.cnt (v:Aj):CN:=⟨v.n.length,v.s.length,v.l.length,v.m.length⟩
def Aj.env (T:Nat->Option Obj) (v:Aj):Env:=Env.of T v.n v.s v.l v.m
def Aj.e (v:Aj):Env:=v.env fun _=>none
def Nc {α:Type} (d:α):Nat->Nat->List α->List α
 |0,_,_=>[]
 |k+1,i,l=>l.getD i d::Nc d k (i+1) l
def Aj.fit (c:CN) (v:Aj):Aj:=⟨Nc 0 c.n 0 v.n,Nc [] c.s 0 v.s,Nc [] c.l 0 v.l,Nc [] c.m 0 v.m⟩
def CI.vals (τ:CI) (ρ:Env):Aj:=⟨τ.n.map (·.den ρ),τ.s.map (Bq ρ),τ.l.map ρ.lst,τ.m.map ρ.map⟩
def CI.cnt (τ:CI):CN:=⟨τ.n.length,τ.s.length,τ.l.length,τ.m.length⟩
def CI.app (a b:CI):CI:=⟨a.n++b.n,a.s++b.s,a.l++b.l,a.m++b.m⟩
def MZ {α:Type} (f:Nat->α):Nat->Nat->List α
 |0,_=>[]
 |k+1,i=>f i::MZ f k (i+1)
def Jr (c d:CN):CI:=⟨MZ .var d.n c.n,MZ .svar d.s c.s,MZ id d.l c.l,MZ id d.m c.m⟩
inductive CK where
 |int (k:IntKind)
 |bool
 |str
 |list (es:Nat)
 |nilp
def CK.cnt:CK->CN
 |.int _=>{n:=1}
 |.bool=>{n:=1}
 |.str=>{s:=1}
 |.list _=>{n:=1,l:=1}
 |.nilp=>{}
def b01 (b:Bool):Int:=bif b then 1 else 0
def CK.read:CK->PV->Option Aj
 |.int k,.int k' n=>bif Vh k k' then some {n:=[n]}else none
 |.bool,.bool b=>some {n:=[b01 b]}
 |.str,.str s=>some {s:=[s]}
 |.list es,.list es' l=>bif Nat.beq es es' then some {n:=[(l.length:Int)],l:=[l]}else none
 |.nilp,.nilp=>some {}
 |_,_=>none
def CK.val (c:CN):CK->Aa
 |.int k=>.int k (.var c.n)
 |.bool=>.bool (.cmp .neq (.var c.n) (.lit 0))
 |.str=>.svar c.s
 |.list es=>.lst false c.l es (.var c.n)
 |.nilp=>.nilPtr
def HQ:List CK->CN
 |[]=>{}
 |k::r=>k.cnt.add (HQ r)
def CP:List CK->List PV->Option Aj
 |[],[]=>some {}
 |k::sh,p::ps=>match k.read p with
  |some a=>(match CP sh ps with|some b=>some (a.app b) |none=>none)
  |none=>none
 |_,_=>none
def N6:List CK->CN->List Aa
 |[],_=>[]
 |k::r,c=>k.val c::N6 r (c.add k.cnt)
def MM:List CK->CN->List (Nat×ST)
 |[],_=>[]
 |k::r,c=>match k with
  |.list _=>(c.l,.var c.n)::MM r (c.add k.cnt)
  |_=>MM r (c.add k.cnt)
def GS (ρ:Env):CK->Aa->Option PV
 |.int k,.int k' t=>bif Vh k k' then some (.int k (t.den ρ))else none
 |.bool,.bool b=>some (.bool (b.den ρ))
 |.str,.str s=>some (.str s)
 |.str,.svar i=>some (.str (ρ.str i))
 |.list es,.nilSlice=>some (.list es [])
 |.list es,.lst _ i es' _=>bif Nat.beq es es' then some (.list es (ρ.lst i))else none
 |.nilp,.nilPtr=>some .nilp
 |_,_=>none
def Cw (ρ:Env):List CK->List Aa->Option (List PV)
 |[],[]=>some []
 |k::sh,a::as=>match GS ρ k a with
  |some p=>(match Cw ρ sh as with|some ps=>some (p::ps) |none=>none)
  |none=>none
 |_,_=>none
def GP (ρ:Env) (j:List CK):List (List Aa)->Option (List (List PV))
 |[]=>some []
 |a::as=>match Cw ρ j a with
  |some p=>(match GP ρ j as with|some ps=>some (p::ps) |none=>none)
  |none=>none
def Dq (ρ:Env) (j:List CK):AK->Option (List (List PV))
 |.els es=>GP ρ j es
 |.all i=>some (ρ.lst i)
 |.take i n=>if 0<=n.den ρ/\n.den ρ<=((ρ.lst i).length:Int)then some ((ρ.lst i).take (n.den ρ).toNat)else none
 |.drop i n=>if 0<=n.den ρ/\n.den ρ<=((ρ.lst i).length:Int)then some ((ρ.lst i).drop (n.den ρ).toNat)else none
def C3 (ρ:Env) (j:List CK):List AK->Option (List (List PV))
 |[]=>some []
 |p::ps=>match Dq ρ j p with
  |some a=>(match C3 ρ j ps with|some b=>some (a++b) |none=>none)
  |none=>none
def CB (ρ:Env) (j:List CK):List (Aa×List Aa)->Option (List (List Nat×List PV))
 |[]=>some []
 |x::r=>match Cw ρ j x.2 with
  |some p=>(match CB ρ j r with|some ps=>some ((Bq ρ x.1,p)::ps) |none=>none)
  |none=>none
def LZ (op:BinOp) (x y:Int):Prop:=
 match op with
 |.eql=>x=y
 |.neq=>x≠y
 |.lss=>x<y
 |.leq=>x<=y
 |.gtr=>x>y
 |_=>x>=y
instance AiR (op:BinOp) (x y:Int):Decidable (LZ op x y):=
 match op with
 |.eql=>inferInstanceAs (Decidable (x=y))
 |.neq=>inferInstanceAs (Decidable (x≠y))
 |.lss=>inferInstanceAs (Decidable (x<y))
 |.leq=>inferInstanceAs (Decidable (x<=y))
 |.gtr=>inferInstanceAs (Decidable (x>y))
 |.geq|.add|.sub|.mul|.quo|.rem|.and|.or|.xor|.shl|.shr|.andNot=>inferInstanceAs (Decidable (x>=y))
inductive Tree where
 |fail
 |leaf (alt:Nat) (nw:List Nat) (τ:CI)
 |test (op:BinOp) (a b:ST) (t e:Tree)
 |B9 (i:Nat) (n:Int) (t e:Tree)
 |sets (i:Nat) (s:List Nat) (t e:Tree)
 |elem (l:Nat) (j:ST) (sh:List CK) (k:Tree)
 |Bs (l:Nat) (t:ST) (k:Tree)
 |BT (s lo hi:Nat) (k:Tree)
 |FN (x y:Aa) (t e:Tree)
 |cat (x y:Aa) (k:Tree)
 |JY (ps:List AK) (sh:List CK) (k:Tree)
 |look (m:Nat) (key:Aa) (sh:List CK) (t e:Tree)
 |up (m:Nat) (key:Aa) (cs:List Aa) (sh:List CK) (k:Tree)
 |K4 (es:List (Aa×List Aa)) (sh:List CK) (k:Tree)
 |bump (t:ST) (n:Nat) (k:Tree)
 |Ou (z:Nat×Nat×Nat×Nat×Nat) (k:Tree)
 |call (c alt:Nat) (τ:CI) (o:CN) (k e:Tree)
abbrev Out:=Nat×Aj
abbrev Wc:=Nat->Aj->Option Out
def Nu (l:List (List PV)) (j:Int) (q:List CK) (k:Aj->Option Out):Option Out:=
 if 0<=j then (match l[j.toNat]? with|some ps=>(match CP q ps with|some w=>k (w.fit (HQ q)) |none=>none) |none=>none)else none
def IX (m:List (List Nat×List PV)) (s:List Nat) (j:List CK) (k:Aj->Option Out) (e:Option Out):Option Out:=
 match Bj m s with
 |some ps=>(match CP j ps with|some w=>k (w.fit (HQ j)) |none=>none)
 |none=>e
def Lz (r:Option Out) (j:Nat) (o:CN) (k:Aj->Option Out) (e:Option Out):Option Out:=
 match r with
 |some w=>if w.1=j then k (w.2.fit o)else e
 |none=>none
def Hv {α:Type} (r:Option α) (k:α->Option Out):Option Out:=
 match r with
 |some a=>k a
 |none=>none
def Tree.eval (M:Wc):Tree->Aj->Option Out
 |.fail,_=>none
 |.leaf alt _ τ,v=>some (alt,τ.vals v.e)
 |.test op a b t e,v=>if LZ op (a.den v.e) (b.den v.e)then t.eval M v else e.eval M v
 |.B9 i n t e,v=>if v.n.getD i 0=n then t.eval M v else e.eval M v
 |.sets i s t e,v=>if v.s.getD i []=s then t.eval M v else e.eval M v
 |.elem l j sh k,v=>Nu (v.l.getD l []) (j.den v.e) sh fun w=>k.eval M (v.app w)
 |.Bs l t k,v=>if t.den v.e=((v.l.getD l []).length:Int)then k.eval M v else none
 |.BT s lo hi k,v=>if lo<=(v.s.getD s []).length/\(v.s.getD s []).length<=hi then k.eval M (v.app {n:=[((v.s.getD s []).length:Int)]})else none
 |.FN x y t e,v=>if Bq v.e x=Bq v.e y then t.eval M v else e.eval M v
 |.cat x y k,v=>if (Bq v.e x).length+(Bq v.e y).length<=1048576 then k.eval M (v.app {s:=[Bq v.e x++Bq v.e y]})else none
 |.JY ps sh k,v=>Hv (C3 v.e sh ps) fun l=>k.eval M (v.app {n:=[(l.length:Int)],l:=[l]})
 |.look m key sh t e,v=>IX (v.m.getD m []) (Bq v.e key) sh (fun w=>t.eval M (v.app w)) (e.eval M v)
 |.up m key cs sh k,v=>Hv (Cw v.e sh cs) fun ps=>k.eval M (v.app {m:=[By (v.m.getD m []) (Bq v.e key) ps]})
 |.K4 es sh k,v=>Hv (CB v.e sh es) fun l=>k.eval M (v.app {m:=[l]})
 |.bump t n k,v=>if t.den v.e+n<=1048576 then k.eval M (v.app {n:=[t.den v.e+n]})else none
 |.Ou _ k,v=>k.eval M v
 |.call c alt τ o k e,v=>Lz (M c (τ.vals v.e)) alt o (fun w=>k.eval M (v.app w)) (e.eval M v)
def mir (trees:Nat->Tree):Nat->Wc
 |0,_,_=>none
 |N+1,c,v=>(trees c).eval (mir trees N) v
def ST.Ce (n:Nat):ST->Bool
 |.lit _=>true
 |.var i=>Nat.blt i n
 |.bin _ _ a b=>a.Ce n&&b.Ce n
 |.conv _ a=>a.Ce n
def SB.Ce (n:Nat):SB->Bool
 |.lit _=>true
 |.cmp _ a b=>a.Ce n&&b.Ce n
 |.no a=>a.Ce n
def Aa.Ce (c:CN):Aa->Bool
 |.bool b=>b.Ce c.n
 |.int _ t=>t.Ce c.n
 |.str _=>true
 |.svar i=>Nat.blt i c.s
 |.lst f i _ t=>!f&&(Nat.blt i c.l&&t.Ce c.n)
 |.nilPtr=>true
 |.nilSlice=>true
 |_=>false
def BX {α:Type} (p:α->Bool):List α->Bool
 |[]=>true
 |a::r=>p a&&BX p r
def AK.Ce (c:CN):AK->Bool
 |.els es=>BX (BX (Aa.Ce c)) es
 |.all i=>Nat.blt i c.l
 |.take i n=>Nat.blt i c.l&&n.Ce c.n
 |.drop i n=>Nat.blt i c.l&&n.Ce c.n
def Mg (c:CN) (a:Aa):Bool:=a.isStr&&a.Ce c
def CI.Ce (c:CN) (τ:CI):Bool:=BX (ST.Ce c.n) τ.n&&(BX (Mg c) τ.s&&(BX (fun i=>Nat.blt i c.l) τ.l&&BX (fun i=>Nat.blt i c.m) τ.m))
def Tree.Ce:Tree->CN->Bool
 |.fail,_=>true
 |.leaf _ _ τ,c=>τ.Ce c
 |.test _ a b t e,c=>a.Ce c.n&&(b.Ce c.n&&(t.Ce c&&e.Ce c))
 |.B9 i _ t e,c=>Nat.blt i c.n&&(t.Ce c&&e.Ce c)
 |.sets i _ t e,c=>Nat.blt i c.s&&(t.Ce c&&e.Ce c)
 |.elem l j sh k,c=>Nat.blt l c.l&&(j.Ce c.n&&k.Ce (c.add (HQ sh)))
 |.Bs l t k,c=>Nat.blt l c.l&&(t.Ce c.n&&k.Ce c)
 |.BT s _ _ k,c=>Nat.blt s c.s&&k.Ce (c.add {n:=1})
 |.FN x y t e,c=>Mg c x&&(Mg c y&&(t.Ce c&&e.Ce c))
 |.cat x y k,c=>Mg c x&&(Mg c y&&k.Ce (c.add {s:=1}))
 |.JY ps _ k,c=>BX (AK.Ce c) ps&&k.Ce (c.add {n:=1,l:=1})
 |.look m key sh t e,c=>Nat.blt m c.m&&(Mg c key&&(t.Ce (c.add (HQ sh))&&e.Ce c))
 |.up m key cs _ k,c=>Nat.blt m c.m&&(Mg c key&&(BX (Aa.Ce c) cs&&k.Ce (c.add {m:=1})))
 |.K4 es _ k,c=>BX (fun x:Aa×List Aa=>Mg c x.1&&BX (Aa.Ce c) x.2) es&&k.Ce (c.add {m:=1})
 |.bump t _ k,c=>t.Ce c.n&&k.Ce (c.add {n:=1})
 |.Ou _ k,c=>k.Ce c
 |.call _ _ τ o k e,c=>τ.Ce c&&(k.Ce (c.add o)&&e.Ce c)
def At (vf:Aj) (c:CN) (w:Aj):Prop:=∃v r:Aj,v.cnt=c/\vf=(v.app w).app r
def Tree.sem (M:Wc) (vf:Aj):Tree->CN->Out->Prop
 |.fail,_,_=>False
 |.leaf alt _ τ,_,o=>o=(alt,τ.vals vf.e)
 |.test op a b t e,c,o=>(LZ op (a.den vf.e) (b.den vf.e)/\t.sem M vf c o)∨(¬LZ op (a.den vf.e) (b.den vf.e)/\e.sem M vf c o)
 |.B9 i n t e,c,o=>(vf.n.getD i 0=n/\t.sem M vf c o)∨(vf.n.getD i 0≠n/\e.sem M vf c o)
 |.sets i s t e,c,o=>(vf.s.getD i []=s/\t.sem M vf c o)∨(vf.s.getD i []≠s/\e.sem M vf c o)
 |.elem l j sh k,c,o=>0<=j.den vf.e/\∃ps w,(vf.l.getD l [])[(j.den vf.e).toNat]?=some ps/\CP sh ps=some w/\At vf c w/\k.sem M vf (c.add (HQ sh)) o
 |.Bs l t k,c,o=>t.den vf.e=((vf.l.getD l []).length:Int)/\k.sem M vf c o
 |.BT s lo hi k,c,o=>lo<=(vf.s.getD s []).length/\(vf.s.getD s []).length<=hi/\At vf c {n:=[((vf.s.getD s []).length:Int)]}/\k.sem M vf (c.add {n:=1}) o
 |.FN x y t e,c,o=>(Bq vf.e x=Bq vf.e y/\t.sem M vf c o)∨(Bq vf.e x≠Bq vf.e y/\e.sem M vf c o)
 |.cat x y k,c,o=>(Bq vf.e x).length+(Bq vf.e y).length<=1048576/\At vf c {s:=[Bq vf.e x++Bq vf.e y]}/\k.sem M vf (c.add {s:=1}) o
 |.JY ps sh k,c,o=>∃l,C3 vf.e sh ps=some l/\At vf c {n:=[(l.length:Int)],l:=[l]}/\k.sem M vf (c.add {n:=1,l:=1}) o
 |.look m key sh t e,c,o=>(∃ps w,Bj (vf.m.getD m []) (Bq vf.e key)=some ps/\CP sh ps=some w/\At vf c w/\t.sem M vf (c.add (HQ sh)) o)∨(Bj (vf.m.getD m []) (Bq vf.e key)=none/\e.sem M vf c o)
 |.up m key cs sh k,c,o=>∃ps,Cw vf.e sh cs=some ps/\At vf c {m:=[By (vf.m.getD m []) (Bq vf.e key) ps]}/\k.sem M vf (c.add {m:=1}) o
 |.K4 es sh k,c,o=>∃l,CB vf.e sh es=some l/\At vf c {m:=[l]}/\k.sem M vf (c.add {m:=1}) o
 |.bump t n k,c,o=>t.den vf.e+n<=1048576/\At vf c {n:=[t.den vf.e+n]}/\k.sem M vf (c.add {n:=1}) o
 |.Ou _ k,c,o=>k.sem M vf c o
 |.call g alt τ u k e,c,o=>(∃w,M g (τ.vals vf.e)=some (alt,w)/\At vf c (w.fit u)/\k.sem M vf (c.add u) o)∨e.sem M vf c o
end
section
theorem Aj.ext' {a b:Aj} (j:a.n=b.n) (v:a.s=b.s) (q:a.l=b.l) (x:a.m=b.m):a=b:=by
 cases a;cases b;simp only at j v q x;subst j v q x;rfl
theorem Aj.Bk (a b c:Aj):(a.app b).app c=a.app (b.app c):=by
 apply Aj.ext'<;>simp [Aj.app,List.append_assoc]
theorem Aj.AeE (a:Aj):a.app {}=a:=by
 apply Aj.ext'<;>simp [Aj.app]
theorem Aj.Cl (a b:Aj):(a.app b).cnt=a.cnt.add b.cnt:=by
 simp [Aj.app,Aj.cnt,CN.add]
theorem HG {α:Type} (d:α):∀(k i:Nat) (l:List α),(Nc d k i l).length=k
 |0,_,_=>rfl
 |k+1,i,l=>by simp [Nc,HG d k (i+1) l]
theorem Aj.Ae0 (c:CN) (v:Aj):(v.fit c).cnt=c:=by
 simp [Aj.fit,Aj.cnt,HG]
theorem Ty {α:Type} (d:α):∀(k i j:Nat) (l:List α),j<k->(Nc d k i l)[j]?=some (l.getD (i+j) d)
 |0,_,_,_,h=>by omega
 |k+1,i,j,l,h=>by
  cases j with
  |zero=>simp [Nc]
  |succ j=>
   show (Nc d k (i+1) l)[j]?=_
   rw [Ty d k (i+1) j l (by omega)]
   congr 2;omega
theorem YA {α:Type} (d:α) (l:List α):Nc d l.length 0 l=l:=by
 apply List.ext_getElem?
 intro j
 by_cases h:j<l.length
 ·rw [Ty d _ _ _ _ h,List.getElem?_eq_getElem h]
  simp [List.getD_eq_getElem?_getD,List.getElem?_eq_getElem h]
 ·rw [List.getElem?_eq_none (by rw [HG];omega),List.getElem?_eq_none (by omega)]
theorem Aj.Nb {v:Aj} {c:CN} (h:v.cnt=c):v.fit c=v:=by
 subst h
 apply Aj.ext'<;>exact YA _ _
theorem CN.eq_iff {a b:CN}:a.eq b=true↔a=b:=by
 cases a;cases b
 simp [CN.eq]
theorem CK.SP {k:CK} {p:PV} {w:Aj} (h:k.read p=some w):w.cnt=k.cnt:=by
 cases k<;>cases p<;>simp only [CK.read,reduceCtorEq,oI]at h
 case int.int=>
  obtain ⟨_,h⟩:=Ap h
  simp only [oI]at h
  subst h;rfl
 case list.list=>
  obtain ⟨_,h⟩:=Ap h
  simp only [oI]at h
  subst h;rfl
 all_goals subst h;rfl
theorem FT:∀{j:List CK} {ps:List PV} {w:Aj},CP j ps=some w->w.cnt=HQ j
 |[],[],w,h=>by simp only [CP,oI]at h;subst h;rfl
 |k::j,p::ps,w,h=>by
  simp only [CP]at h
  split at h
  ·rename_i a ha
   split at h
   ·rename_i b hb
    simp only [oI]at h
    subst h
    rw [Aj.Cl,CK.SP ha,FT hb];rfl
   ·cases h
  ·cases h
 |[],_::_,w,h=>by simp [CP]at h
 |_::_,[],w,h=>by simp [CP]at h
section
variable {v r:Aj}
theorem PO {i:Nat} (h:Nat.blt i v.cnt.n=true):(v.app r).n.getD i 0=v.n.getD i 0:=by
 have h:i<v.n.length:=by rwa [Nat.blt_eq]at h
 simp only [Aj.app,List.getD_eq_getElem?_getD,List.getElem?_append_left h]
theorem Ju {i:Nat} (h:Nat.blt i v.cnt.s=true):(v.app r).s.getD i []=v.s.getD i []:=by
 have h:i<v.s.length:=by rwa [Nat.blt_eq]at h
 simp only [Aj.app,List.getD_eq_getElem?_getD,List.getElem?_append_left h]
theorem Gq {i:Nat} (h:Nat.blt i v.cnt.l=true):(v.app r).l.getD i []=v.l.getD i []:=by
 have h:i<v.l.length:=by rwa [Nat.blt_eq]at h
 simp only [Aj.app,List.getD_eq_getElem?_getD,List.getElem?_append_left h]
theorem LL {i:Nat} (h:Nat.blt i v.cnt.m=true):(v.app r).m.getD i []=v.m.getD i []:=by
 have h:i<v.m.length:=by rwa [Nat.blt_eq]at h
 simp only [Aj.app,List.getD_eq_getElem?_getD,List.getElem?_append_left h]
theorem ST.BQ:∀{t:ST},t.Ce v.cnt.n=true->t.den (v.app r).e=t.den v.e
 |.lit _,_=>rfl
 |.var i,h=>PO h
 |.bin _ _ a b,h=>by
  simp only [ST.Ce,aT]at h
  simp only [ST.den,ST.BQ h.1,ST.BQ h.2]
 |.conv _ a,h=>by
  simp only [ST.Ce]at h
  simp only [ST.den,ST.BQ h]
theorem SB.BQ:∀{t:SB},t.Ce v.cnt.n=true->t.den (v.app r).e=t.den v.e
 |.lit _,_=>rfl
 |.cmp _ a b,h=>by
  simp only [SB.Ce,aT]at h
  simp only [SB.den,ST.BQ h.1,ST.BQ h.2]
 |.no a,h=>by
  simp only [SB.Ce]at h
  simp only [SB.den,SB.BQ h]
theorem CW {a:Aa} (h:Mg v.cnt a=true):Bq (v.app r).e a=Bq v.e a:=by
 simp only [Mg,aT]at h
 cases a<;>simp only [Aa.isStr,Bool.false_eq_true,false_and]at h
 case str=>rfl
 case svar i=>exact Ju h.2
theorem YK {k:CK} {a:Aa} (h:a.Ce v.cnt=true):GS (v.app r).e k a=GS v.e k a:=by
 cases k<;>cases a<;>simp only [Aa.Ce,Bool.false_eq_true]at h<;>try rfl
 case int.int=>simp only [GS,ST.BQ h]
 case bool.bool=>simp only [GS,SB.BQ h]
 case str.svar i=>simp only [GS];rw [show (v.app r).e.str i=v.e.str i from Ju h]
 case list.lst es f i es' n=>
  simp only [aT]at h
  simp only [GS];rw [show (v.app r).e.lst i=v.e.lst i from Gq h.2.1]
theorem Fi {α:Type} {p:α->Bool}:∀{l:List α},BX p l=true->∀x∈l,p x=true
 |[],_,_,hx=>by cases hx
 |a::l,h,x,hx=>by
  simp only [BX,aT]at h
  rcases List.mem_cons.1 hx with rfl|hx
  ·exact h.1
  ·exact Fi h.2 x hx
theorem GD:∀{j:List CK} {as:List Aa},BX (Aa.Ce v.cnt) as=true->Cw (v.app r).e j as=Cw v.e j as
 |[],[],_=>rfl
 |[],_::_,_=>rfl
 |_::_,[],_=>rfl
 |k::j,a::as,h=>by
  simp only [BX,aT]at h
  simp only [Cw,YK h.1,GD h.2]
theorem OP {j:List CK}:∀{as:List (List Aa)},BX (BX (Aa.Ce v.cnt)) as=true->GP (v.app r).e j as=GP v.e j as
 |[],_=>rfl
 |a::as,h=>by
  simp only [BX,aT]at h
  simp only [GP,GD h.1,OP h.2]
theorem XT {j:List CK} {p:AK} (h:p.Ce v.cnt=true):Dq (v.app r).e j p=Dq v.e j p:=by
 cases p<;>simp only [AK.Ce,aT]at h
 case els es=>exact OP h
 case all i=>simp only [Dq];rw [show (v.app r).e.lst i=v.e.lst i from Gq h]
 case take i n=>simp only [Dq];rw [show (v.app r).e.lst i=v.e.lst i from Gq h.1,ST.BQ h.2]
 case drop i n=>simp only [Dq];rw [show (v.app r).e.lst i=v.e.lst i from Gq h.1,ST.BQ h.2]
theorem M8 {j:List CK}:∀{ps:List AK},BX (AK.Ce v.cnt) ps=true->C3 (v.app r).e j ps=C3 v.e j ps
 |[],_=>rfl
 |p::ps,h=>by
  simp only [BX,aT]at h
  simp only [C3,XT h.1,M8 h.2]
theorem JV {q:List CK}:∀{j:List (Aa×List Aa)},BX (fun x:Aa×List Aa=>Mg v.cnt x.1&&BX (Aa.Ce v.cnt) x.2) j=true->CB (v.app r).e q j=CB v.e q j
 |[],_=>rfl
 |x::j,h=>by
  simp only [BX,aT]at h
  simp only [CB,GD h.1.2,CW h.1.1,JV h.2]
theorem CY {α β:Type} {f g:α->β}:∀{l:List α},(∀x∈l,f x=g x)->l.map f=l.map g
 |[],_=>rfl
 |x::l,h=>by
  rw [List.map_cons,List.map_cons,h x List.mem_cons_self,CY fun y j=>h y (List.mem_cons_of_mem _ j)]
theorem CI.Zl {τ:CI} (h:τ.Ce v.cnt=true):τ.vals (v.app r).e=τ.vals v.e:=by
 simp only [CI.Ce,aT]at h
 obtain ⟨A,x,B,z⟩:=h
 apply Aj.ext'
 ·exact CY fun t j=>ST.BQ (Fi A t j)
 ·exact CY fun t j=>CW (Fi x t j)
 ·exact CY fun i q=>Gq (Fi B i q)
 ·exact CY fun i q=>LL (Fi z i q)
end
theorem VA {l:List (List PV)} {j:Int} {x:List CK} {k:Aj->Option Out} {o:Out} (h:Nu l j x k=some o):0<=j/\∃ps w,l[j.toNat]?=some ps/\CP x ps=some w/\k w=some o:=by
 unfold Nu at h
 split at h
 ·rename_i z
  split at h
  ·rename_i ps q
   split at h
   ·rename_i w v
    rw [Aj.Nb (FT v)]at h
    exact ⟨z,ps,w,q,v,h⟩
   ·cases h
  ·cases h
 ·cases h
theorem Vc {m:List (List Nat×List PV)} {s:List Nat} {q:List CK} {k:Aj->Option Out} {e:Option Out} {o:Out} (h:IX m s q k e=some o):(∃ps w,Bj m s=some ps/\CP q ps=some w/\k w=some o)∨(Bj m s=none/\e=some o):=by
 unfold IX at h
 split at h
 ·rename_i ps v
  split at h
  ·rename_i w j
   rw [Aj.Nb (FT j)]at h
   exact .inl ⟨ps,w,v,j,h⟩
  ·cases h
 ·rename_i x
  exact .inr ⟨x,h⟩
theorem VN {r:Option Out} {j:Nat} {u:CN} {k:Aj->Option Out} {e:Option Out} {o:Out} (h:Lz r j u k e=some o):(∃w,r=some (j,w)/\k (w.fit u)=some o)∨e=some o:=by
 unfold Lz at h
 split at h
 ·rename_i w
  split at h
  ·rename_i ha
   refine .inl ⟨w.2,?_,h⟩
   rw [<-ha]
  ·exact .inr h
 ·cases h
theorem IP {α:Type} {r:Option α} {k:α->Option Out} {o:Out} (h:Hv r k=some o):∃a,r=some a/\k a=some o:=by
 unfold Hv at h
 split at h
 ·rename_i a
  exact ⟨a,rfl,h⟩
 ·cases h
theorem Bw {M:Wc}:∀(t:Tree) {v:Aj} {o:Out},t.Ce v.cnt=true->t.eval M v=some o->∃r,t.sem M (v.app r) v.cnt o
 |.fail,v,o,_,h=>by simp [Tree.eval]at h
 |.leaf alt nw τ,v,o,hb,h=>by
  simp only [Tree.eval,oI]at h
  refine ⟨{},?_⟩
  simp only [Tree.sem,Aj.AeE]
  exact h.symm
 |.test op a b t e,v,o,hb,h=>by
  simp only [Tree.Ce,aT]at hb
  simp only [Tree.eval]at h
  split at h
  ·rename_i hc
   obtain ⟨r,q⟩:=Bw t hb.2.2.1 h
   refine ⟨r,.inl ⟨?_,q⟩⟩
   rw [ST.BQ hb.1,ST.BQ hb.2.1];exact hc
  ·rename_i hc
   obtain ⟨r,q⟩:=Bw e hb.2.2.2 h
   refine ⟨r,.inr ⟨?_,q⟩⟩
   rw [ST.BQ hb.1,ST.BQ hb.2.1];exact hc
 |.B9 i n t e,v,o,hb,h=>by
  simp only [Tree.Ce,aT]at hb
  simp only [Tree.eval]at h
  split at h
  ·rename_i hc
   obtain ⟨r,q⟩:=Bw t hb.2.1 h
   exact ⟨r,.inl ⟨by rw [PO hb.1];exact hc,q⟩⟩
  ·rename_i hc
   obtain ⟨r,q⟩:=Bw e hb.2.2 h
   exact ⟨r,.inr ⟨by rw [PO hb.1];exact hc,q⟩⟩
 |.sets i s t e,v,o,hb,h=>by
  simp only [Tree.Ce,aT]at hb
  simp only [Tree.eval]at h
  split at h
  ·rename_i hc
   obtain ⟨r,q⟩:=Bw t hb.2.1 h
   exact ⟨r,.inl ⟨by rw [Ju hb.1];exact hc,q⟩⟩
  ·rename_i hc
   obtain ⟨r,q⟩:=Bw e hb.2.2 h
   exact ⟨r,.inr ⟨by rw [Ju hb.1];exact hc,q⟩⟩
 |.elem l j sh k,v,o,hb,h=>by
  simp only [Tree.Ce,aT]at hb
  simp only [Tree.eval]at h
  obtain ⟨C,ps,w,A,B,h⟩:=VA h
  have hc:(v.app w).cnt=v.cnt.add (HQ sh):=by rw [Aj.Cl,FT B]
  obtain ⟨r,q⟩:=Bw k (by rw [hc];exact hb.2.2) h
  rw [hc,Aj.Bk]at q
  exact ⟨w.app r,by rw [ST.BQ hb.2.1];exact C,ps,w,by rw [ST.BQ hb.2.1,Gq hb.1];exact A,B,⟨v,r,rfl,(Aj.Bk _ _ _).symm⟩,q⟩
 |.Bs l t k,v,o,hb,h=>by
  simp only [Tree.Ce,aT]at hb
  simp only [Tree.eval]at h
  split at h
  ·rename_i hc
   obtain ⟨r,q⟩:=Bw k hb.2.2 h
   exact ⟨r,by rw [ST.BQ hb.2.1,Gq hb.1];exact hc,q⟩
  ·cases h
 |.BT s lo hi k,v,o,hb,h=>by
  simp only [Tree.Ce,aT]at hb
  simp only [Tree.eval]at h
  split at h
  ·rename_i hc
   obtain ⟨r,q⟩:=Bw k (v:=v.app {n:=[((v.s.getD s []).length:Int)]}) (by rw [Aj.Cl];exact hb.2) h
   rw [Aj.Cl,Aj.Bk]at q
   refine ⟨Aj.app {n:=[((v.s.getD s []).length:Int)]} r,?_⟩
   simp only [Tree.sem]
   rw [Ju hb.1]
   exact ⟨hc.1,hc.2,⟨v,r,rfl,(Aj.Bk _ _ _).symm⟩,q⟩
  ·cases h
 |.FN x y t e,v,o,hb,h=>by
  simp only [Tree.Ce,aT]at hb
  simp only [Tree.eval]at h
  split at h
  ·rename_i hc
   obtain ⟨r,q⟩:=Bw t hb.2.2.1 h
   exact ⟨r,.inl ⟨by rw [CW hb.1,CW hb.2.1];exact hc,q⟩⟩
  ·rename_i hc
   obtain ⟨r,q⟩:=Bw e hb.2.2.2 h
   exact ⟨r,.inr ⟨by rw [CW hb.1,CW hb.2.1];exact hc,q⟩⟩
 |.cat x y k,v,o,hb,h=>by
  simp only [Tree.Ce,aT]at hb
  simp only [Tree.eval]at h
  split at h
  ·rename_i hc
   obtain ⟨r,q⟩:=Bw k (v:=v.app {s:=[Bq v.e x++Bq v.e y]}) (by rw [Aj.Cl];exact hb.2.2) h
   rw [Aj.Cl,Aj.Bk]at q
   refine ⟨Aj.app {s:=[Bq v.e x++Bq v.e y]} r,?_⟩
   simp only [Tree.sem]
   rw [CW hb.1,CW hb.2.1]
   exact ⟨hc,⟨v,r,rfl,(Aj.Bk _ _ _).symm⟩,q⟩
  ·cases h
 |.JY ps sh k,v,o,hb,h=>by
  simp only [Tree.Ce,aT]at hb
  simp only [Tree.eval]at h
  obtain ⟨l,hl,h⟩:=IP h
  obtain ⟨r,q⟩:=Bw k (v:=v.app {n:=[(l.length:Int)],l:=[l]}) (by rw [Aj.Cl];exact hb.2) h
  rw [Aj.Cl,Aj.Bk]at q
  refine ⟨Aj.app {n:=[(l.length:Int)],l:=[l]} r,l,?_,⟨v,r,rfl,(Aj.Bk _ _ _).symm⟩,q⟩
  rw [M8 hb.1];exact hl
 |.look m key sh t e,v,o,hb,h=>by
  simp only [Tree.Ce,aT]at hb
  simp only [Tree.eval]at h
  rcases Vc h with ⟨ps,w,A,B,h⟩|⟨hn,h⟩
  ·have hc:(v.app w).cnt=v.cnt.add (HQ sh):=by rw [Aj.Cl,FT B]
   obtain ⟨r,q⟩:=Bw t (by rw [hc];exact hb.2.2.1) h
   rw [hc,Aj.Bk]at q
   exact ⟨w.app r,.inl ⟨ps,w,by rw [LL hb.1,CW hb.2.1];exact A,B,⟨v,r,rfl,(Aj.Bk _ _ _).symm⟩,q⟩⟩
  ·obtain ⟨r,q⟩:=Bw e hb.2.2.2 h
   exact ⟨r,.inr ⟨by rw [LL hb.1,CW hb.2.1];exact hn,q⟩⟩
 |.up m key cs sh k,v,o,hb,h=>by
  simp only [Tree.Ce,aT]at hb
  simp only [Tree.eval]at h
  obtain ⟨ps,A,h⟩:=IP h
  obtain ⟨r,q⟩:=Bw k (v:=v.app {m:=[By (v.m.getD m []) (Bq v.e key) ps]}) (by rw [Aj.Cl];exact hb.2.2.2) h
  rw [Aj.Cl,Aj.Bk]at q
  refine ⟨Aj.app {m:=[By (v.m.getD m []) (Bq v.e key) ps]} r,ps,?_,?_,q⟩
  ·rw [GD hb.2.2.1];exact A
  ·rw [LL hb.1,CW hb.2.1]
   exact ⟨v,r,rfl,(Aj.Bk _ _ _).symm⟩
 |.K4 es sh k,v,o,hb,h=>by
  simp only [Tree.Ce,aT]at hb
  simp only [Tree.eval]at h
  obtain ⟨l,hl,h⟩:=IP h
  obtain ⟨r,q⟩:=Bw k (v:=v.app {m:=[l]}) (by rw [Aj.Cl];exact hb.2) h
  rw [Aj.Cl,Aj.Bk]at q
  refine ⟨Aj.app {m:=[l]} r,l,?_,⟨v,r,rfl,(Aj.Bk _ _ _).symm⟩,q⟩
  rw [JV hb.1];exact hl
 |.bump t n k,v,o,hb,h=>by
  simp only [Tree.Ce,aT]at hb
  simp only [Tree.eval]at h
  split at h
  ·rename_i hc
   obtain ⟨r,q⟩:=Bw k (v:=v.app {n:=[t.den v.e+n]}) (by rw [Aj.Cl];exact hb.2) h
   rw [Aj.Cl,Aj.Bk]at q
   refine ⟨Aj.app {n:=[t.den v.e+n]} r,?_⟩
   simp only [Tree.sem]
   rw [ST.BQ hb.1]
   exact ⟨hc,⟨v,r,rfl,(Aj.Bk _ _ _).symm⟩,q⟩
  ·cases h
 |.Ou z k,v,o,hb,h=>by
  obtain ⟨r,q⟩:=Bw k (v:=v) hb h
  exact ⟨r,q⟩
 |.call c alt τ u k e,v,o,hb,h=>by
  simp only [Tree.Ce,aT]at hb
  simp only [Tree.eval]at h
  rcases VN h with ⟨w,B,h⟩|h
  ·have hc:(v.app (w.fit u)).cnt=v.cnt.add u:=by rw [Aj.Cl,Aj.Ae0]
   obtain ⟨r,q⟩:=Bw k (by rw [hc];exact hb.2.1) h
   rw [hc,Aj.Bk]at q
   exact ⟨(w.fit u).app r,.inl ⟨w,by rw [CI.Zl hb.1];exact B,⟨v,r,rfl,(Aj.Bk _ _ _).symm⟩,q⟩⟩
  ·obtain ⟨r,q⟩:=Bw e hb.2.2 h
   exact ⟨r,.inr q⟩
end
section
inductive Ke where
 |call (x:BR)
 |loop (k:B7)
def Ke.sub (τ:CI):Ke->Option Ke
 |.call x=>(x.sub τ).map .call
 |.loop k=>(k.sub τ).map .loop
def Ke.Holds (P:Program) (ρ:Env) (g:FuncId):Ke->Prop
 |.call x=>Go.AM.Holds P ρ g x
 |.loop k=>Cn P ρ g k
structure Alt where
 outs:CN
 w:Ke
structure Spec where
 f:Nat
 ins:CN
 alts:List Alt
theorem Ke.AhQ {P:Program} {ρ:Env} {τ:CI} {g:FuncId} {w y:Ke} (hs:w.sub τ=some y) (h:w.Holds P (ρ.sub τ) g):y.Holds P ρ g:=by
 cases w
 case call x=>
  obtain ⟨z,j,rfl⟩:=mS hs
  exact Go.AM.Holds.sub j h
 case loop k=>
  obtain ⟨z,j,rfl⟩:=mS hs
  exact Cn.sub j h
theorem Ke.Af8 {P:Program} {ρ:Env} {τ:CI} {g:FuncId} {w y:Ke} (hs:w.sub τ=some y) (h:y.Holds P ρ g):w.Holds P (ρ.sub τ) g:=by
 cases w
 case call x=>
  obtain ⟨z,j,rfl⟩:=mS hs
  exact Go.AM.Holds.Sr j h
 case loop k=>
  obtain ⟨z,j,rfl⟩:=mS hs
  exact Cn.Sr j h
structure Cx where
 cnt:CN
 fx:Ao
 ks:List (Nat×BR)
 ins:CI
def ST.B9 (i:Nat) (n:Int):ST->ST
 |.lit m=>.lit m
 |.var j=>bif Nat.beq i j then .lit n else .var j
 |.bin o k a b=>.bin o k (a.B9 i n) (b.B9 i n)
 |.conv k a=>.conv k (a.B9 i n)
def SB.B9 (i:Nat) (n:Int):SB->SB
 |.lit b=>.lit b
 |.cmp o a b=>Ae1 o (a.B9 i n) (b.B9 i n)
 |.no a=>(match a.B9 i n with|.lit b=>.lit (!b) |a=>.no a)
def Aa.B9 (i:Nat) (n:Int) (a:Aa):Aa:=
 match a with
 |.bool b=>.bool (b.B9 i n)
 |.int k t=>.int k (t.B9 i n)
 |.lst f j es t=>.lst f j es (t.B9 i n)
 |a=>a
def Aa.sets (i:Nat) (s:List Nat) (a:Aa):Aa:=
 match a with
 |.svar j=>bif Nat.beq i j then .str s else .svar j
 |a=>a
def H9 {α β:Type} (f:α->β):List α->List β
 |[]=>[]
 |a::r=>f a::H9 f r
def Cx.B9 (cx:Cx) (i:Nat) (n:Int):Cx:=
 {cx with ins:={cx.ins with n:=H9 (ST.B9 i n) cx.ins.n},fx:={cx.fx with elems:=H9 (fun x=>(x.1,x.2.1.B9 i n,H9 (Aa.B9 i n) x.2.2)) cx.fx.elems,Bs:=H9 (fun x=>(x.1,x.2.B9 i n)) cx.fx.Bs}}
def Cx.sets (cx:Cx) (i:Nat) (s:List Nat):Cx:=
 {cx with ins:={cx.ins with s:=H9 (Aa.sets i s) cx.ins.s},fx:={cx.fx with elems:=H9 (fun x=>(x.1,x.2.1,H9 (Aa.sets i s) x.2.2)) cx.fx.elems}}
def UP (op:BinOp) (a b:ST) (v:Bool) (l:List (ST×Int)):List (ST×Int):=
 match b with
 |.lit n=>bif v&&Od op .eql||!v&&Od op .neq then (a,n)::l else l
 |_=>l
def Cx.test (cx:Cx) (op:BinOp) (a b:ST) (v:Bool):Cx:=
 {cx with fx:={cx.fx with tests:=(op,a,b,v)::cx.fx.tests,DN:=UP op a b v cx.fx.DN}}
noncomputable def Ed (fx:Ao) (a:Aa):Bool:=
 match a with
 |.lst _ i _ t=>(match EH i fx.Bs with|some u=>u.eq t|none=>false)
 |_=>true
noncomputable def AK.Ed (fx:Ao) (p:AK):Bool:=
 match p with
 |.els es=>BX (BX (Go.AM.Ed fx)) es
 |_=>true
def Fa (c:Nat):List (Nat×Spec)->Option Spec
 |[]=>none
 |x::r=>bif Nat.beq x.1 c then some x.2 else Fa c r
def Yu {α:Type}:List α->Nat->Option α
 |[],_=>none
 |a::_,0=>some a
 |_::r,i+1=>Yu r i
def Cx.Aln (cx:Cx) (f g:Nat) (o:CN) (y:Ke):Option Cx:=
 match y with
 |.call x=>some {cx with ks:=(g,x)::cx.ks,cnt:=cx.cnt.add o}
 |.loop k=>bif Nat.beq f g then some {cx with fx:={cx.fx with loops:=k::cx.fx.loops},cnt:=cx.cnt.add o}else none
def Cx.call (cx:Cx) (S:List (Nat×Spec)) (f c j:Nat) (τ:CI) (o:CN):Option Cx:=
 AD (Fa c S) fun sp=>AD (Yu sp.alts j) fun A=>bif τ.cnt.eq sp.ins&&o.eq A.outs then
  AD (A.w.sub (τ.app (Jr cx.cnt o))) fun y=>cx.Aln f sp.f o y else none
abbrev LD:=Ao->List (Nat×BR)->Ke->List Nat->Bool
noncomputable def Tree.ok (S:List (Nat×Spec)) (run:LD) (f:Nat) (alts:List Alt):Tree->Cx->Bool
 |.fail,_=>true
 |.leaf alt nw τ,cx=>CR (AD (Yu alts alt) fun A=>bif τ.cnt.eq A.outs then AD (A.w.sub (cx.ins.app τ)) fun y=>some (run cx.fx cx.ks y nw)else none)
 |.test op a b t e,cx=>t.ok S run f alts (cx.test op a b true)&&e.ok S run f alts (cx.test op a b false)
 |.B9 i n t e,cx=>t.ok S run f alts (cx.B9 i n)&&e.ok S run f alts (cx.test .eql (.var i) (.lit n) false)
 |.sets i s t e,cx=>t.ok S run f alts (cx.sets i s)&&e.ok S run f alts {cx with fx:={cx.fx with strs:=(.svar i,.str s,false)::cx.fx.strs}}
 |.elem l j sh k,cx=>k.ok S run f alts {cx with fx:={cx.fx with elems:=(l,j,N6 sh cx.cnt)::cx.fx.elems,Bs:=MM sh cx.cnt++cx.fx.Bs},cnt:=cx.cnt.add (HQ sh)}
 |.Bs l t k,cx=>k.ok S run f alts {cx with fx:={cx.fx with Bs:=(l,t)::cx.fx.Bs}}
 |.BT s lo hi k,cx=>k.ok S run f alts {cx with fx:={cx.fx with BT:=(s,.var cx.cnt.n,lo,hi)::cx.fx.BT},cnt:=cx.cnt.add {n:=1}}
 |.FN x y t e,cx=>x.isStr&&(y.isStr&&(t.ok S run f alts {cx with fx:={cx.fx with strs:=(x,y,true)::cx.fx.strs}}&&e.ok S run f alts {cx with fx:={cx.fx with strs:=(x,y,false)::cx.fx.strs}}))
 |.cat x y k,cx=>x.isStr&&(y.isStr&&k.ok S run f alts {cx with fx:={cx.fx with EA:=(x,y,.svar cx.cnt.s)::cx.fx.EA},cnt:=cx.cnt.add {s:=1}})
 |.JY ps _ k,cx=>BX (AK.Ce cx.cnt) ps&&(BX (AK.Ed cx.fx) ps&&k.ok S run f alts {cx with fx:={cx.fx with defs:=(cx.cnt.l,ps)::cx.fx.defs,Bs:=(cx.cnt.l,.var cx.cnt.n)::cx.fx.Bs},cnt:=cx.cnt.add {n:=1,l:=1}})
 |.look m key sh t e,cx=>key.isStr&&(t.ok S run f alts {cx with fx:={cx.fx with looks:=(m,key,some (N6 sh cx.cnt))::cx.fx.looks,Bs:=MM sh cx.cnt++cx.fx.Bs},cnt:=cx.cnt.add (HQ sh)}&&e.ok S run f alts {cx with fx:={cx.fx with looks:=(m,key,none)::cx.fx.looks}})
 |.up m key cs _ k,cx=>key.isStr&&(BX (Aa.Ce cx.cnt) cs&&(BX (Ed cx.fx) cs&&k.ok S run f alts {cx with fx:={cx.fx with L8:=(m,key,cs,cx.cnt.m)::cx.fx.L8},cnt:=cx.cnt.add {m:=1}}))
 |.K4 es _ k,cx=>BX (fun x:Aa×List Aa=>x.1.isStr&&(BX (Aa.Ce cx.cnt) x.2&&BX (Ed cx.fx) x.2)) es&&k.ok S run f alts {cx with fx:={cx.fx with CA:=(cx.cnt.m,es)::cx.fx.CA},cnt:=cx.cnt.add {m:=1}}
 |.bump t n k,cx=>k.ok S run f alts {cx with fx:={cx.fx with CC:=(t,n,.var cx.cnt.n)::cx.fx.CC},cnt:=cx.cnt.add {n:=1}}
 |.Ou z k,cx=>k.ok S run f alts {cx with fx:={cx.fx with Ou:=cx.fx.Ou++[z]}}
 |.call c alt τ o k e,cx=>CR (AD (cx.call S f c alt τ o) fun q=>some (k.ok S run f alts q))&&e.ok S run f alts cx
def NQ (P:Program) (T:Nat->Option Obj) (f:Nat) (run:LD):Prop:=
 ∀Γ ks w j (ρ:Env),ρ.AQ=T->Γ.AI ρ->(∀x∈ks,Go.AM.Holds P ρ x.1 x.2)->(∀k∈Γ.loops,Cn P ρ f k)->run Γ ks w j=true->w.Holds P ρ f
def Good (P:Program) (T:Nat->Option Obj) (S:List (Nat×Spec)) (M:Wc):Prop:=
 ∀c sp,Fa c S=some sp->∀v a w,M c v=some (a,w)->v.cnt=sp.ins->∃A,sp.alts[a]?=some A/\w.cnt=A.outs/\A.w.Holds P ((v.app w).env T) sp.f
theorem QY {α:Type}:∀(l:List α) (i:Nat),Yu l i=l[i]?
 |[],_=>by simp [Yu]
 |a::r,0=>rfl
 |a::r,i+1=>by rw [Yu,QY r i];simp
section
variable {T:Nat->Option Obj} {vf:Aj}
theorem Ep (a:Aa):DZ (vf.env T) a=DZ vf.e a:=by cases a<;>rfl
theorem Aaz (a:Aa):Bq (vf.env T) a=Bq vf.e a:=by unfold Bq;rw [Ep]
theorem Gh {ρ:Env} {a:Aa} (h:a.isStr=true):DZ ρ a=some (Bq ρ a):=by
 cases a<;>simp only [Aa.isStr,Bool.false_eq_true]at h<;>rfl
theorem At.val {c:CN} {w:Aj} (h:At vf c w) (i:Nat) (j:i<w.n.length):vf.n.getD (c.n+i) 0=w.n.getD i 0:=by
 obtain ⟨v,r,rfl,rfl⟩:=h
 simp only [Aj.app,Aj.cnt,List.getD_eq_getElem?_getD,List.append_assoc]
 rw [List.getElem?_append_right (by omega),List.getElem?_append_left (by omega)]
 congr 2;omega
theorem At.str {c:CN} {w:Aj} (h:At vf c w) (i:Nat) (j:i<w.s.length):vf.s.getD (c.s+i) []=w.s.getD i []:=by
 obtain ⟨v,r,rfl,rfl⟩:=h
 simp only [Aj.app,Aj.cnt,List.getD_eq_getElem?_getD,List.append_assoc]
 rw [List.getElem?_append_right (by omega),List.getElem?_append_left (by omega)]
 congr 2;omega
theorem At.lst {c:CN} {w:Aj} (h:At vf c w) (i:Nat) (j:i<w.l.length):vf.l.getD (c.l+i) []=w.l.getD i []:=by
 obtain ⟨v,r,rfl,rfl⟩:=h
 simp only [Aj.app,Aj.cnt,List.getD_eq_getElem?_getD,List.append_assoc]
 rw [List.getElem?_append_right (by omega),List.getElem?_append_left (by omega)]
 congr 2;omega
theorem At.map {c:CN} {w:Aj} (h:At vf c w) (i:Nat) (j:i<w.m.length):vf.m.getD (c.m+i) []=w.m.getD i []:=by
 obtain ⟨v,r,rfl,rfl⟩:=h
 simp only [Aj.app,Aj.cnt,List.getD_eq_getElem?_getD,List.append_assoc]
 rw [List.getElem?_append_right (by omega),List.getElem?_append_left (by omega)]
 congr 2;omega
theorem At.left {c:CN} {a b:Aj} (h:At vf c (a.app b)):At vf c a:=by
 obtain ⟨v,r,hc,rfl⟩:=h
 exact ⟨v,b.app r,hc,by simp only [Aj.Bk]⟩
theorem At.right {c:CN} {a b:Aj} (h:At vf c (a.app b)):At vf (c.add a.cnt) b:=by
 obtain ⟨v,r,rfl,rfl⟩:=h
 exact ⟨v.app a,r,by rw [Aj.Cl],by simp only [Aj.Bk]⟩
theorem Aiz (b:Bool):E3 .neq (b01 b) 0=b:=by cases b<;>rfl
theorem CK.Ab3 {k:CK} {p:PV} {w:Aj} {c:CN} (h:k.read p=some w) (j:At vf c w):LF (vf.env T) (k.val c) p/\(∀v,k=.list v->vf.n.getD c.n 0=((vf.l.getD c.l []).length:Int)):=by
 cases k<;>cases p<;>simp only [CK.read,reduceCtorEq,oI]at h
 case int.int k k' n=>
  obtain ⟨x,h⟩:=Ap h
  simp only [oI]at h
  subst h
  rw [Dj.1 x]
  have q:vf.n.getD c.n 0=n:=j.val 0 (by simp)
  refine ⟨?_,fun _ e=>by cases e⟩
  show PV.int k' n=.int k' (vf.n.getD c.n 0)
  rw [q]
 case bool.bool b=>
  subst h
  have q:vf.n.getD c.n 0=b01 b:=j.val 0 (by simp)
  refine ⟨?_,fun _ e=>by cases e⟩
  show PV.bool b=.bool (E3 .neq (vf.n.getD c.n 0) 0)
  rw [q,Aiz]
 case str.str s=>
  subst h
  have q:vf.s.getD c.s []=s:=j.str 0 (by simp)
  refine ⟨?_,fun _ e=>by cases e⟩
  show PV.str s=.str (vf.s.getD c.s [])
  rw [q]
 case list.list v es' l=>
  obtain ⟨x,h⟩:=Ap h
  simp only [oI]at h
  subst h
  have e:=An.1 x
  subst e
  have q:vf.n.getD c.n 0=(l.length:Int):=j.val 0 (by simp)
  have hl:vf.l.getD c.l []=l:=j.lst 0 (by simp)
  refine ⟨⟨rfl,?_,?_⟩,fun _ _=>?_⟩
  ·show PV.list v l=.list v (vf.l.getD c.l [])
   rw [hl]
  ·show vf.n.getD c.n 0=((vf.l.getD c.l []).length:Int)
   rw [hl,q]
  ·rw [hl,q]
 case nilp.nilp=>exact ⟨rfl,fun _ e=>by cases e⟩
theorem Kv:∀{q:List CK} {ps:List PV} {w:Aj} {c:CN},CP q ps=some w->At vf c w->FA (vf.env T) (N6 q c) ps/\∀x∈MM q c,x.2.den vf.e=((vf.l.getD x.1 []).length:Int)
 |[],[],w,c,h,hat=>⟨rfl,fun x j=>by cases j⟩
 |k::q,p::ps,w,c,h,hat=>by
  simp only [CP]at h
  split at h
  ·rename_i a ha
   split at h
   ·rename_i b hb
    simp only [oI]at h
    subst h
    obtain ⟨B,A⟩:=CK.Ab3 (T:=T) ha hat.left
    have z:=hat.right
    rw [CK.SP ha]at z
    obtain ⟨H,v⟩:=Kv hb z
    refine ⟨⟨p,ps,rfl,B,H⟩,fun x j=>?_⟩
    simp only [MM]at j
    split at j
    ·rename_i C
     rcases List.mem_cons.1 j with rfl|j
     ·exact A C rfl
     ·exact v x j
    ·exact v x j
   ·cases h
  ·cases h
 |[],_::_,w,c,h,_=>by simp [CP]at h
 |_::_,[],w,c,h,_=>by simp [CP]at h
theorem YJ {fx:Ao} (q:fx.AI (vf.env T)) {k:CK} {a:Aa} {p:PV} {c:CN} (hb:a.Ce c=true) (hl:Ed fx a=true) (h:GS vf.e k a=some p):We (vf.env T) a p:=by
 cases k<;>cases a<;>simp only [Aa.Ce,Bool.false_eq_true]at hb<;>simp only [GS,reduceCtorEq,oI]at h
 case int.int=>
  obtain ⟨j,h⟩:=Ap h
  simp only [oI]at h
  rw [Dj.1 j]at h
  exact h.symm
 case bool.bool=>exact h.symm
 case str.str=>exact h.symm
 case str.svar=>exact h.symm
 case list.nilSlice es=>exact ⟨es,h.symm⟩
 case list.lst es f i es' n=>
  obtain ⟨j,h⟩:=Ap h
  simp only [oI]at h
  rw [An.1 j]at h
  simp only [aT,Bool.not_eq_true']at hb
  simp only [Ed]at hl
  split at hl
  ·rename_i u v
   refine ⟨hb.1,h.symm,?_⟩
   rw [<-ST.Ba hl]
   exact q.Bs _ (C1 v)
  ·cases hl
 case nilp.nilPtr=>exact h.symm
theorem GC {fx:Ao} (j:fx.AI (vf.env T)) {c:CN}:∀{v:List CK} {as:List Aa} {ps:List PV},BX (Aa.Ce c) as=true->BX (Ed fx) as=true->Cw vf.e v as=some ps->CD (vf.env T) as ps
 |[],[],ps,_,_,h=>by simp only [Cw,oI]at h;subst h;rfl
 |k::v,a::as,ps,hb,hl,h=>by
  simp only [BX,aT]at hb hl
  simp only [Cw]at h
  split at h
  ·rename_i p x
   split at h
   ·rename_i q z
    simp only [oI]at h
    subst h
    exact ⟨p,q,rfl,YJ j hb.1 hl.1 x,GC j hb.2 hl.2 z⟩
   ·cases h
  ·cases h
 |[],_::_,_,_,_,h=>by simp [Cw]at h
 |_::_,[],_,_,_,h=>by simp [Cw]at h
theorem OO {fx:Ao} (j:fx.AI (vf.env T)) {c:CN} {z:List CK}:∀{as:List (List Aa)} {ps:List (List PV)},BX (BX (Aa.Ce c)) as=true->BX (BX (Ed fx)) as=true->GP vf.e z as=some ps->DV (vf.env T) as ps
 |[],ps,_,_,h=>by simp only [GP,oI]at h;subst h;rfl
 |a::as,ps,hb,hl,h=>by
  simp only [BX,aT]at hb hl
  simp only [GP]at h
  split at h
  ·rename_i p v
   split at h
   ·rename_i q x
    simp only [oI]at h
    subst h
    exact ⟨p,q,rfl,GC j hb.1 hl.1 v,OO j hb.2 hl.2 x⟩
   ·cases h
  ·cases h
theorem XS {fx:Ao} (j:fx.AI (vf.env T)) {c:CN} {q:List CK} {p:AK} {l:List (List PV)} (hb:p.Ce c=true) (hl:p.Ed fx=true) (h:Dq vf.e q p=some l):F8 (vf.env T) p l:=by
 cases p<;>simp only [AK.Ce]at hb<;>simp only [AK.Ed]at hl<;>simp only [Dq,oI]at h
 case els es=>exact OO j hb hl h
 case all i=>exact h.symm
 case take i n=>
  split at h
  ·rename_i hc
   simp only [oI]at h
   exact ⟨hc.1,hc.2,h.symm⟩
  ·cases h
 case drop i n=>
  split at h
  ·rename_i hc
   simp only [oI]at h
   exact ⟨hc.1,hc.2,h.symm⟩
  ·cases h
theorem M7 {fx:Ao} (j:fx.AI (vf.env T)) {c:CN} {v:List CK}:∀{ps:List AK} {l:List (List PV)},BX (AK.Ce c) ps=true->BX (AK.Ed fx) ps=true->C3 vf.e v ps=some l->Bx (vf.env T) ps l
 |[],l,_,_,h=>by simp only [C3,oI]at h;subst h;rfl
 |p::ps,l,hb,hl,h=>by
  simp only [BX,aT]at hb hl
  simp only [C3]at h
  split at h
  ·rename_i a ha
   split at h
   ·rename_i b q
    simp only [oI]at h
    subst h
    exact ⟨a,b,rfl,XS j hb.1 hl.1 ha,M7 j hb.2 hl.2 q⟩
   ·cases h
  ·cases h
theorem JU {fx:Ao} (v:fx.AI (vf.env T)) {c:CN} {B:List CK}:∀{j:List (Aa×List Aa)} {l:List (List Nat×List PV)},BX (fun x:Aa×List Aa=>x.1.isStr&&(BX (Aa.Ce c) x.2&&BX (Ed fx) x.2)) j=true->CB vf.e B j=some l->Adq (vf.env T) j l
 |[],l,_,h=>by simp only [CB,oI]at h;subst h;rfl
 |x::j,l,hb,h=>by
  simp only [BX,aT]at hb
  simp only [CB]at h
  split at h
  ·rename_i p z
   split at h
   ·rename_i q A
    simp only [oI]at h
    subst h
    refine ⟨Bq vf.e x.1,p,q,rfl,?_,GC v hb.1.2.1 hb.1.2.2 z,JU v hb.2 A⟩
    rw [Ep];exact Gh hb.1.1
   ·cases h
  ·cases h
theorem Jj (op:BinOp) (x y:Int):E3 op x y=decide (LZ op x y):=by
 cases op
 case neq=>by_cases h:x=y<;>simp [E3,LZ,bne,h]
 all_goals rfl
theorem Ip {α β:Type} (f:α->β):∀l:List α,H9 f l=l.map f
 |[]=>rfl
 |a::r=>by simp [H9,Ip f r]
theorem ST.Cd {i:Nat} {n:Int} (h:vf.n.getD i 0=n):∀t:ST,(t.B9 i n).den vf.e=t.den vf.e
 |.lit _=>rfl
 |.var j=>by
  simp only [ST.B9]
  rw [AH]
  split
  ·rename_i e;subst e;exact h.symm
  ·rfl
 |.bin o k a b=>by simp only [ST.B9,ST.den,ST.Cd h a,ST.Cd h b]
 |.conv k a=>by simp only [ST.B9,ST.den,ST.Cd h a]
theorem SB.Cd {i:Nat} {n:Int} (h:vf.n.getD i 0=n):∀t:SB,(t.B9 i n).den vf.e=t.den vf.e
 |.lit _=>rfl
 |.cmp o a b=>by
  simp only [SB.B9]
  rw [TJ]
  simp only [SB.den,ST.Cd h]
 |.no a=>by
  have ih:=SB.Cd h a
  simp only [SB.B9]
  split
  ·rename_i b hb
   rw [hb]at ih
   simp only [SB.den]at ih⊢
   rw [ih]
  ·simp only [SB.den,ih]
theorem Aa.Cd {i:Nat} {n:Int} (h:vf.n.getD i 0=n) {a:Aa} {p:PV} (ha:LF (vf.env T) a p):LF (vf.env T) (a.B9 i n) p:=by
 cases a<;>simp only [Aa.B9]<;>first|exact ha|skip
 case bool b=>
  have ha:p=.bool (b.den vf.e):=ha
  show p=.bool ((b.B9 i n).den vf.e)
  rw [SB.Cd h,ha]
 case int k t=>
  have ha:p=.int k (t.den vf.e):=ha
  show p=.int k ((t.B9 i n).den vf.e)
  rw [ST.Cd h,ha]
 case lst f j es t=>
  obtain ⟨v,q,x⟩:=ha
  refine ⟨v,q,?_⟩
  show (t.B9 i n).den vf.e=_
  rw [ST.Cd h];exact x
theorem Aa.Abl {i:Nat} {s:List Nat} (h:vf.s.getD i []=s) {a:Aa} {p:PV} (ha:LF (vf.env T) a p):LF (vf.env T) (a.sets i s) p:=by
 cases a<;>simp only [Aa.sets]<;>first|exact ha|skip
 rw [AH]
 split
 ·rename_i e
  subst e
  have ha:p=.str (vf.s.getD i []):=ha
  show p=.str s
  rw [ha,h]
 ·exact ha
theorem FA.H9 {f:Aa->Aa} (hf:∀{a p},LF (vf.env T) a p->LF (vf.env T) (f a) p):∀{as:List Aa} {ps:List PV},FA (vf.env T) as ps->FA (vf.env T) (H9 f as) ps
 |[],ps,h=>h
 |a::as,ps,h=>by
  obtain ⟨p,rest,rfl,q,j⟩:=h
  exact ⟨p,rest,rfl,hf q,FA.H9 hf j⟩
theorem Cx.XG {cx:Cx} {i:Nat} {n:Int} (h:vf.n.getD i 0=n) (j:cx.fx.AI (vf.env T)):(cx.B9 i n).fx.AI (vf.env T):=by
 refine ⟨j.DN,j.tests,j.strs,j.EA,j.BT,fun x q=>?_,fun x q=>?_,j.defs,j.looks,j.L8,j.CC,j.CA⟩
 ·rw [show (cx.B9 i n).fx.Bs=_ from Ip _ _]at q
  obtain ⟨y,v,rfl⟩:=List.mem_map.1 q
  show (y.2.B9 i n).den vf.e=_
  rw [ST.Cd h]
  exact j.Bs y v
 ·rw [show (cx.B9 i n).fx.elems=_ from Ip _ _]at q
  obtain ⟨y,v,rfl⟩:=List.mem_map.1 q
  obtain ⟨ps,A,z,B⟩:=j.elems y v
  refine ⟨ps,?_,?_,FA.H9 (Aa.Cd h) B⟩
  ·show 0<=(y.2.1.B9 i n).den vf.e
   rw [ST.Cd h];exact A
  ·show _[((y.2.1.B9 i n).den vf.e).toNat]?=_
   rw [ST.Cd h];exact z
theorem Cx.XE {cx:Cx} {i:Nat} {s:List Nat} (h:vf.s.getD i []=s) (j:cx.fx.AI (vf.env T)):(cx.sets i s).fx.AI (vf.env T):=by
 refine ⟨j.DN,j.tests,j.strs,j.EA,j.BT,j.Bs,fun x q=>?_,j.defs,j.looks,j.L8,j.CC,j.CA⟩
 rw [show (cx.sets i s).fx.elems=_ from Ip _ _]at q
 obtain ⟨y,v,rfl⟩:=List.mem_map.1 q
 obtain ⟨ps,A,z,B⟩:=j.elems y v
 exact ⟨ps,A,z,FA.H9 (Aa.Abl h) B⟩
theorem CI.XF {τ:CI} {i:Nat} {n:Int} (h:vf.n.getD i 0=n):CI.vals {τ with n:=H9 (ST.B9 i n) τ.n} vf.e=τ.vals vf.e:=by
 apply Aj.ext'<;>simp only [CI.vals]
 rw [Ip,List.map_map]
 exact CY fun t _=>ST.Cd h t
theorem CI.XD {τ:CI} {i:Nat} {s:List Nat} (h:vf.s.getD i []=s):CI.vals {τ with s:=H9 (Aa.sets i s) τ.s} vf.e=τ.vals vf.e:=by
 apply Aj.ext'<;>simp only [CI.vals]
 rw [Ip,List.map_map]
 refine CY fun a _=>?_
 show Bq vf.e (a.sets i s)=Bq vf.e a
 cases a<;>simp only [Aa.sets]
 rename_i j
 rw [AH]
 split
 ·rename_i e;subst e;exact h.symm
 ·rfl
theorem Cx.Kl {cx:Cx} {op:BinOp} {a b:ST} {v:Bool} (h:E3 op (a.den vf.e) (b.den vf.e)=v) (j:cx.fx.AI (vf.env T)):(cx.test op a b v).fx.AI (vf.env T):=by
 refine ⟨fun x q=>?_,Bn h j.tests,j.strs,j.EA,j.BT,j.Bs,j.elems,j.defs,j.looks,j.L8,j.CC,j.CA⟩
 have q:x∈UP op a b v cx.fx.DN:=q
 unfold UP at q
 cases b with
 |lit n=>
  simp only at q
  cases e:(v&&Od op .eql||!v&&Od op .neq)with
  |false=>rw [e]at q;exact j.DN x q
  |true=>
   rw [e]at q
   rcases List.mem_cons.1 q with rfl|q
   ·show a.den vf.e=n
    simp only [Bool.or_eq_true,aT,Bool.not_eq_true']at e
    rcases e with ⟨rfl,e⟩|⟨rfl,e⟩
    ·rw [Hz.1 e]at h;simpa [E3,ST.den]using h
    ·rw [Hz.1 e]at h;simpa [E3,ST.den]using h
   ·exact j.DN x q
 |_=>exact j.DN x q
theorem FX {α β γ:Type} (f:Nat->α) (g:α->β) (l:List β) (d:β):∀(w:List β) (i:Nat),(∀j,j<w.length->g (f (i+j))=w.getD j d)->(MZ f w.length i).map g=w
 |[],i,_=>rfl
 |x::w,i,h=>by
  simp only [lC,MZ,List.map_cons]
  rw [show g (f i)=x by simpa using h 0 (by simp),FX (γ:=γ) f g l d w (i+1) fun j q=>by
   have:=h (j+1) (by simp;omega)
   rw [show i+(j+1)=i+1+j by omega]at this
   simpa using this]
theorem LS {c:CN} {w:Aj} (h:At vf c w):(Jr c w.cnt).vals vf.e=w:=by
 apply Aj.ext'<;>simp only [CI.vals,Jr,Aj.cnt]
 ·exact FX (γ:=Unit) _ _ w.n 0 w.n c.n fun j q=>h.val j q
 ·exact FX (γ:=Unit) _ _ w.s [] w.s c.s fun j q=>h.str j q
 ·exact FX (γ:=Unit) _ _ w.l [] w.l c.l fun j q=>h.lst j q
 ·exact FX (γ:=Unit) _ _ w.m [] w.m c.m fun j q=>h.map j q
theorem CI.TU (a b:CI) (ρ:Env):(a.app b).vals ρ=(a.vals ρ).app (b.vals ρ):=by
 apply Aj.ext'<;>simp [CI.app,CI.vals,Aj.app]
theorem CI.Sq (τ:CI) (ρ:Env):(τ.vals ρ).cnt=τ.cnt:=by simp [CI.vals,Aj.cnt,CI.cnt]
theorem Wi (τ:CI):(vf.env T).sub τ=(τ.vals vf.e).env T:=by
 show Env.of T _ _ _ _=Env.of T _ _ _ _
 simp only [CI.vals]
 rw [CY (l:=τ.s) (f:=Bq (vf.env T)) fun a _=>Aaz a]
 rfl
end
section
variable {P:Program} {T:Nat->Option Obj} {S:List (Nat×Spec)} {run:LD} {f:Nat} {alts:List Alt} {M:Wc} {vf:Aj}
structure Cx.AI (P:Program) (T:Nat->Option Obj) (f:Nat) (vf ins:Aj) (cx:Cx):Prop where
 fx:cx.fx.AI (vf.env T)
 ks:∀x∈cx.ks,Go.AM.Holds P (vf.env T) x.1 x.2
 ls:∀k∈cx.fx.loops,Cn P (vf.env T) f k
 ins:cx.ins.vals vf.e=ins
theorem Cx.YL {ins:Aj} (V:Good P T S M) {cx v:Cx} (H:cx.AI P T f vf ins) {c B:Nat} {τ:CI} {o:CN} (hc:cx.call S f c B τ o=some v) {w:Aj} (Q:M c (τ.vals vf.e)=some (B,w)) (z:At vf cx.cnt (w.fit o)):v.AI P T f vf ins/\v.cnt=cx.cnt.add o:=by
 unfold Cx.call at hc
 obtain ⟨sp,N,Z⟩:=Ac hc
 obtain ⟨A,I,q2⟩:=Ac Z
 obtain ⟨C,q3⟩:=Ap q2
 obtain ⟨y,R,q⟩:=Ac q3
 rw [aT]at C
 have X:=CN.eq_iff.1 C.1
 have J:=CN.eq_iff.1 C.2
 obtain ⟨A',L,j,U⟩:=V c sp N _ _ _ Q (by rw [CI.Sq];exact X)
 rw [QY,L]at I
 simp only [oI]at I
 subst I
 rw [J,Aj.Nb j]at z
 have Y:(vf.env T).sub (τ.app (Jr cx.cnt o))=((τ.vals vf.e).app w).env T:=by
  rw [Wi,CI.TU,J,<-j,LS z]
 have x:y.Holds P (vf.env T) sp.f:=Ke.AhQ R (by rw [Y];exact U)
 unfold Cx.Aln at q
 split at q
 ·simp only [oI]at q
  subst q
  exact ⟨⟨H.fx,Bn x H.ks,H.ls,H.ins⟩,rfl⟩
 ·obtain ⟨hf,O⟩:=Ap q
  simp only [oI]at O
  subst O
  have hf:=An.1 hf
  subst hf
  exact ⟨⟨⟨H.fx.DN,H.fx.tests,H.fx.strs,H.fx.EA,H.fx.BT,H.fx.Bs,H.fx.elems,H.fx.defs,H.fx.looks,H.fx.L8,H.fx.CC,H.fx.CA⟩,H.ks,Bn x H.ls,H.ins⟩,rfl⟩
theorem Bt {ins:Aj} (v:NQ P T f run) (C:Good P T S M):∀(t:Tree) {cx:Cx} {o:Out},t.ok S run f alts cx=true->t.sem M vf cx.cnt o->cx.AI P T f vf ins->∃A,alts[o.1]?=some A/\o.2.cnt=A.outs/\A.w.Holds P ((ins.app o.2).env T) f
 |.fail,cx,o,_,hs,_=>hs.elim
 |.leaf alt nw τ,cx,o,q,hs,H=>by
  simp only [Tree.ok]at q
  obtain ⟨A,Z,q⟩:=Ac (Fz.1 q)
  obtain ⟨he,q⟩:=Ap q
  obtain ⟨y,N,q⟩:=Ac q
  simp only [oI]at q
  simp only [Tree.sem]at hs
  subst hs
  rw [QY]at Z
  refine ⟨A,Z,by rw [CI.Sq];exact CN.eq_iff.1 he,?_⟩
  have Q:=v cx.fx cx.ks y nw (vf.env T) rfl H.fx H.ks H.ls q
  have R:=Ke.Af8 N Q
  rw [Wi,CI.TU,H.ins]at R
  exact R
 |.test op a b t e,cx,o,q,hs,H=>by
  simp only [Tree.ok,aT]at q
  rcases hs with ⟨hc,hs⟩|⟨hc,hs⟩
  ·exact Bt v C t (cx:=cx.test op a b true) q.1 hs ⟨Cx.Kl (by rw [Jj];exact decide_eq_true hc) H.fx,H.ks,H.ls,H.ins⟩
  ·exact Bt v C e (cx:=cx.test op a b false) q.2 hs ⟨Cx.Kl (by rw [Jj];exact decide_eq_false hc) H.fx,H.ks,H.ls,H.ins⟩
 |.B9 i n t e,cx,o,q,hs,H=>by
  simp only [Tree.ok,aT]at q
  rcases hs with ⟨hc,hs⟩|⟨hc,hs⟩
  ·exact Bt v C t (cx:=cx.B9 i n) q.1 hs ⟨Cx.XG hc H.fx,H.ks,H.ls,by rw [<-H.ins];exact CI.XF hc⟩
  ·refine Bt v C e (cx:=cx.test .eql (.var i) (.lit n) false) q.2 hs ⟨Cx.Kl ?_ H.fx,H.ks,H.ls,H.ins⟩
   rw [Jj];exact decide_eq_false hc
 |.sets i s t e,cx,o,q,hs,H=>by
  simp only [Tree.ok,aT]at q
  rcases hs with ⟨hc,hs⟩|⟨hc,hs⟩
  ·exact Bt v C t (cx:=cx.sets i s) q.1 hs ⟨Cx.XE hc H.fx,H.ks,H.ls,by rw [<-H.ins];exact CI.XD hc⟩
  ·refine Bt v C e (cx:={cx with fx:={cx.fx with strs:=(.svar i,.str s,false)::cx.fx.strs}}) q.2 hs ⟨⟨H.fx.DN,H.fx.tests,Bn ⟨vf.s.getD i [],s,rfl,rfl,(decide_eq_false hc).symm⟩ H.fx.strs,H.fx.EA,H.fx.BT,H.fx.Bs,H.fx.elems,H.fx.defs,H.fx.looks,H.fx.L8,H.fx.CC,H.fx.CA⟩,H.ks,H.ls,H.ins⟩
 |.elem l j sh k,cx,o,q,hs,H=>by
  simp only [Tree.ok]at q
  obtain ⟨hj,ps,w,J,O,B,hs⟩:=hs
  obtain ⟨X,d2⟩:=Kv (T:=T) O B
  refine Bt v C k q hs ⟨⟨H.fx.DN,H.fx.tests,H.fx.strs,H.fx.EA,H.fx.BT,fun x I=>?_,Bn ⟨ps,hj,J,X⟩ H.fx.elems,H.fx.defs,H.fx.looks,H.fx.L8,H.fx.CC,H.fx.CA⟩,H.ks,H.ls,H.ins⟩
  rcases List.mem_append.1 I with I|I
  ·exact d2 x I
  ·exact H.fx.Bs x I
 |.Bs l t k,cx,o,q,hs,H=>by
  simp only [Tree.ok]at q
  exact Bt v C k q hs.2 ⟨⟨H.fx.DN,H.fx.tests,H.fx.strs,H.fx.EA,H.fx.BT,Bn hs.1 H.fx.Bs,H.fx.elems,H.fx.defs,H.fx.looks,H.fx.L8,H.fx.CC,H.fx.CA⟩,H.ks,H.ls,H.ins⟩
 |.BT s lo hi k,cx,o,q,hs,H=>by
  simp only [Tree.ok]at q
  obtain ⟨Q,R,B,hs⟩:=hs
  exact Bt v C k q hs ⟨⟨H.fx.DN,H.fx.tests,H.fx.strs,H.fx.EA,Bn ⟨B.val 0 (by simp),Q,R⟩ H.fx.BT,H.fx.Bs,H.fx.elems,H.fx.defs,H.fx.looks,H.fx.L8,H.fx.CC,H.fx.CA⟩,H.ks,H.ls,H.ins⟩
 |.FN x y t e,cx,o,q,hs,H=>by
  simp only [Tree.ok,aT]at q
  have I:DZ (vf.env T) x=some (Bq vf.e x):=by rw [Ep];exact Gh q.1
  have N:DZ (vf.env T) y=some (Bq vf.e y):=by rw [Ep];exact Gh q.2.1
  rcases hs with ⟨hc,hs⟩|⟨hc,hs⟩
  ·exact Bt v C t (cx:={cx with fx:={cx.fx with strs:=(x,y,true)::cx.fx.strs}}) q.2.2.1 hs ⟨⟨H.fx.DN,H.fx.tests,Bn ⟨_,_,I,N,(decide_eq_true hc).symm⟩ H.fx.strs,H.fx.EA,H.fx.BT,H.fx.Bs,H.fx.elems,H.fx.defs,H.fx.looks,H.fx.L8,H.fx.CC,H.fx.CA⟩,H.ks,H.ls,H.ins⟩
  ·exact Bt v C e (cx:={cx with fx:={cx.fx with strs:=(x,y,false)::cx.fx.strs}}) q.2.2.2 hs ⟨⟨H.fx.DN,H.fx.tests,Bn ⟨_,_,I,N,(decide_eq_false hc).symm⟩ H.fx.strs,H.fx.EA,H.fx.BT,H.fx.Bs,H.fx.elems,H.fx.defs,H.fx.looks,H.fx.L8,H.fx.CC,H.fx.CA⟩,H.ks,H.ls,H.ins⟩
 |.cat x y k,cx,o,q,hs,H=>by
  simp only [Tree.ok,aT]at q
  obtain ⟨hl,B,hs⟩:=hs
  have I:DZ (vf.env T) x=some (Bq vf.e x):=by rw [Ep];exact Gh q.1
  have N:DZ (vf.env T) y=some (Bq vf.e y):=by rw [Ep];exact Gh q.2.1
  exact Bt v C k q.2.2 hs ⟨⟨H.fx.DN,H.fx.tests,H.fx.strs,Bn ⟨_,_,I,N,congrArg some (B.str 0 (by simp)),hl⟩ H.fx.EA,H.fx.BT,H.fx.Bs,H.fx.elems,H.fx.defs,H.fx.looks,H.fx.L8,H.fx.CC,H.fx.CA⟩,H.ks,H.ls,H.ins⟩
 |.JY ps sh k,cx,o,q,hs,H=>by
  simp only [Tree.ok,aT]at q
  obtain ⟨l,hl,B,hs⟩:=hs
  have L:vf.l.getD cx.cnt.l []=l:=B.lst 0 (by simp)
  have e2:vf.n.getD cx.cnt.n 0=(l.length:Int):=B.val 0 (by simp)
  have d:=M7 H.fx q.1 q.2.1 hl
  refine Bt v C k q.2.2 hs ⟨⟨H.fx.DN,H.fx.tests,H.fx.strs,H.fx.EA,H.fx.BT,Bn ?_ H.fx.Bs,H.fx.elems,Bn ?_ H.fx.defs,H.fx.looks,H.fx.L8,H.fx.CC,H.fx.CA⟩,H.ks,H.ls,H.ins⟩
  ·show vf.n.getD cx.cnt.n 0=((vf.l.getD cx.cnt.l []).length:Int)
   rw [L,e2]
  ·show Bx _ _ (vf.l.getD cx.cnt.l [])
   rw [L];exact d
 |.look m key sh t e,cx,o,q,hs,H=>by
  simp only [Tree.ok,aT]at q
  have I:DZ (vf.env T) key=some (Bq vf.e key):=by rw [Ep];exact Gh q.1
  rcases hs with ⟨ps,w,J,O,B,hs⟩|⟨hn,hs⟩
  ·obtain ⟨X,d2⟩:=Kv (T:=T) O B
   refine Bt v C t (cx:={cx with fx:={cx.fx with looks:=(m,key,some (N6 sh cx.cnt))::cx.fx.looks,Bs:=MM sh cx.cnt++cx.fx.Bs},cnt:=cx.cnt.add (HQ sh)}) q.2.1 hs ⟨⟨H.fx.DN,H.fx.tests,H.fx.strs,H.fx.EA,H.fx.BT,fun x I=>?_,H.fx.elems,H.fx.defs,Bn ⟨_,I,ps,J,X⟩ H.fx.looks,H.fx.L8,H.fx.CC,H.fx.CA⟩,H.ks,H.ls,H.ins⟩
   rcases List.mem_append.1 I with I|I
   ·exact d2 x I
   ·exact H.fx.Bs x I
  ·exact Bt v C e (cx:={cx with fx:={cx.fx with looks:=(m,key,none)::cx.fx.looks}}) q.2.2 hs ⟨⟨H.fx.DN,H.fx.tests,H.fx.strs,H.fx.EA,H.fx.BT,H.fx.Bs,H.fx.elems,H.fx.defs,Bn ⟨_,I,hn⟩ H.fx.looks,H.fx.L8,H.fx.CC,H.fx.CA⟩,H.ks,H.ls,H.ins⟩
 |.up m key cs sh k,cx,o,q,hs,H=>by
  simp only [Tree.ok,aT]at q
  obtain ⟨ps,J,B,hs⟩:=hs
  have I:DZ (vf.env T) key=some (Bq vf.e key):=by rw [Ep];exact Gh q.1
  have L:vf.m.getD cx.cnt.m []=By (vf.m.getD m []) (Bq vf.e key) ps:=B.map 0 (by simp)
  exact Bt v C k q.2.2.2 hs ⟨⟨H.fx.DN,H.fx.tests,H.fx.strs,H.fx.EA,H.fx.BT,H.fx.Bs,H.fx.elems,H.fx.defs,H.fx.looks,Bn ⟨_,ps,I,GC H.fx q.2.1 q.2.2.1 J,L⟩ H.fx.L8,H.fx.CC,H.fx.CA⟩,H.ks,H.ls,H.ins⟩
 |.K4 es sh k,cx,o,q,hs,H=>by
  simp only [Tree.ok,aT]at q
  obtain ⟨l,hl,B,hs⟩:=hs
  have L:vf.m.getD cx.cnt.m []=l:=B.map 0 (by simp)
  have d:=JU H.fx q.1 hl
  refine Bt v C k q.2 hs ⟨⟨H.fx.DN,H.fx.tests,H.fx.strs,H.fx.EA,H.fx.BT,H.fx.Bs,H.fx.elems,H.fx.defs,H.fx.looks,H.fx.L8,H.fx.CC,Bn ?_ H.fx.CA⟩,H.ks,H.ls,H.ins⟩
  show Adq _ _ (vf.m.getD cx.cnt.m [])
  rw [L];exact d
 |.bump t n k,cx,o,q,hs,H=>by
  simp only [Tree.ok]at q
  obtain ⟨Q,B,hs⟩:=hs
  have L:vf.n.getD cx.cnt.n 0=t.den vf.e+n:=B.val 0 (by simp)
  refine Bt v C k q hs ⟨⟨H.fx.DN,H.fx.tests,H.fx.strs,H.fx.EA,H.fx.BT,H.fx.Bs,H.fx.elems,H.fx.defs,H.fx.looks,H.fx.L8,Bn ?_ H.fx.CC,H.fx.CA⟩,H.ks,H.ls,H.ins⟩
  show t.den vf.e+n<=vf.n.getD cx.cnt.n 0/\vf.n.getD cx.cnt.n 0<=1048576
  rw [L];exact ⟨Int.le_refl _,Q⟩
 |.Ou z k,cx,o,q,hs,H=>by
  simp only [Tree.ok]at q
  exact Bt v C k q hs ⟨⟨H.fx.DN,H.fx.tests,H.fx.strs,H.fx.EA,H.fx.BT,H.fx.Bs,H.fx.elems,H.fx.defs,H.fx.looks,H.fx.L8,H.fx.CC,H.fx.CA⟩,H.ks,H.ls,H.ins⟩
 |.call c alt τ u k e,cx,o,q,hs,H=>by
  simp only [Tree.ok,aT]at q
  rcases hs with ⟨w,O,B,hs⟩|hs
  ·obtain ⟨ae,Y,U⟩:=Ac (Fz.1 q.1)
   simp only [oI]at U
   obtain ⟨H',V⟩:=Cx.YL C H Y O B
   exact Bt v C k U (by rw [V];exact hs) H'
  ·exact Bt v C e q.2 hs H
noncomputable def Spec.ok (S:List (Nat×Spec)) (run:LD) (sp:Spec) (t:Tree):Bool:=
 t.Ce sp.ins&&t.ok S run sp.f sp.alts ⟨sp.ins,{},[],Jr {} sp.ins⟩
theorem At.zero (v r:Aj):At (v.app r) {} v:=⟨{},r,rfl,by
 apply Aj.ext'<;>simp [Aj.app]⟩
theorem Un {sp:Spec} {t:Tree} (q:NQ P T sp.f run) (H:Good P T S M) (j:sp.ok S run t=true) {v w:Aj} {a:Nat} (h:t.eval M v=some (a,w)) (z:v.cnt=sp.ins):∃A,sp.alts[a]?=some A/\w.cnt=A.outs/\A.w.Holds P ((v.app w).env T) sp.f:=by
 unfold Spec.ok at j
 rw [aT]at j
 obtain ⟨r,C⟩:=Bw t (by rw [z];exact j.1) h
 rw [z]at C
 refine Bt (vf:=v.app r) (ins:=v) q H t j.2 C ⟨Ao.AI.none _,fun x B=>(by cases B),fun x B=>(by cases B),?_⟩
 have:=LS (At.zero v r)
 rw [z]at this
 exact this
def Ad7 (P:Program) (T:Nat->Option Obj) (S:List (Nat×Spec)) (trees:Nat->Tree):Prop:=
 ∀c sp,Fa c S=some sp->∃q run,(∀v j,Fa v q=some j->Fa v S=some j)/\NQ P T sp.f run/\sp.ok q run (trees c)=true
theorem Tn {trees:Nat->Tree} (h:Ad7 P T S trees):∀N,Good P T S (mir trees N)
 |0=>fun c sp _ v a w q _=>by cases q
 |N+1=>fun c sp B v a w q H=>by
  have ih:=Tn h N
  obtain ⟨J,run,I,x,A⟩:=h c sp B
  exact Un x (fun z j C=>ih z j (I z j C)) A q H
end
end
section
def VI (P:Program) (pl:List Cq) (i:Nat):Option E4:=
 match P.funcs[i]? with
 |some fn=>bif fn.name== "runtime.NumGoroutine" then none else EJ P pl fn
 |none=>none
theorem TI {P:Program} {pl:List Cq} {i:Nat} {F:E4} (h:VI P pl i=some F):∃fn,P.funcs[i]?=some fn/\EJ P pl fn=some F/\(fn.name== "runtime.NumGoroutine")=false:=by
 unfold VI at h
 split at h
 ·rename_i fn hf
  cases e:fn.name== "runtime.NumGoroutine" with
  |true=>rw [e]at h;cases h
  |false=>rw [e]at h;exact ⟨fn,hf,h,e⟩
 ·cases h
theorem all_cons {α:Type} {p:α->Prop} {x:α} {l:List α} (h:p x) (q:∀y∈l,p y):∀y∈x::l,p y:=fun y j=>by
 rcases List.mem_cons.1 j with rfl|j
 ·exact h
 ·exact q y j
theorem all_nil {α:Type} {p:α->Prop}:∀y∈([]:List α),p y:=fun y j=>by cases j
end
section
def SU (g:Nat):List (Nat×BR)->List BR
 |[]=>[]
 |x::r=>bif Nat.beq x.1 g then x.2::SU g r else SU g r
noncomputable def XU (ks:List (Nat×BR)):List (Nat×BR)->List (Nat×Bm)->List (Nat×Bm)
 |[],l=>l
 |x::r,l=>(x.1,JW (SU x.1 ks))::XU ks r l
noncomputable def H8 (DG:FuncId->Option E4) (fixed:Ao->List (Nat×Bm)) (fuel d q f:Nat):LD:=fun Γ ks w j=>
 match w with
 |.call x=>Abe Γ x j (Af7 Γ (fun g=>SX g (XU ks ks (fixed Γ))) DG fuel d f x.args (AY x.pre (empty q Γ)))
 |.loop k=>match DG f with
  |some F=>UC Γ k j (Re Γ (Ly Γ.bare (fun g=>SX g (XU ks ks (fixed Γ))) DG fuel d) fuel q F k)
  |none=>false
section
variable {P:Program} {pl:List Cq} {T:Nat->Option Obj} {DG:FuncId->Option E4} {fixed:Ao->List (Nat×Bm)}
theorem Kx {g:Nat} {x:BR}:∀{l:List (Nat×BR)},x∈SU g l->(g,x)∈l
 |[],h=>by cases h
 |y::r,h=>by
  simp only [SU]at h
  cases hc:Nat.beq y.1 g with
  |true=>
   rw [hc]at h
   simp only [cond_true,List.mem_cons]at h
   have e:=An.1 hc
   rcases h with rfl|h
   ·rw [<-e];exact List.mem_cons_self
   ·exact List.mem_cons_of_mem _ (Kx h)
  |false=>rw [hc]at h;exact List.mem_cons_of_mem _ (Kx h)
theorem MA {ρ:Env} {ks:List (Nat×BR)} (j:∀x∈ks,Go.AM.Holds P ρ x.1 x.2) {l:List (Nat×Bm)} (hl:∀x∈l,Cy P ρ x.1 x.2):∀(r:List (Nat×BR)),∀x∈XU ks r l,Cy P ρ x.1 x.2
 |[],x,hx=>hl x hx
 |y::r,x,hx=>by
  simp only [XU,List.mem_cons]at hx
  rcases hx with rfl|hx
  ·exact HO fun z q=>j _ (Kx q)
  ·exact MA j hl r x hx
theorem OW (v:P.follows .mixedOrders=true) (A:PI P pl DG) (B:∀Γ (ρ:Env),ρ.AQ=T->Γ.AI ρ->∀x∈fixed Γ,Cy P ρ x.1 x.2) (fuel d L f:Nat):NQ P T f (H8 DG fixed fuel d L f):=by
 intro Γ ks w M ρ H hΓ C q j
 have z:∀g o,SX g (XU ks ks (fixed Γ))=some o->Cy P ρ g o:=fun g o J=>MA C (B Γ ρ H hΓ) ks _ (OU J)
 cases w with
 |call x=>exact Rq hΓ (Ue hΓ v A z d (UZ q)) j
 |loop k=>
  simp only [H8]at j
  split at j
  ·rename_i F I
   exact Oj hΓ (HU hΓ.bare rfl v A z d) v A I q j
  ·cases j
end
theorem VO {r q:Option Out} (B:∀o,r=some o->q=some o) {j:Nat} {u:CN} {k x:Aj->Option Out} (z:∀w o,k w=some o->x w=some o) {e v:Option Out} (A:∀o,e=some o->v=some o) {o:Out} (h:Lz r j u k e=some o):Lz q j u x v=some o:=by
 unfold Lz at h⊢
 cases hr':r with
 |none=>rw [hr']at h;cases h
 |some w=>
  rw [hr']at h
  rw [B w hr']
  simp only at h⊢
  split at h
  ·rename_i ha;rw [if_pos ha];exact z _ _ h
  ·rename_i ha;rw [if_neg ha];exact A _ h
theorem VB {l:List (List PV)} {j:Int} {q:List CK} {k v:Aj->Option Out} (x:∀w o,k w=some o->v w=some o) {o:Out} (h:Nu l j q k=some o):Nu l j q v=some o:=by
 unfold Nu at h⊢
 split at h
 ·rename_i z
  rw [if_pos z]
  cases hg:l[j.toNat]? with
  |none=>rw [hg]at h;cases h
  |some ps=>
   rw [hg]at h
   simp only at h⊢
   cases hr:CP q ps with
   |none=>rw [hr]at h;cases h
   |some w=>rw [hr]at h;exact x _ _ h
 ·cases h
theorem Vd {m:List (List Nat×List PV)} {s:List Nat} {j:List CK} {k v:Aj->Option Out} (x:∀w o,k w=some o->v w=some o) {e q:Option Out} (z:∀o,e=some o->q=some o) {o:Out} (h:IX m s j k e=some o):IX m s j v q=some o:=by
 unfold IX at h⊢
 cases hg:Bj m s with
 |none=>rw [hg]at h;exact z _ h
 |some ps=>
  rw [hg]at h
  simp only at h⊢
  cases hr:CP j ps with
  |none=>rw [hr]at h;cases h
  |some w=>rw [hr]at h;exact x _ _ h
theorem IQ {α:Type} {r:Option α} {k j:α->Option Out} (q:∀w o,k w=some o->j w=some o) {o:Out} (h:Hv r k=some o):Hv r j=some o:=by
 unfold Hv at h⊢
 cases r with
 |none=>cases h
 |some a=>exact q _ _ h
theorem Ey {c:Prop} [Decidable c] {a j b q:Option Out} (ha:∀o,a=some o->j=some o) (hb:∀o,b=some o->q=some o) {o:Out} (h:(if c then a else b)=some o):(if c then j else q)=some o:=by
 split at h
 ·rename_i hc;rw [if_pos hc];exact ha _ h
 ·rename_i hc;rw [if_neg hc];exact hb _ h
theorem AU {M M':Wc} (j:∀c v o,M c v=some o->M' c v=some o):∀(t:Tree) (v:Aj) (o:Out),t.eval M v=some o->t.eval M' v=some o
 |.fail,_,_,h=>by cases h
 |.leaf _ _ _,_,_,h=>h
 |.test _ _ _ t e,v,_,h=>Ey (AU j t v) (AU j e v) h
 |.B9 _ _ t e,v,_,h=>Ey (AU j t v) (AU j e v) h
 |.sets _ _ t e,v,_,h=>Ey (AU j t v) (AU j e v) h
 |.elem _ _ _ k,v,_,h=>VB (fun w=>AU j k (v.app w)) h
 |.Bs _ _ k,v,_,h=>Ey (AU j k v) (fun _ h=>h) h
 |.BT s _ _ k,v,_,h=>Ey (AU j k (v.app {n:=[((v.s.getD s []).length:Int)]})) (fun _ h=>h) h
 |.FN _ _ t e,v,_,h=>Ey (AU j t v) (AU j e v) h
 |.cat x y k,v,_,h=>Ey (AU j k (v.app {s:=[Bq v.e x++Bq v.e y]})) (fun _ h=>h) h
 |.JY _ _ k,v,_,h=>IQ (fun l=>AU j k (v.app {n:=[(l.length:Int)],l:=[l]})) h
 |.look _ _ _ t e,v,_,h=>Vd (fun w=>AU j t (v.app w)) (AU j e v) h
 |.up m key _ _ k,v,_,h=>IQ (fun ps=>AU j k (v.app {m:=[By (v.m.getD m []) (Bq v.e key) ps]})) h
 |.K4 _ _ k,v,_,h=>IQ (fun l=>AU j k (v.app {m:=[l]})) h
 |.bump t n k,v,_,h=>Ey (AU j k (v.app {n:=[t.den v.e+n]})) (fun _ h=>h) h
 |.Ou _ k,v,_,h=>AU j k v _ h
 |.call c _ τ _ k e,v,_,h=>VO (j c (τ.vals v.e)) (fun w=>AU j k (v.app w)) (AU j e v) h
theorem Te {trees:Nat->Tree}:∀(N c:Nat) (v:Aj) (o:Out),mir trees N c v=some o->mir trees (N+1) c v=some o
 |0,_,_,_,h=>by cases h
 |N+1,c,v,o,h=>AU (Te N) (trees c) v o h
theorem Rb {trees:Nat->Tree} {N j:Nat} (h:N<=j) {c:Nat} {v:Aj} {o:Out} (q:mir trees N c v=some o):mir trees j c v=some o:=by
 induction h with
 |refl=>exact q
 |step _ ih=>exact Te _ _ _ _ ih
def Ej (trees:Nat->Tree) (c:Nat) (v:Aj) (Q:Out->Prop):Prop:=∃N o,mir trees N c v=some o/\Q o
abbrev Ai4:=Nat->Aj->(Out->Prop)->Prop
def Xl (l:List (List PV)) (j:Int) (q:List CK) (k:Aj->Prop):Prop:=
 0<=j/\match l[j.toNat]? with
  |some ps=>(match CP q ps with|some w=>k (w.fit (HQ q)) |none=>False)
  |none=>False
def OZ (m:List (List Nat×List PV)) (s:List Nat) (j:List CK) (k:Aj->Prop) (e:Prop):Prop:=
 match Bj m s with
 |some ps=>(match CP j ps with|some w=>k (w.fit (HQ j)) |none=>False)
 |none=>e
def Jz {α:Type} (r:Option α) (k:α->Prop):Prop:=
 match r with
 |some a=>k a
 |none=>False
abbrev AlF (g:(Out->Prop)->Prop) (j:Nat) (u:CN) (k:Aj->Prop) (e:Prop):Prop:=g fun o=>if o.1=j then k (o.2.fit u)else e
def Tree.wp (G:Ai4) (Q:Out->Prop):Tree->Aj->Prop
 |.fail,_=>False
 |.leaf alt _ τ,v=>Q (alt,τ.vals v.e)
 |.test op a b t e,v=>if LZ op (a.den v.e) (b.den v.e)then t.wp G Q v else e.wp G Q v
 |.B9 i n t e,v=>if v.n.getD i 0=n then t.wp G Q v else e.wp G Q v
 |.sets i s t e,v=>if v.s.getD i []=s then t.wp G Q v else e.wp G Q v
 |.elem l j sh k,v=>Xl (v.l.getD l []) (j.den v.e) sh fun w=>k.wp G Q (v.app w)
 |.Bs l t k,v=>if t.den v.e=((v.l.getD l []).length:Int)then k.wp G Q v else False
 |.BT s lo hi k,v=>if lo<=(v.s.getD s []).length/\(v.s.getD s []).length<=hi then k.wp G Q (v.app {n:=[((v.s.getD s []).length:Int)]})else False
 |.FN x y t e,v=>if Bq v.e x=Bq v.e y then t.wp G Q v else e.wp G Q v
 |.cat x y k,v=>if (Bq v.e x).length+(Bq v.e y).length<=1048576 then k.wp G Q (v.app {s:=[Bq v.e x++Bq v.e y]})else False
 |.JY ps sh k,v=>Jz (C3 v.e sh ps) fun l=>k.wp G Q (v.app {n:=[(l.length:Int)],l:=[l]})
 |.look m key sh t e,v=>OZ (v.m.getD m []) (Bq v.e key) sh (fun w=>t.wp G Q (v.app w)) (e.wp G Q v)
 |.up m key cs sh k,v=>Jz (Cw v.e sh cs) fun ps=>k.wp G Q (v.app {m:=[By (v.m.getD m []) (Bq v.e key) ps]})
 |.K4 es sh k,v=>Jz (CB v.e sh es) fun l=>k.wp G Q (v.app {m:=[l]})
 |.bump t n k,v=>if t.den v.e+n<=1048576 then k.wp G Q (v.app {n:=[t.den v.e+n]})else False
 |.Ou _ k,v=>k.wp G Q v
 |.call c alt τ u k e,v=>AlF (G c (τ.vals v.e)) alt u (fun w=>k.wp G Q (v.app w)) (e.wp G Q v)
theorem BE {trees:Nat->Tree} {Q:Out->Prop}:∀(t:Tree) (v:Aj),t.wp (Ej trees) Q v->∃N o,t.eval (mir trees N) v=some o/\Q o
 |.fail,_,h=>h.elim
 |.leaf alt _ τ,v,h=>⟨0,_,rfl,h⟩
 |.test op a b t e,v,h=>by
  simp only [Tree.wp]at h
  simp only [Tree.eval]
  split at h
  ·rename_i hc;simp only [if_pos hc];exact BE t v h
  ·rename_i hc;simp only [if_neg hc];exact BE e v h
 |.B9 i n t e,v,h=>by
  simp only [Tree.wp]at h
  simp only [Tree.eval]
  split at h
  ·rename_i hc;simp only [if_pos hc];exact BE t v h
  ·rename_i hc;simp only [if_neg hc];exact BE e v h
 |.sets i s t e,v,h=>by
  simp only [Tree.wp]at h
  simp only [Tree.eval]
  split at h
  ·rename_i hc;simp only [if_pos hc];exact BE t v h
  ·rename_i hc;simp only [if_neg hc];exact BE e v h
 |.elem l j sh k,v,h=>by
  simp only [Tree.wp,Xl]at h
  obtain ⟨I,h⟩:=h
  simp only [Tree.eval,Nu,if_pos I]
  cases hg:(v.l.getD l [])[(j.den v.e).toNat]? with
  |none=>rw [hg]at h;exact h.elim
  |some ps=>
   rw [hg]at h
   simp only at h⊢
   cases hr:CP sh ps with
   |none=>rw [hr]at h;exact h.elim
   |some w=>rw [hr]at h;exact BE k _ h
 |.Bs l t k,v,h=>by
  simp only [Tree.wp]at h
  simp only [Tree.eval]
  split at h
  ·rename_i hc;simp only [if_pos hc];exact BE k _ h
  ·exact h.elim
 |.BT s lo hi k,v,h=>by
  simp only [Tree.wp]at h
  simp only [Tree.eval]
  split at h
  ·rename_i hc;simp only [if_pos hc];exact BE k _ h
  ·exact h.elim
 |.FN x y t e,v,h=>by
  simp only [Tree.wp]at h
  simp only [Tree.eval]
  split at h
  ·rename_i hc;simp only [if_pos hc];exact BE t v h
  ·rename_i hc;simp only [if_neg hc];exact BE e v h
 |.cat x y k,v,h=>by
  simp only [Tree.wp]at h
  simp only [Tree.eval]
  split at h
  ·rename_i hc;simp only [if_pos hc];exact BE k _ h
  ·exact h.elim
 |.JY ps sh k,v,h=>by
  simp only [Tree.wp,Jz]at h
  simp only [Tree.eval,Hv]
  cases hg:C3 v.e sh ps with
  |none=>rw [hg]at h;exact h.elim
  |some l=>rw [hg]at h;exact BE k _ h
 |.look m key sh t e,v,h=>by
  simp only [Tree.wp,OZ]at h
  simp only [Tree.eval,IX]
  cases hg:Bj (v.m.getD m []) (Bq v.e key)with
  |none=>rw [hg]at h;exact BE e _ h
  |some ps=>
   rw [hg]at h
   simp only at h⊢
   cases hr:CP sh ps with
   |none=>rw [hr]at h;exact h.elim
   |some w=>rw [hr]at h;exact BE t _ h
 |.up m key cs sh k,v,h=>by
  simp only [Tree.wp,Jz]at h
  simp only [Tree.eval,Hv]
  cases hg:Cw v.e sh cs with
  |none=>rw [hg]at h;exact h.elim
  |some l=>rw [hg]at h;exact BE k _ h
 |.K4 es sh k,v,h=>by
  simp only [Tree.wp,Jz]at h
  simp only [Tree.eval,Hv]
  cases hg:CB v.e sh es with
  |none=>rw [hg]at h;exact h.elim
  |some l=>rw [hg]at h;exact BE k _ h
 |.bump t n k,v,h=>by
  simp only [Tree.wp]at h
  simp only [Tree.eval]
  split at h
  ·rename_i hc;simp only [if_pos hc];exact BE k _ h
  ·exact h.elim
 |.Ou _ k,v,h=>by
  simp only [Tree.wp]at h
  exact BE k v h
 |.call c alt τ u k e,v,h=>by
  simp only [Tree.wp]at h
  obtain ⟨N,o,H,z⟩:=h
  split at z
  ·rename_i ha
   obtain ⟨q,B,A,C⟩:=BE k _ z
   refine ⟨max N q,B,?_,C⟩
   simp only [Tree.eval,Lz,Rb (Nat.le_max_left N q) H,if_pos ha]
   exact AU (fun _ _ _=>Rb (Nat.le_max_right N q)) k _ _ A
  ·rename_i ha
   obtain ⟨q,B,A,C⟩:=BE e _ z
   refine ⟨max N q,B,?_,C⟩
   simp only [Tree.eval,Lz,Rb (Nat.le_max_left N q) H,if_neg ha]
   exact AU (fun _ _ _=>Rb (Nat.le_max_right N q)) e _ _ A
theorem Tq {trees:Nat->Tree} {c:Nat} {v:Aj} {Q:Out->Prop} (h:(trees c).wp (Ej trees) Q v):Ej trees c v Q:=by
 obtain ⟨N,o,q,j⟩:=BE _ _ h
 exact ⟨N+1,o,q,j⟩
theorem Ej.elim {trees:Nat->Tree} {c:Nat} {v:Aj} {R:Out->Prop} (h:Ej trees c v R):∃o,R o/\∀Q:Out->Prop,Q o->Ej trees c v Q:=by
 obtain ⟨N,o,q,j⟩:=h
 exact ⟨o,j,fun Q x=>⟨N,o,q,x⟩⟩
def Zs (c:Nat):List (Nat×Tree)->Tree
 |[]=>.fail
 |x::r=>bif Nat.beq x.1 c then x.2 else Zs c r
def Adp (P:Program) (T:Nat->Option Obj) (S:List (Nat×Spec)) (sp:Spec) (t:Tree):Prop:=
 ∃v run,(∀q j,Fa q v=some j->Fa q S=some j)/\NQ P T sp.f run/\sp.ok v run t=true
def Sub (v S:List (Nat×Spec)):Prop:=∀q j,Fa q v=some j->Fa q S=some j
theorem AdM {S:List (Nat×Spec)}:Sub [] S:=fun _ _ h=>by cases h
theorem Aau {q S:List (Nat×Spec)} {c:Nat} {sp:Spec} (h:Fa c S=some sp) (x:Sub q S):Sub ((c,sp)::q) S:=fun v z j=>by
 simp only [Fa]at j
 cases e:Nat.beq c v with
 |true=>
  rw [e]at j
  simp only [cond_true,oI]at j
  rw [<-j,<-An.1 e];exact h
 |false=>rw [e]at j;exact x _ _ j
def Ad8 (P:Program) (T:Nat->Option Obj) (S:List (Nat×Spec)) (tr:Nat->Tree):List (Nat×Spec)->Prop
 |[]=>True
 |x::r=>Adp P T S x.2 (tr x.1)/\Ad8 P T S tr r
theorem Pt {c:Nat} {sp:Spec}:∀{l:List (Nat×Spec)},Fa c l=some sp->(c,sp)∈l
 |[],h=>by cases h
 |x::r,h=>by
  simp only [Fa]at h
  cases e:Nat.beq x.1 c with
  |true=>
   rw [e]at h
   simp only [cond_true,oI]at h
   rw [<-An.1 e,<-h];exact List.mem_cons_self
  |false=>rw [e]at h;exact List.mem_cons_of_mem _ (Pt h)
theorem Ad8.mem {P:Program} {T:Nat->Option Obj} {S:List (Nat×Spec)} {tr:Nat->Tree}:∀{l:List (Nat×Spec)},Ad8 P T S tr l->∀x∈l,Adp P T S x.2 (tr x.1)
 |[],_,x,hx=>by cases hx
 |y::r,h,x,hx=>by
  rcases List.mem_cons.1 hx with rfl|hx
  ·exact h.1
  ·exact Ad8.mem h.2 x hx
theorem Adb {P:Program} {T:Nat->Option Obj} {S:List (Nat×Spec)} {tr:Nat->Tree} (h:Ad8 P T S tr S):Ad7 P T S tr:=fun c sp hc=>h.mem (c,sp) (Pt hc)
def Tree.parts:Nat->Tree->Cx->List (Tree×Cx)
 |d+1,.test op a b t e,cx=>t.parts d (cx.test op a b true)++e.parts d (cx.test op a b false)
 |_,t,cx=>[(t,cx)]
theorem Tree.M6 {S:List (Nat×Spec)} {run:LD} {f:Nat} {alts:List Alt}:∀(d:Nat) (t:Tree) (cx:Cx),(∀p∈t.parts d cx,p.1.ok S run f alts p.2=true)->t.ok S run f alts cx=true
 |0,t,cx,h=>by cases t<;>exact h _ List.mem_cons_self
 |d+1,t,cx,h=>by
  cases t with
  |test op a b t e=>
   simp only [Tree.parts,List.mem_append]at h
   simp only [Tree.ok,aT]
   exact ⟨Tree.M6 d t _ fun p j=>h p (.inl j),Tree.M6 d e _ fun p j=>h p (.inr j)⟩
  |_=>exact h _ List.mem_cons_self
noncomputable def Spec.QW (S:List (Nat×Spec)) (run:LD) (sp:Spec) (t:Tree) (d n i:Nat):Bool:=
 BX (fun p:Tree×Cx=>p.1.ok S run sp.f sp.alts p.2) (((t.parts d ⟨sp.ins,{},[],Jr {} sp.ins⟩).drop (n*i)).take n)
theorem Spec.AjP {S:List (Nat×Spec)} {run:LD} {sp:Spec} {t:Tree} (d n k:Nat) (hb:t.Ce sp.ins=true) (hl:Nat.ble (t.parts d ⟨sp.ins,{},[],Jr {} sp.ins⟩).length (n*k)=true) (h:∀i,i<k->sp.QW S run t d n i=true):sp.ok S run t=true:=by
 unfold Spec.ok
 rw [aT]
 refine ⟨hb,Tree.M6 d t _ fun p z=>?_⟩
 obtain ⟨j,x⟩:=List.mem_iff_getElem?.1 z
 have B:=(List.getElem?_eq_some_iff.1 x).1
 have hl:=Nat.le_of_ble_eq_true hl
 have v:0<n:=by
  rcases Nat.eq_zero_or_pos n with e|e
  ·subst e;rw [Nat.zero_mul]at hl;omega
  ·exact e
 have q:=Nat.div_add_mod j n
 have A:=Nat.mod_lt j v
 refine Fi (h (j/n) ?_) p (List.mem_iff_getElem?.2 ⟨j%n,?_⟩)
 ·exact (Nat.div_lt_iff_lt_mul v).2 (by rw [Nat.mul_comm];omega)
 ·rw [List.getElem?_take,if_pos A,List.getElem?_drop,q];exact x
end
section
namespace Dc
noncomputable section
def fc {α:Type} (n:Nat) (f:Nat->α):α:=Nat.casesOn (motive:=fun _=>α) n (f 0) fun m=>f (Nat.succ m)
def D (α:Type):=CN->Nat->α×CN×Nat
def rt {α:Type} (a:α):D α:=fun c N=>(a,c,N)
def bd {α β:Type} (p:D α) (f:α->D β):D β:=fun c N=>Prod.casesOn (motive:=fun _=>β×CN×Nat) (p c N) fun a r=>Prod.casesOn (motive:=fun _=>β×CN×Nat) r fun c N=>f a c N
def dg (k:Nat):D Nat:=fun c N=>fc (N%k) fun d=>fc (N/k) fun M=>(d,c,M)
def nt:D Nat:=bd (dg 32) fun d=>bif Nat.beq d 31 then bd (dg 128) fun e=>bif Nat.beq e 127 then dg 18446744073709551616 else fc (31+e) rt else rt d
def pk {α:Type} (d:α) (l:List α):Nat->α:=List.rec (motive:=fun _=>Nat->α) (fun _=>d) (fun x _ ih n=>Nat.casesOn (motive:=fun _=>α) n x ih) l
def ch {α:Type} (d:D α) (l:List (D α)):D α:=bd (dg l.length) (pk d l)
def li {α:Type} (p:D α) (n:Nat):D (List α):=Nat.rec (motive:=fun _=>D (List α)) (rt []) (fun _ ih=>bd p fun a=>bd ih fun l=>rt (a::l)) n
def ls {α:Type} (p:D α):D (List α):=bd nt (li p)
def pr {α β:Type} (p:D α) (q:D β):D (α×β):=bd p fun a=>bd q fun b=>rt (a,b)
def m1 {α β:Type} (f:α->β) (p:D α):D β:=bd p fun a=>rt (f a)
def m2 {α β γ:Type} (f:α->β->γ) (p:D α) (q:D β):D γ:=bd p fun a=>bd q fun b=>rt (f a b)
def m3 {α β γ δ:Type} (f:α->β->γ->δ) (p:D α) (q:D β) (r:D γ):D δ:=bd p fun a=>bd q fun b=>bd r fun c=>rt (f a b c)
def m4 {α β γ δ ε:Type} (f:α->β->γ->δ->ε) (p:D α) (q:D β) (r:D γ) (s:D δ):D ε:=bd p fun a=>bd q fun b=>bd r fun c=>bd s fun d=>rt (f a b c d)
def m5 {α β γ δ ε ζ:Type} (f:α->β->γ->δ->ε->ζ) (p:D α) (q:D β) (r:D γ) (s:D δ) (t:D ε):D ζ:=bd p fun a=>bd q fun b=>bd r fun c=>bd s fun d=>bd t fun e=>rt (f a b c d e)
def fn:D Nat:=fun c N=>CN.casesOn (motive:=fun _=>Nat×CN×Nat) c fun n s l m=>fc (Nat.succ n) fun x=>(n,⟨x,s,l,m⟩,N)
def fs:D Nat:=fun c N=>CN.casesOn (motive:=fun _=>Nat×CN×Nat) c fun n s l m=>fc (Nat.succ s) fun x=>(s,⟨n,x,l,m⟩,N)
def fl:D Nat:=fun c N=>CN.casesOn (motive:=fun _=>Nat×CN×Nat) c fun n s l m=>fc (Nat.succ l) fun x=>(l,⟨n,s,x,m⟩,N)
def fm:D Nat:=fun c N=>CN.casesOn (motive:=fun _=>Nat×CN×Nat) c fun n s l m=>fc (Nat.succ m) fun x=>(m,⟨n,s,l,x⟩,N)
def gc:D CN:=fun c N=>(c,c,N)
def sc (c:CN):D Unit:=fun _ N=>((),c,N)
def dK:D IntKind:=bd (dg 8) fun d=>rt (pk .i64 [.i64,.i32,.u8,.i8,.i16,.u16,.u32,.u64] d)
def dO:D BinOp:=bd (dg 17) fun d=>rt (pk .add [.add,.sub,.mul,.quo,.rem,.and,.or,.xor,.shl,.shr,.andNot,.eql,.neq,.lss,.leq,.gtr,.geq] d)
def dB:D Bool:=bd (dg 2) fun d=>rt (Nat.beq d 1)
def dI:D Int:=ch (rt 0) [m1 Int.ofNat nt,m1 Int.negSucc nt]
def dT (f:Nat):D ST:=Nat.rec (motive:=fun _=>D ST) (rt (.lit 0)) (fun _ r=>ch (rt (.lit 0)) [m1 .var nt,m1 (fun d=>.lit (.ofNat d)) nt,m4 .bin dO dK r r,ch (rt (.lit 0)) [m2 .conv dK r,m1 (fun d=>.lit (.negSucc d)) nt,rt (.lit (.negSucc 1099511627775))]]) f
def dS (f:Nat):D SB:=Nat.rec (motive:=fun _=>D SB) (rt (.lit true)) (fun _ r=>ch (rt (.lit true)) [m1 .lit dB,m3 .cmp dO (dT 50) (dT 50),m1 .no r]) f
def dA (f:Nat):D Aa:=Nat.rec (motive:=fun _=>D Aa) (rt .any) (fun _ r=>ch (rt .any) [
 rt .any,m1 .bool (dS 9),m2 .int dK (dT 50),m1 .str (ls nt),m2 .ptr nt nt,rt .nilPtr,m4 .slice nt nt nt nt,m4 .gslice nt nt nt nt,rt .nilSlice,m1 .map nt,rt .nilMap,m3 .func nt (ls r) (ls r),rt .nilFunc,m2 .iface nt r,rt .nilIface,
 m1 .agg (ls r),m1 .tuple (ls r),m1 .anyStr nt,m1 .gbytes nt,m1 .glen nt,m1 .svar nt,m4 .lst dB nt nt (dT 50),m3 .lptr nt (dT 50) nt,m3 .vec nt nt (dT 50),m4 .vptr nt nt (dT 50) nt,
 m1 (fun n=>.int .i64 (.var n)) fn,m2 (fun k n=>.int k (.var n)) dK fn,m1 (fun n=>.bool (.cmp .neq (.var n) (.lit (.ofNat 0)))) fn,m1 .svar fs,m4 (fun f e l n=>.lst f l e (.var n)) dB nt fl fn,m3 (fun b e n=>.vec b e (.var n)) nt nt fn,m1 (fun d=>.int .i64 (.lit (.ofNat d))) (dg 8)]) f
def dV:D Aa:=dA 50
def dBl:D Block:=ch (rt (.cells [])) [m1 .cells (ls dV),m2 (fun c e=>.map e c) nt (ls (m3 Entry.mk dV dV nt)),m2 .typed nt (ls dV),m2 .bytes nt nt,m2 .sbytes (dT 50) nt,m2 .list nt nt,m1 .smap nt,m2 .list fl nt,m1 .smap fm,m2 (fun n e=>.sbytes (.var n) e) fn nt]
def dNs (n:Nat):Nat->D (List ST):=Nat.rec (motive:=fun _=>Nat->D (List ST)) (fun _=>rt []) (fun _ ih p=>bd (dg 2) fun b=>bif Nat.beq b 0 then fc (Nat.succ p) fun q=>bd (ih q) fun l=>rt (.var p::l)else
 bd (dT 50) fun t=>bd (match t with|.var i=>fc (Nat.succ i) ih|_=>fc (Nat.succ p) ih) fun l=>rt (t::l)) n
def dLs (n:Nat):Nat->D (List Nat):=Nat.rec (motive:=fun _=>Nat->D (List Nat)) (fun _=>rt []) (fun _ ih p=>bd (dg 2) fun b=>bif Nat.beq b 0 then fc (Nat.succ p) fun q=>bd (ih q) fun l=>rt (p::l)else
 bd nt fun t=>fc (Nat.succ t) fun q=>bd (ih q) fun l=>rt (t::l)) n
def dSs (n:Nat):Nat->D (List Aa):=Nat.rec (motive:=fun _=>Nat->D (List Aa)) (fun _=>rt []) (fun _ ih p=>bd (dg 2) fun b=>bif Nat.beq b 0 then fc (Nat.succ p) fun q=>bd (ih q) fun l=>rt (.svar p::l)else
 bd (dA 3) fun t=>bd (match t with|.svar i=>fc (Nat.succ i) ih|_=>fc (Nat.succ p) ih) fun l=>rt (t::l)) n
def AlB:D CI:=m4 CI.mk (bd nt fun n=>dNs n 0) (bd (dg 16) fun n=>dSs n 0) (bd (dg 16) fun n=>dLs n 0) (bd (dg 4) fun n=>dLs n 0)
def AlC:D CN:=m4 CN.mk nt (dg 16) (dg 16) (dg 4)
def dP:D AK:=ch (rt (.all 0)) [m1 .els (ls (ls (dA 50))),m1 .all nt,m2 .take nt (dT 50),m2 .drop nt (dT 50)]
def dQ:D Nat:=bd nt fun k=>bd (dg 2) fun b=>bif Nat.beq b 0 then rt k else fc (k+1099511627776) rt
def dTr (H:List (List CK)) (f:Nat):D Tree:=Nat.rec (motive:=fun _=>D Tree) (rt .fail) (fun _ r=>ch (rt .fail) [
 rt .fail,m3 .leaf (dg 8) (ls dQ) AlB,m5 .test (bd (dg 6) fun d=>rt (pk .eql [.eql,.neq,.lss,.leq,.gtr,.geq] d)) (dT 50) (dT 50) r r,
 m4 .B9 nt dI r r,m4 .sets nt (ls (dg 256)) r r,m4 .elem nt (dT 50) (m1 (pk [] H) nt) r,m3 .Bs nt (dT 50) r,m4 .BT nt nt nt r,m4 .FN (dA 3) (dA 3) r r,m3 .cat (dA 3) (dA 3) r,
 m3 .JY (ls dP) (m1 (pk [] H) nt) r,m5 .look nt (dA 3) (m1 (pk [] H) nt) r r,m5 .up nt (dA 3) (ls (dA 50)) (m1 (pk [] H) nt) r,
 m3 .K4 (ls (pr (dA 3) (ls (dA 50)))) (m1 (pk [] H) nt) r,m3 .bump (dT 50) nt r,bd dQ fun a=>m5 (fun b c d e k=>.Ou (a,b,c,d,e) k) nt nt nt nt r,
 bd (dg 256) fun c=>m5 (.call c) (dg 8) AlB AlC r r]) f
def tree (H:List (List CK)) (N:Nat):Tree:=(dTr H 5000 {} N).1
def iN (P:List Nat) (n:Nat):Nat:=bif Nat.ble 1099511627776 n then n-1099511627776+pk 0 P 0 else n
def iS (P:List Nat):ST->ST
 |.lit (.negSucc k)=>bif Nat.beq k 1099511627775 then .lit (.ofNat (pk 0 P 0))else bif Nat.beq k 1099511627774 then .lit (.ofNat (pk 0 P 1))else .lit (.negSucc k)
 |.bin o k a b=>.bin o k (iS P a) (iS P b)
 |.conv k a=>.conv k (iS P a)
 |t=>t
def Alx (s:ST->ST) (t:CI):CI:=⟨t.n.map s,t.s,t.l,t.m⟩
def inst (s:ST->ST) (P:List Nat):Tree->Tree
 |.leaf a nw t=>.leaf a (nw.map (iN P)) (Alx s t)
 |.test o a b t e=>.test o (s a) (s b) (inst s P t) (inst s P e)
 |.B9 i n t e=>.B9 i n (inst s P t) (inst s P e)
 |.sets i n t e=>.sets i n (inst s P t) (inst s P e)
 |.elem l j sh k=>.elem l j sh (inst s P k)
 |.Bs l t k=>.Bs l t (inst s P k)
 |.BT l a b k=>.BT l a b (inst s P k)
 |.FN x y t e=>.FN x y (inst s P t) (inst s P e)
 |.cat x y k=>.cat x y (inst s P k)
 |.JY ps sh k=>.JY ps sh (inst s P k)
 |.look m y sh t e=>.look m y sh (inst s P t) (inst s P e)
 |.up m y cs sh k=>.up m y cs sh (inst s P k)
 |.K4 es sh k=>.K4 es sh (inst s P k)
 |.bump t n k=>.bump t n (inst s P k)
 |.Ou (a,r) k=>.Ou (iN P a,r) (inst s P k)
 |.call c a t o k e=>.call (bif Nat.ble 240 c then pk 0 P (c-239)else c) a (Alx s t) o (inst s P k) (inst s P e)
 |.fail=>.fail
def cn (c0:CN):D CN:=bd gc fun c=>bd (dg 2) fun b=>bif Nat.beq b 0 then rt ⟨c.n-c0.n,c.s-c0.s,c.l-c0.l,c.m-c0.m⟩else AlC
def dPo (pre:List Block) (n:Nat):Nat->D (List (Option Block)):=Nat.rec (motive:=fun _=>Nat->D (List (Option Block))) (fun _=>rt []) (fun _ ih i=>bd (ch (rt none) [rt none,rt (some (pk (.cells []) pre i)),m1 some dBl]) fun b=>fc (Nat.succ i) fun j=>bd (ih j) fun l=>rt (b::l)) n
def dPs (pre:List Block):D (List (Option Block)):=bd nt fun n=>dPo pre n 0
def dSp:D Spec:=bd (dg 1024) fun f=>ch (rt ⟨0,{},[]⟩) [
 bd (ls dV) fun a=>bd (ls dBl) fun p=>bd (cn {}) fun i=>bd gc fun c=>m1 (Spec.mk f i) (ls (bd (sc c) fun _=>bd dV fun r=>bd (dPs p) fun q=>bd (cn c) fun o=>rt ⟨o,.call ⟨a,p,r,q⟩⟩)),
 bd nt fun id=>bd (ls (pr nt dV)) fun t=>bd (ls dBl) fun p=>bd (ls (pr nt (ls dV))) fun df=>bd (cn {}) fun i=>bd gc fun c=>m1 (Spec.mk f i) (ls (bd (sc c) fun _=>bd (ls (pr nt dV)) fun t'=>bd (dPs p) fun q=>bd dB fun j=>bd (cn c) fun o=>rt ⟨o,.loop ⟨id,t,p,t',q,df,j⟩⟩))]
def spec (N:Nat):Spec:=(dSp {} N).1
end
end Dc
end
section
noncomputable def Tree.E8 (S:List (Nat×Spec)) (f:Nat):Nat->Tree->Cx->List (Tree×Cx)
 |d+1,.test op a b t e,cx=>t.E8 S f d (cx.test op a b true)++e.E8 S f d (cx.test op a b false)
 |d+1,.B9 i n t e,cx=>t.E8 S f d (cx.B9 i n)++e.E8 S f d (cx.test .eql (.var i) (.lit n) false)
 |d+1,.call c alt τ o k e,cx=>Option.casesOn (motive:=fun _=>List (Tree×Cx)) (cx.call S f c alt τ o) [(.call c alt τ o k e,cx)] fun j=>k.E8 S f d j++e.E8 S f d cx
 |_,t,cx=>[(t,cx)]
theorem Tree.Ec {S:List (Nat×Spec)} {run:LD} {f:Nat} {alts:List Alt}:∀(d:Nat) (t:Tree) (cx:Cx),(∀p∈t.E8 S f d cx,p.1.ok S run f alts p.2=true)->t.ok S run f alts cx=true
 |0,t,cx,h=>by cases t<;>exact h _ List.mem_cons_self
 |d+1,t,cx,h=>by
  cases t with
  |test op a b t e=>
   simp only [Tree.E8,List.mem_append]at h
   simp only [Tree.ok,aT]
   exact ⟨Tree.Ec d t _ fun p j=>h p (.inl j),Tree.Ec d e _ fun p j=>h p (.inr j)⟩
  |B9 i n t e=>
   simp only [Tree.E8,List.mem_append]at h
   simp only [Tree.ok,aT]
   exact ⟨Tree.Ec d t _ fun p j=>h p (.inl j),Tree.Ec d e _ fun p j=>h p (.inr j)⟩
  |call c alt τ o k e=>
   simp only [Tree.E8]at h
   cases hc:cx.call S f c alt τ o with
   |none=>
    rw [hc]at h
    exact h (.call c alt τ o k e,cx) List.mem_cons_self
   |some cx'=>
    rw [hc]at h
    simp only [List.mem_append]at h
    have v:=Tree.Ec d k cx' fun p j=>h p (.inl j)
    have q:=Tree.Ec d e cx fun p j=>h p (.inr j)
    simp only [Tree.ok,aT,hc]
    exact ⟨by show CR (some (Tree.ok S run f alts k cx'))=true;rw [v];rfl,q⟩
  |_=>exact h _ List.mem_cons_self
noncomputable def Spec.FK (S:List (Nat×Spec)) (run:LD) (sp:Spec) (t:Tree) (d n i:Nat):Bool:=
 BX (fun p:Tree×Cx=>p.1.ok S run sp.f sp.alts p.2) (((t.E8 S sp.f d ⟨sp.ins,{},[],Jr {} sp.ins⟩).drop (n*i)).take n)
theorem Spec.AbE {S:List (Nat×Spec)} {run:LD} {sp:Spec} {t:Tree} (d n k:Nat) (hb:t.Ce sp.ins=true) (hl:Nat.ble (t.E8 S sp.f d ⟨sp.ins,{},[],Jr {} sp.ins⟩).length (n*k)=true) (h:∀i,i<k->sp.FK S run t d n i=true):sp.ok S run t=true:=by
 unfold Spec.ok
 rw [aT]
 refine ⟨hb,Tree.Ec d t _ fun p z=>?_⟩
 obtain ⟨j,x⟩:=List.mem_iff_getElem?.1 z
 have B:=(List.getElem?_eq_some_iff.1 x).1
 have hl:=Nat.le_of_ble_eq_true hl
 have v:0<n:=by
  rcases Nat.eq_zero_or_pos n with e|e
  ·subst e;rw [Nat.zero_mul]at hl;omega
  ·exact e
 have q:=Nat.div_add_mod j n
 have A:=Nat.mod_lt j v
 refine Fi (h (j/n) ?_) p (List.mem_iff_getElem?.2 ⟨j%n,?_⟩)
 ·exact (Nat.div_lt_iff_lt_mul v).2 (by rw [Nat.mul_comm];omega)
 ·rw [List.getElem?_take,if_pos A,List.getElem?_drop,q];exact x
end
end Go.AM
