/- Part 4 of MeaningCalls. -/
import Derived.Test.YtaolbokoijfhnaaGreatDoorJ3
set_option linter.all false
namespace Go.AM
section
def Env.of (AO:Nat->Option Obj) (n:List Int) (s:List (List Nat)) (l:List (List (List PV))) (m:List (List (List Nat×List PV))):Env:=
 {val:=fun i=>n.getD i 0,AO:=AO,str:=fun i=>s.getD i [],lst:=fun i=>l.getD i [],map:=fun i=>m.getD i []}
structure CE where
 n:List ST:=[]
 s:List Aa:=[]
 l:List Nat:=[]
 m:List Nat:=[]
def Bm (ρ:Env) (v:Aa):List Nat:=(DT ρ v).getD []
def Env.sub (ρ:Env) (τ:CE):Env:=Env.of ρ.AO (τ.n.map (·.den ρ)) (τ.s.map (Bm ρ)) (τ.l.map ρ.lst) (τ.m.map ρ.map)
def ST.sub (τ:CE):ST->Option ST
 |.lit n=>some (.lit n)
 |.var i=>τ.n[i]?
 |.bin op k a b=>match a.sub τ,b.sub τ with
  |some a,some b=>some (.bin op k a b)
  |_,_=>none
 |.conv k a=>(a.sub τ).map (.conv k)
def AdN (op:BinOp) (a b:ST):SB:=
 match a,b with
 |.lit x,.lit y=>(match Acm op x y with|some v=>.lit v|none=>.cmp op (.lit x) (.lit y))
 |a,b=>.cmp op a b
theorem Tu {ρ:Env} (op:BinOp) (a b:ST):(AdN op a b).den ρ=(SB.cmp op a b).den ρ:=by
 unfold AdN
 split
 ·split
  ·rename_i x y v h
   simp only [SB.den,ST.den]
   exact (Nq h).1
  ·rfl
 ·rfl
def SB.sub (τ:CE):SB->Option SB
 |.lit b=>some (.lit b)
 |.cmp op a b=>match a.sub τ,b.sub τ with
  |some a,some b=>some (AdN op a b)
  |_,_=>none
 |.no a=>(a.sub τ).map .no
def Aa.isStr:Aa->Bool
 |.str _=>true
 |.svar _=>true
 |_=>false
def Aa.TH (τ:CE):Aa->Option Aa
 |.bool b=>(b.sub τ).map .bool
 |.int k n=>(n.sub τ).map (.int k)
 |.str s=>some (.str s)
 |.ptr b o=>some (.ptr b o)
 |.nilPtr=>some .nilPtr
 |.slice b o l c=>some (.slice b o l c)
 |.gslice b o l e=>some (.gslice b o l e)
 |.nilSlice=>some .nilSlice
 |.map b=>some (.map b)
 |.nilMap=>some .nilMap
 |.nilFunc=>some .nilFunc
 |.nilIface=>some .nilIface
 |.gbytes b=>some (.gbytes b)
 |.svar i=>match τ.s[i]? with
  |some v=>if v.isStr then some v else none
  |none=>none
 |.lst f i es n=>match τ.l[i]?,n.sub τ with
  |some j,some n=>some (.lst f j es n)
  |_,_=>none
 |.lptr i j o=>match τ.l[i]?,j.sub τ with
  |some k,some j=>some (.lptr k j o)
  |_,_=>none
 |.vec b es n=>(n.sub τ).map (.vec b es)
 |.vptr b es j o=>(j.sub τ).map fun j=>.vptr b es j o
 |.anyStr n=>some (.anyStr n)
 |_=>none
def LU (τ:CE):List Aa->Option (List Aa)
 |[]=>some []
 |v::r=>match v.TH τ,LU τ r with
  |some v,some r=>some (v::r)
  |_,_=>none
def Aa.Xu (τ:CE):Aa->Option Aa
 |.func f a c=>match LU τ a,LU τ c with
  |some a,some c=>some (.func f a c)
  |_,_=>none
 |v=>v.TH τ
def Sf (τ:CE):List Entry->Option (List Entry)
 |[]=>some []
 |e::r=>match e.key.Xu τ,e.val.Xu τ,Sf τ r with
  |some k,some v,some es=>some (⟨k,v,e.born⟩::es)
  |_,_,_=>none
def Aa.AfK (τ:CE):Aa->Option Aa
 |.agg cs=>(LU τ cs).map .agg
 |v=>v.Xu τ
def Se (τ:CE):List Aa->Option (List Aa)
 |[]=>some []
 |v::r=>match v.AfK τ,Se τ r with
  |some v,some r=>some (v::r)
  |_,_=>none
def Aa.Sd (τ:CE):Aa->Option Aa
 |.agg cs=>(LU τ cs).map .agg
 |.tuple cs=>(Se τ cs).map .tuple
 |v=>v.Xu τ
def O0 (τ:CE):List Aa->Option (List Aa)
 |[]=>some []
 |v::r=>match v.Sd τ,O0 τ r with
  |some v,some r=>some (v::r)
  |_,_=>none
def Block.sub (τ:CE):Block->Option Block
 |.cells vs=>(LU τ vs).map .cells
 |.typed e vs=>(LU τ vs).map (.typed e)
 |.bytes n e=>some (.bytes n e)
 |.sbytes t e=>(t.sub τ).map fun t=>.sbytes t e
 |.list i q=>(τ.l[i]?).map fun j=>.list j q
 |.smap i=>(τ.m[i]?).map .smap
 |.map q c=>(Sf τ q).map fun q=>.map q c
def Iu (τ:CE):List Block->Option (List Block)
 |[]=>some []
 |B::r=>match B.sub τ,Iu τ r with
  |some B,some r=>some (B::r)
  |_,_=>none
def It (τ:CE):List (Option Block)->Option (List (Option Block))
 |[]=>some []
 |none::r=>(It τ r).map (none::·)
 |some B::r=>match B.sub τ,It τ r with
  |some B,some r=>some (some B::r)
  |_,_=>none
def BO.sub (τ:CE) (x:BO):Option BO:=
 match O0 τ x.args,Iu τ x.pre,x.res.Sd τ,It τ x.post with
 |some args,some pre,some res,some post=>some ⟨args,pre,res,post⟩
 |_,_,_,_=>none
section
variable {ρ:Env} {μ:As} {τ:CE}
theorem getD_map {α β:Type} {f:α->β} {l:List α} {i:Nat} {x:α} {d:β} (h:l[i]?=some x):(l.map f).getD i d=f x:=by
 rw [List.getD_eq_getElem?_getD,List.getElem?_map,h];rfl
theorem ST.CJ:∀{t u:ST},t.sub τ=some u->u.den ρ=t.den (ρ.sub τ)
 |.lit n,u,h=>by simp only [ST.sub,oI]at h;subst h;rfl
 |.var i,u,h=>by
  simp only [ST.sub]at h
  exact (getD_map (f:=fun x:ST=>x.den ρ) h).symm
 |.bin op k a b,u,h=>by
  simp only [ST.sub]at h
  split at h
  ·rename_i j q ha hb
   simp only [oI]at h
   subst h
   simp only [ST.den,ST.CJ ha,ST.CJ hb]
  ·cases h
 |.conv k a,u,h=>by
  simp only [ST.sub]at h
  obtain ⟨j,ha,rfl⟩:=mS h
  simp only [ST.den,ST.CJ ha]
theorem SB.CJ:∀{t u:SB},t.sub τ=some u->u.den ρ=t.den (ρ.sub τ)
 |.lit n,u,h=>by simp only [SB.sub,oI]at h;subst h;rfl
 |.cmp op a b,u,h=>by
  simp only [SB.sub]at h
  split at h
  ·rename_i j q ha hb
   simp only [oI]at h
   subst h
   rw [Tu]
   simp only [SB.den,ST.CJ ha,ST.CJ hb]
  ·cases h
 |.no a,u,h=>by
  simp only [SB.sub]at h
  obtain ⟨j,ha,rfl⟩:=mS h
  simp only [SB.den,SB.CJ ha]
theorem DE {p a:Aa} (h:p.TH τ=some a) {u:Value}:(Ag (ρ.sub τ) μ p u↔Ag ρ μ a u)/\a.single=p.single:=by
 cases p<;>simp only [Aa.TH,oI,reduceCtorEq]at h
 case bool b=>
  obtain ⟨C,hb,rfl⟩:=mS h
  simp only [Ag,SB.CJ (ρ:=ρ) hb,Aa.single,and_self]
 case int k n=>
  obtain ⟨x,q,rfl⟩:=mS h
  simp only [Ag,ST.CJ (ρ:=ρ) q,Aa.single,and_self]
 case svar i=>
  split at h
  ·rename_i v B
   split at h
   ·rename_i hs
    simp only [oI]at h
    subst h
    have e:(ρ.sub τ).str i=Bm ρ v:=getD_map (f:=Bm ρ) B
    cases v<;>simp only [Aa.isStr,Bool.false_eq_true]at hs
    case str s=>simp only [Ag,e,Bm,DT,Option.getD_some,Aa.single,and_self]
    case svar j=>simp only [Ag,e,Bm,DT,Option.getD_some,Aa.single,and_self]
   ·cases h
  ·cases h
 case lst f i es n=>
  split at h
  ·rename_i j x z q
   simp only [oI]at h
   subst h
   have e:(ρ.sub τ).lst i=ρ.lst j:=getD_map (f:=ρ.lst) z
   simp only [Ag,e,ST.CJ (ρ:=ρ) q,Aa.single,and_self]
  ·cases h
 case lptr i j o=>
  split at h
  ·rename_i k j' A z
   simp only [oI]at h
   subst h
   have e:(ρ.sub τ).lst i=ρ.lst k:=getD_map (f:=ρ.lst) A
   simp only [Ag,e,ST.CJ (ρ:=ρ) z,Aa.single,and_self]
  ·cases h
 case vec b es n=>
  obtain ⟨x,q,rfl⟩:=mS h
  simp only [Ag,ST.CJ (ρ:=ρ) q,Aa.single,and_self]
 case vptr b es j o=>
  obtain ⟨x,q,rfl⟩:=mS h
  simp only [Ag,ST.CJ (ρ:=ρ) q,Aa.single,and_self]
 all_goals
  subst h
  simp only [Ag,Aa.single,and_self]
theorem Xt (v:Aa) (r:List Aa):LU τ (v::r)=match v.TH τ,LU τ r with
  |some v,some r=>some (v::r)
  |_,_=>none:=rfl
theorem EN:∀{l r:List Aa},LU τ l=some r->l.length=r.length/\(∀{us:List Value},Aw (ρ.sub τ) μ l us↔Aw ρ μ r us)/\(∀{us:List Value},A6 (ρ.sub τ) μ l us↔A6 ρ μ r us)/\
  ∀(i:Nat),(∀p,l[i]?=some p->∃a,r[i]?=some a/\p.TH τ=some a)/\(∀a,r[i]?=some a->∃p,l[i]?=some p/\p.TH τ=some a)
 |[],r,h=>by
  simp only [LU,oI]at h
  subst h
  exact ⟨rfl,by simp only [Aw,implies_true],by simp only [A6,implies_true],fun i=>⟨fun p h=>by simp at h,fun p h=>by simp at h⟩⟩
 |v::l,r,h=>by
  rw [Xt]at h
  split at h
  ·rename_i C J q H
   simp only [oI]at h
   subst h
   obtain ⟨B,z,A,I⟩:=EN H
   refine ⟨by simp [B],fun {us}=>?_,fun {us}=>?_,fun i=>?_⟩
   ·simp only [Aw]
    constructor
    ·rintro ⟨u,rest,rfl,⟨h1,h2⟩,h3⟩
     obtain ⟨j,x⟩:=DE (ρ:=ρ) (μ:=μ) q (u:=u)
     exact ⟨u,rest,rfl,⟨by rw [x];exact h1,j.1 h2⟩,z.1 h3⟩
    ·rintro ⟨u,rest,rfl,⟨h1,h2⟩,h3⟩
     obtain ⟨j,x⟩:=DE (ρ:=ρ) (μ:=μ) q (u:=u)
     exact ⟨u,rest,rfl,⟨by rw [<-x];exact h1,j.2 h2⟩,z.2 h3⟩
   ·simp only [A6]
    constructor
    ·rintro ⟨u,rest,rfl,h2,h3⟩
     obtain ⟨j,x⟩:=DE (ρ:=ρ) (μ:=μ) q (u:=u)
     exact ⟨u,rest,rfl,j.1 h2,A.1 h3⟩
    ·rintro ⟨u,rest,rfl,h2,h3⟩
     obtain ⟨j,x⟩:=DE (ρ:=ρ) (μ:=μ) q (u:=u)
     exact ⟨u,rest,rfl,j.2 h2,A.2 h3⟩
   ·cases i with
    |zero=>
     simp only [List.getElem?_cons_zero,oI]
     exact ⟨fun p e=>⟨C,rfl,e▸q⟩,fun a e=>⟨v,rfl,e▸q⟩⟩
    |succ i=>simpa using I i
  ·cases h
theorem He {p a:Aa} (h:p.Xu τ=some a) {u:Value}:(Ag (ρ.sub τ) μ p u↔Ag ρ μ a u)/\a.single=p.single:=by
 unfold Aa.Xu at h
 split at h
 ·split at h
  ·rename_i x y z v
   simp only [oI]at h
   subst h
   obtain ⟨_,_,j,_⟩:=EN (ρ:=ρ) (μ:=μ) z
   obtain ⟨_,_,q,_⟩:=EN (ρ:=ρ) (μ:=μ) v
   simp only [Ag,j,q,Aa.single,and_self]
  ·cases h
 ·exact DE h
theorem O3:∀{l r:List Entry} {ms:List MapEntry},Sf τ l=some r->(BM (ρ.sub τ) μ l ms↔BM ρ μ r ms)
 |[],r,ms,h=>by
  simp only [Sf,oI]at h
  subst h
  simp only [BM]
 |e::l,r,ms,h=>by
  simp only [Sf]at h
  split at h
  ·rename_i k v z j x q
   simp only [oI]at h
   subst h
   simp only [BM,AcQ,(He (ρ:=ρ) (μ:=μ) j).1,(He (ρ:=ρ) (μ:=μ) (u:=.bool true) j).2,(He (ρ:=ρ) (μ:=μ) x).1,O3 q]
  ·cases h
theorem ZP {p a:Aa} (h:p.AfK τ=some a) {u:Value}:Ag (ρ.sub τ) μ p u↔Ag ρ μ a u:=by
 unfold Aa.AfK at h
 split at h
 ·obtain ⟨cs,j,rfl⟩:=mS h
  obtain ⟨_,k,_⟩:=EN (ρ:=ρ) (μ:=μ) j
  simp only [Ag,k]
 ·exact (He h).1
theorem O2:∀{l r:List Aa} {us:List Value},Se τ l=some r->(A6 (ρ.sub τ) μ l us↔A6 ρ μ r us)
 |[],r,us,h=>by
  simp only [Se,oI]at h
  subst h
  simp only [A6]
 |v::l,r,us,h=>by
  simp only [Se]at h
  split at h
  ·rename_i z x j q
   simp only [oI]at h
   subst h
   simp only [A6,ZP (ρ:=ρ) (μ:=μ) j,O2 q]
  ·cases h
theorem GZ {p a:Aa} (h:p.Sd τ=some a) {u:Value}:Ag (ρ.sub τ) μ p u↔Ag ρ μ a u:=by
 unfold Aa.Sd at h
 split at h
 ·obtain ⟨cs,j,rfl⟩:=mS h
  obtain ⟨_,k,_⟩:=EN (ρ:=ρ) (μ:=μ) j
  simp only [Ag,k]
 ·obtain ⟨cs,j,rfl⟩:=mS h
  simp only [Ag,fun us=>O2 (ρ:=ρ) (μ:=μ) (us:=us) j]
 ·exact (He h).1
theorem FE:∀{l r:List Aa} {us:List Value},O0 τ l=some r->(A6 (ρ.sub τ) μ l us↔A6 ρ μ r us)
 |[],r,us,h=>by
  simp only [O0,oI]at h
  subst h
  simp only [A6]
 |v::l,r,us,h=>by
  simp only [O0]at h
  split at h
  ·rename_i z x j q
   simp only [oI]at h
   subst h
   simp only [A6,GZ (ρ:=ρ) (μ:=μ) j,FE q]
  ·cases h
theorem EF {B C:Block} (h:B.sub τ=some C) {o:Option Obj} {δ:Nat×Nat}:C4 (ρ.sub τ) μ B o δ↔C4 ρ μ C o δ:=by
 cases B<;>simp only [Block.sub,oI,reduceCtorEq]at h
 case cells vs=>
  obtain ⟨us,J,rfl⟩:=mS h
  obtain ⟨_,_,_,k⟩:=EN (ρ:=ρ) (μ:=μ) J
  simp only [C4]
  constructor
  ·rintro ⟨c,e,ho,hm,hc⟩
   refine ⟨c,e,ho,hm,fun i a ha=>?_⟩
   obtain ⟨p,q,hs⟩:=(k i).2 a ha
   obtain ⟨v,A,x,z⟩:=hc i p q
   obtain ⟨H,I⟩:=DE (ρ:=ρ) (μ:=μ) hs (u:=v)
   exact ⟨v,A,by rw [I];exact x,H.1 z⟩
  ·rintro ⟨c,e,ho,hm,hc⟩
   refine ⟨c,e,ho,hm,fun i p q=>?_⟩
   obtain ⟨a,ha,hs⟩:=(k i).1 p q
   obtain ⟨v,A,x,z⟩:=hc i a ha
   obtain ⟨H,I⟩:=DE (ρ:=ρ) (μ:=μ) hs (u:=v)
   exact ⟨v,A,by rw [<-I];exact x,H.2 z⟩
 case typed t vs=>
  obtain ⟨us,J,rfl⟩:=mS h
  obtain ⟨N,_,_,k⟩:=EN (ρ:=ρ) (μ:=μ) J
  simp only [C4]
  constructor
  ·rintro ⟨c,ho,⟨h0,hs0⟩,hm,hc⟩
   refine ⟨c,ho,⟨h0,by rw [hs0,N]⟩,hm,fun i a ha=>?_⟩
   obtain ⟨p,q,hs⟩:=(k i).2 a ha
   obtain ⟨v,A,x,z⟩:=hc i p q
   obtain ⟨H,I⟩:=DE (ρ:=ρ) (μ:=μ) hs (u:=v)
   exact ⟨v,A,by rw [I];exact x,H.1 z⟩
  ·rintro ⟨c,ho,⟨h0,hs0⟩,hm,hc⟩
   refine ⟨c,ho,⟨h0,by rw [hs0,N]⟩,hm,fun i p q=>?_⟩
   obtain ⟨a,ha,hs⟩:=(k i).1 p q
   obtain ⟨v,A,x,z⟩:=hc i a ha
   obtain ⟨H,I⟩:=DE (ρ:=ρ) (μ:=μ) hs (u:=v)
   exact ⟨v,A,by rw [<-I];exact x,H.2 z⟩
 case map es c=>
  obtain ⟨P,M,rfl⟩:=mS h
  simp only [C4,O3 (ρ:=ρ) (μ:=μ) M]
 case bytes n e=>subst h;simp only [C4]
 case sbytes t e=>
  obtain ⟨t',O,rfl⟩:=mS h
  simp only [C4,ST.CJ (ρ:=ρ) O]
 case list i es=>
  obtain ⟨j,L,rfl⟩:=mS h
  have e:(ρ.sub τ).lst i=ρ.lst j:=getD_map (f:=ρ.lst) L
  simp only [C4,e]
 case smap i=>
  obtain ⟨j,L,rfl⟩:=mS h
  have e:(ρ.sub τ).map i=ρ.map j:=getD_map (f:=ρ.map) L
  simp only [C4,e]
theorem FG:∀{l r:List Block},Iu τ l=some r->l.length=r.length/\∀(i:Nat),(∀p,l[i]?=some p->∃a,r[i]?=some a/\p.sub τ=some a)/\(∀a,r[i]?=some a->∃p,l[i]?=some p/\p.sub τ=some a)
 |[],r,h=>by
  simp only [Iu,oI]at h
  subst h
  exact ⟨rfl,fun i=>⟨fun p h=>by simp at h,fun p h=>by simp at h⟩⟩
 |v::l,r,h=>by
  simp only [Iu]at h
  split at h
  ·rename_i x B j z
   simp only [oI]at h
   subst h
   obtain ⟨q,A⟩:=FG z
   refine ⟨by simp [q],fun i=>?_⟩
   cases i with
   |zero=>
    simp only [List.getElem?_cons_zero,oI]
    exact ⟨fun p e=>⟨x,rfl,e▸j⟩,fun a e=>⟨v,rfl,e▸j⟩⟩
   |succ i=>simpa using A i
  ·cases h
theorem HS:∀{l r:List (Option Block)},It τ l=some r->l.length=r.length/\∀(i:Nat),(∀p,l[i]?=some (some p)->∃a,r[i]?=some (some a)/\p.sub τ=some a)/\(∀a,r[i]?=some (some a)->∃p,l[i]?=some (some p)/\p.sub τ=some a)
 |[],r,h=>by
  simp only [It,oI]at h
  subst h
  exact ⟨rfl,fun i=>⟨fun p h=>by simp at h,fun p h=>by simp at h⟩⟩
 |none::l,r,h=>by
  simp only [It]at h
  obtain ⟨A,q,rfl⟩:=mS h
  obtain ⟨j,x⟩:=HS q
  refine ⟨by simp [j],fun i=>?_⟩
  cases i with
  |zero=>simp
  |succ i=>simpa using x i
 |some v::l,r,h=>by
  simp only [It]at h
  split at h
  ·rename_i B A z q
   simp only [oI]at h
   subst h
   obtain ⟨j,x⟩:=HS q
   refine ⟨by simp [j],fun i=>?_⟩
   cases i with
   |zero=>
    simp only [List.getElem?_cons_zero,oI]
    exact ⟨fun p e=>⟨B,rfl,e▸z⟩,fun a e=>⟨v,rfl,e▸z⟩⟩
   |succ i=>simpa using x i
  ·cases h
theorem AI.over {x:Env} {h v:Ak} {w:World} (H:AI ρ μ h w) (N:v.next=h.next) (J:x.AO=ρ.AO) (hf:v.fx.AG x) (hb:∀b j,v.get b=some j->∃B,h.get b=some B/\∀o δ,C4 ρ μ B o δ->C4 x μ j o δ):AI x μ v w:=by
 have own:∀r,AJ μ v r->AJ μ h r:=fun r ⟨b,B,δ,C,A⟩=>by
  obtain ⟨j,k,_⟩:=hb b B C
  exact ⟨b,j,δ,k,A⟩
 refine ⟨fun b e=>H.fresh b (N▸e),fun b B e=>?_,fun b L B j r δ O C A m1 m2=>?_,⟨fun g o e=>?_,fun g o e=>?_,hf⟩⟩
 ·obtain ⟨M,z,I⟩:=hb b B e
  obtain ⟨r,δ,m1,m2⟩:=H.blk b M z
  exact ⟨r,δ,m1,I _ _ m2⟩
 ·obtain ⟨P,z,_⟩:=hb b B C
  obtain ⟨Q,I,_⟩:=hb L j A
  exact H.inj _ _ _ _ _ _ _ z I m1 m2
 ·rw [J]at e
  exact ⟨(H.AO.AO g o e).1,fun q=>(H.AO.AO g o e).2 (own g q)⟩
 ·exact ⟨(H.AO.AU g o e).1,fun q=>(H.AO.AU g o e).2 (own g q)⟩
end
section
variable {ρ:Env} {τ:CE} {μ:As} {w w':World} {pre pre':List Block} {post post':List (Option Block)}
theorem LR (q:Iu τ pre=some pre') (H:AI ρ μ (AV pre' (empty 0)) w):AI (ρ.sub τ) μ (AV pre (empty 0)) w:=by
 obtain ⟨v,j⟩:=FG q
 refine H.over (by rw [BR,BR,v]) rfl (by rw [(BW pre (empty 0)).2.1];exact Ap.AG.none _) fun b B hB=>?_
 rw [Cs]at hB
 obtain ⟨a,ha,hs⟩:=(j b).1 B hB
 exact ⟨a,by rw [Cs];exact ha,fun o δ=>(EF hs).2⟩
theorem Jh (q:Iu τ pre=some pre') (H:AI (ρ.sub τ) μ (AV pre (empty 0)) w):AI ρ μ (AV pre' (empty 0)) w:=by
 obtain ⟨v,j⟩:=FG q
 refine H.over (by rw [BR,BR,v]) rfl (by rw [(BW pre' (empty 0)).2.1];exact Ap.AG.none _) fun b B hB=>?_
 rw [Cs]at hB
 obtain ⟨a,ha,hs⟩:=(j b).2 B hB
 exact ⟨a,by rw [Cs];exact ha,fun o δ=>(EF hs).1⟩
theorem Ke {μ':As} (M:Iu τ pre=some pre') (Q:It τ post=some post') (v:Av (ρ.sub τ) μ (AV pre (empty 0)) w μ' (Cv post (empty 0)) w'):Av ρ μ (AV pre' (empty 0)) w μ' (Cv post' (empty 0)) w':=by
 obtain ⟨R,H⟩:=FG M
 obtain ⟨J,I⟩:=HS Q
 have A:∀r,AJ μ (AV pre (empty 0)) r↔AJ μ (AV pre' (empty 0)) r:=fun r=>by
  constructor
  ·rintro ⟨b,B,δ,j,z⟩
   rw [Cs]at j
   obtain ⟨a,ha,_⟩:=(H b).1 B j
   exact ⟨b,a,δ,by rw [Cs];exact ha,z⟩
  ·rintro ⟨b,B,δ,j,z⟩
   rw [Cs]at j
   obtain ⟨a,ha,_⟩:=(H b).2 B j
   exact ⟨b,a,δ,by rw [Cs];exact ha,z⟩
 have x:∀{l:List (Option Block)} {b:Nat} {B:Block},(l[b]?).join=some B->l[b]?=some (some B):=fun {l b B} h=>by
  cases e:l[b]? with
  |none=>rw [e]at h;cases h
  |some o=>rw [e]at h;have h:o=some B:=h;rw [h]
 have C:∀r,AJ μ' (Cv post' (empty 0)) r->AJ μ' (Cv post (empty 0)) r:=fun r ⟨b,B,δ,j,z⟩=>by
  rw [Dr]at j
  obtain ⟨a,ha,_⟩:=(I b).2 B (x j)
  exact ⟨b,a,δ,by rw [Dr,ha];rfl,z⟩
 have P:AI ρ μ' (Cv post' (empty 0)) w':=by
  refine v.rel.over (by rw [D0,D0,J]) rfl (by rw [(C1 post' (empty 0)).2.1];exact Ap.AG.none _) fun b B hB=>?_
  rw [Dr]at hB
  obtain ⟨a,ha,hs⟩:=(I b).2 B (x hB)
  exact ⟨a,by rw [Dr,ha];rfl,fun o δ=>(EF hs).1⟩
 refine ⟨v.le,P,v.size,fun r N L=>?_,v.os,v.output,?_,fun b hb=>v.old b ?_,fun k o O=>?_,?_⟩
 ·obtain ⟨j,z⟩:=v.kept r N fun e=>L ((A r).1 e)
  exact ⟨j,fun e=>z (C r e)⟩
 ·have:=v.next
  rw [BR,D0]at this⊢
  show pre'.length<=post'.length
  omega
 ·rw [BR]at hb⊢
  show b<pre.length
  have hb:b<pre'.length:=hb
  omega
 ·rcases v.icy k o O with q|q|q
  ·exact .inl q
  ·exact .inr (.inl ((A k).1 q))
  ·exact .inr (.inr q)
 ·rw [(C1 post' (empty 0)).2.1,(BW pre' (empty 0)).2.1]
theorem GX {μ':As} (M:Iu τ pre=some pre') (Q:It τ post=some post') (v:Av ρ μ (AV pre' (empty 0)) w μ' (Cv post' (empty 0)) w'):Av (ρ.sub τ) μ (AV pre (empty 0)) w μ' (Cv post (empty 0)) w':=by
 obtain ⟨R,H⟩:=FG M
 obtain ⟨J,I⟩:=HS Q
 have A:∀r,AJ μ (AV pre' (empty 0)) r↔AJ μ (AV pre (empty 0)) r:=fun r=>by
  constructor
  ·rintro ⟨b,B,δ,j,z⟩
   rw [Cs]at j
   obtain ⟨a,ha,_⟩:=(H b).2 B j
   exact ⟨b,a,δ,by rw [Cs];exact ha,z⟩
  ·rintro ⟨b,B,δ,j,z⟩
   rw [Cs]at j
   obtain ⟨a,ha,_⟩:=(H b).1 B j
   exact ⟨b,a,δ,by rw [Cs];exact ha,z⟩
 have x:∀{l:List (Option Block)} {b:Nat} {B:Block},(l[b]?).join=some B->l[b]?=some (some B):=fun {l b B} h=>by
  cases e:l[b]? with
  |none=>rw [e]at h;cases h
  |some o=>rw [e]at h;have h:o=some B:=h;rw [h]
 have C:∀r,AJ μ' (Cv post (empty 0)) r->AJ μ' (Cv post' (empty 0)) r:=fun r ⟨b,B,δ,j,z⟩=>by
  rw [Dr]at j
  obtain ⟨a,ha,_⟩:=(I b).1 B (x j)
  exact ⟨b,a,δ,by rw [Dr,ha];rfl,z⟩
 have P:AI (ρ.sub τ) μ' (Cv post (empty 0)) w':=by
  refine v.rel.over (by rw [D0,D0,J]) rfl (by rw [(C1 post (empty 0)).2.1];exact Ap.AG.none _) fun b B hB=>?_
  rw [Dr]at hB
  obtain ⟨a,ha,hs⟩:=(I b).1 B (x hB)
  exact ⟨a,by rw [Dr,ha];rfl,fun o δ=>(EF hs).2⟩
 refine ⟨v.le,P,v.size,fun r N L=>?_,v.os,v.output,?_,fun b hb=>v.old b ?_,fun k o O=>?_,?_⟩
 ·obtain ⟨j,z⟩:=v.kept r N fun e=>L ((A r).1 e)
  exact ⟨j,fun e=>z (C r e)⟩
 ·have:=v.next
  rw [BR,D0]at this⊢
  show pre.length<=post.length
  have this:pre'.length<=post'.length:=this
  omega
 ·rw [BR]at hb⊢
  show b<pre'.length
  have hb:b<pre.length:=hb
  omega
 ·rcases v.icy k o O with q|q|q
  ·exact .inl q
  ·exact .inr (.inl ((A k).1 q))
  ·exact .inr (.inr q)
 ·rw [(C1 post (empty 0)).2.1,(BW pre (empty 0)).2.1]
theorem Holds.sub {P:Program} {g:FuncId} {x y:BO} (hs:x.sub τ=some y) (z:Holds P (ρ.sub τ) g x):Holds P ρ g y:=by
 unfold BO.sub at hs
 split at hs
 case h_2=>cases hs
 rename_i args pre res post J v A I
 simp only [oI]at hs
 subst hs
 refine ⟨z.1,fun μ w j H C=>(z.2 μ w j (LR v H) ((FE J).2 C)).mono fun e w' q=>?_⟩
 obtain ⟨μ',B,q⟩:=q
 refine ⟨μ',Ke v I B,?_⟩
 cases e
 case returned u=>exact (GZ A).1 (show Ag (ρ.sub τ) μ' x.res u from q)
 all_goals exact q.elim
theorem Holds.RW {P:Program} {g:FuncId} {x y:BO} (hs:x.sub τ=some y) (v:Holds P ρ g y):Holds P (ρ.sub τ) g x:=by
 unfold BO.sub at hs
 split at hs
 case h_2=>cases hs
 rename_i args pre res post J z A I
 simp only [oI]at hs
 subst hs
 refine ⟨v.1,fun μ w j H C=>(v.2 μ w j (Jh z H) ((FE J).1 C)).mono fun e w' q=>?_⟩
 obtain ⟨μ',B,q⟩:=q
 refine ⟨μ',GX z I B,?_⟩
 cases e
 case returned u=>exact (GZ A).2 (show Ag ρ μ' res u from q)
 all_goals exact q.elim
def LS (τ:CE):List (Nat×Aa)->Option (List (Nat×Aa))
 |[]=>some []
 |v::r=>match v.2.Sd τ,LS τ r with
  |some a,some r=>some ((v.1,a)::r)
  |_,_=>none
def ZQ (τ:CE) (p:List (FuncId×List Aa)):Option (List (FuncId×List Aa)):=
 match p with
 |[]=>some []
 |[p]=>(O0 τ p.2).map fun l=>[(p.1,l)]
 |_=>none
theorem HT {l r:List (FuncId×List Aa)} (h:ZQ τ l=some r) {ds:List Deferred}:C2 (ρ.sub τ) μ l ds↔C2 ρ μ r ds:=by
 unfold ZQ at h
 split at h
 ·simp only [oI]at h
  subst h
  exact Iff.rfl
 ·obtain ⟨l,hl,rfl⟩:=mS h
  constructor
  ·rintro ⟨c,rest,e1,⟨cap,e2,e3⟩,e4⟩
   exact ⟨c,rest,e1,⟨cap,e2,(FE hl).1 e3⟩,e4⟩
  ·rintro ⟨c,rest,e1,⟨cap,e2,e3⟩,e4⟩
   exact ⟨c,rest,e1,⟨cap,e2,(FE hl).2 e3⟩,e4⟩
 ·cases h
def B4.sub (τ:CE) (k:B4):Option B4:=
 match LS τ k.Xr,Iu τ k.pre,LS τ k.NM,It τ k.post,ZQ τ k.df with
 |some Xr,some pre,some NM,some post,some df=>some ⟨k.id,Xr,pre,NM,post,df,k.out⟩
 |_,_,_,_,_=>none
theorem O1:∀{l j:List (Nat×Aa)} {t t':Tr Aa},LS τ l=some j->(∀n,match t.get n with|some p=>∃a,t'.get n=some a/\p.Sd τ=some a|none=>t'.get n=none)->
  ∀n,match (Ox l t).get n with|some p=>∃a,(Ox j t').get n=some a/\p.Sd τ=some a|none=>(Ox j t').get n=none
 |[],j,t,t',h,ht,n=>by
  simp only [LS,oI]at h
  subst h
  exact ht n
 |v::r,j,t,t',h,ht,n=>by
  simp only [LS]at h
  split at h
  ·rename_i a q ha x
   simp only [oI]at h
   subst h
   show match (Ox r (t.set v.1 (some v.2))).get n with|some p=>∃b,(Ox q (t'.set v.1 (some a))).get n=some b/\p.Sd τ=some b|none=>(Ox q (t'.set v.1 (some a))).get n=none
   refine O1 x (fun m=>?_) n
   rw [Tr.Bb,Tr.Bb]
   by_cases e:m=v.1
   ·rw [if_pos e,if_pos e];exact ⟨a,rfl,ha⟩
   ·rw [if_neg e,if_neg e];exact ht m
  ·cases h
theorem HR {l A:List (Nat×Aa)} (h:LS τ l=some A) {a:Act}:AT (ρ.sub τ) μ (Ox l .nil) a↔AT ρ μ (Ox A .nil) a:=by
 have B:=O1 (τ:=τ) (t:=.nil) (t':=.nil) h fun n=>rfl
 constructor
 ·intro z t
  have j:=B t
  have q:=z t
  cases e:(Ox l .nil).get t with
  |none=>rw [e]at j;simp only at j;rw [j];trivial
  |some p=>
   rw [e]at j q
   obtain ⟨b,v,x⟩:=j
   rw [v]
   exact (GZ x).1 q
 ·intro z t
  have j:=B t
  have q:=z t
  cases e:(Ox l .nil).get t with
  |none=>trivial
  |some p=>
   rw [e]at j
   obtain ⟨b,v,x⟩:=j
   rw [v]at q
   exact (GZ x).2 q
theorem DP.sub {P:Program} {nt:Nat} {x:Code} {k C:B4} (hs:k.sub τ=some C) (q:DP P (ρ.sub τ) nt x k):DP P ρ nt x C:=by
 unfold B4.sub at hs
 split at hs
 case h_2=>cases hs
 rename_i Xr pre NM post df L j H z A
 simp only [oI]at hs
 subst hs
 obtain ⟨n,q⟩:=q
 exact ⟨n,fun μ a w Q F I=>q μ a w Q ⟨(HR L).2 F.tmps,F.size,LR j F.heap,(HT A).2 F.defs⟩ fun μ' J w' v B=>I μ' J w' ⟨(HR H).1 v.tmps,v.size,(Ke j z B).rel,(HT A).1 v.defs⟩ (Ke j z B)⟩
theorem DP.RW {P:Program} {nt:Nat} {x:Code} {k C:B4} (hs:k.sub τ=some C) (q:DP P ρ nt x C):DP P (ρ.sub τ) nt x k:=by
 unfold B4.sub at hs
 split at hs
 case h_2=>cases hs
 rename_i Xr pre NM post df L j H z A
 simp only [oI]at hs
 subst hs
 obtain ⟨n,q⟩:=q
 exact ⟨n,fun μ a w Q F I=>q μ a w Q ⟨(HR L).1 F.tmps,F.size,Jh j F.heap,(HT A).1 F.defs⟩ fun μ' J w' v B=>I μ' J w' ⟨(HR H).2 v.tmps,v.size,(GX j z B).rel,(HT A).2 v.defs⟩ (GX j z B)⟩
end
noncomputable def J8 (n:Nat):Nat->List Nat:=Nat.rec (motive:=fun _=>Nat->List Nat) (fun _=>[]) (fun _ ih i=>i::ih (i+1)) n
theorem J7:∀(n k i:Nat),(J8 n k)[i]?=if i<n then some (k+i)else none
 |0,k,i=>by rw [if_neg (by omega)];show ([]:List Nat)[i]?=none;simp
 |n+1,k,i=>by
  show (k::J8 n (k+1))[i]?=_
  cases i with
  |zero=>simp
  |succ i=>
   rw [List.getElem?_cons_succ,J7 n (k+1) i]
   by_cases h:i<n
   ·rw [if_pos h,if_pos (by omega)];congr 1;omega
   ·rw [if_neg h,if_neg (by omega)]
noncomputable def Aca (Γ:Ap) (σ:List Nat) (p a:Aa):Bool:=
 match p,a with
 |.agg ps,.agg as=>Gr Γ σ ps as
 |.tuple ps,.tuple as=>KA Γ σ ps as
 |p,a=>HB Γ σ p a
noncomputable def K8 (Γ:Ap) (h:Ak) (σ:List Nat) (l:List (Option Block)):Nat->Bool:=
 List.rec (motive:=fun _=>Nat->Bool) (fun _=>true) (fun B _ ih i=>(match B with|some B=>eqB Γ h σ i B|none=>true)&&ih (i+1)) l
noncomputable def WE (k:Nat) (l:List Nat):Bool:=List.rec (motive:=fun _=>Bool) true (fun n _ ih=>Nat.ble k n&&ih) l
noncomputable def Aa8 (Γ:Ap) (x:BO) (j:List Nat) (r:Option (NG×Ak)):Bool:=
 match r with
 |some (.ret v,h)=>Nat.beq (SE x.post) (G0 x.pre+Ip j)&&(II j&&(WE (G0 x.pre) j&&(Aca Γ (J8 (G0 x.pre) 0++j) x.res v&&K8 Γ h (J8 (G0 x.pre) 0++j) x.post 0)))
 |_=>false
section
variable {ρ:Env} {μ μ':As} {σ:List Nat}
theorem Yi {Γ:Ap} (hΓ:Γ.AG ρ) (R:Ren μ' μ σ) {p a:Aa} (h:Aca Γ σ p a=true) {u:Value} (j:Ag ρ μ a u):Ag ρ μ' p u:=by
 unfold Aca at h
 split at h
 ·obtain ⟨x,e,q⟩:=j.agg
  subst e
  simp only [Ag]
  exact ⟨x,rfl,K7 hΓ R h q⟩
 ·obtain ⟨x,e,q⟩:=j.tuple
  subst e
  simp only [Ag]
  exact ⟨x,rfl,Gs hΓ R h q⟩
 ·exact (DZ hΓ R h j).1
theorem Tg {Γ:Ap} {h:Ak} (W:Option Block) (r:List (Option Block)) (k:Nat):K8 Γ h σ (W::r) k=((match W with|some B=>eqB Γ h σ k B|none=>true)&&K8 Γ h σ r (k+1)):=rfl
theorem Nb {Γ:Ap} {h:Ak}:∀{l:List (Option Block)} {k:Nat},K8 Γ h σ l k=true->∀i B,l[i]?=some (some B)->∃b A,Ca σ (k+i)=some b/\h.get b=some A/\Nf Γ σ B A=true
 |[],_,_,i,vs,hv=>by simp at hv
 |W::r,k,hb,i,B,hv=>by
  rw [Tg,aT]at hb
  cases i with
  |zero=>
   simp only [List.getElem?_cons_zero,oI]at hv
   subst hv
   have j:=hb.1
   simp only at j
   unfold eqB at j
   split at j
   ·rename_i b q
    split at j
    ·rename_i A z
     exact ⟨b,A,q,z,j⟩
    ·cases j
   ·cases j
  |succ i=>
   obtain ⟨b,A,j,v,x⟩:=Nb hb.2 i B (by simpa using hv)
   exact ⟨b,A,by rw [<-j];congr 1;omega,v,x⟩
theorem Ky {k:Nat}:∀{l:List Nat},WE k l=true->∀n∈l,k<=n
 |[],_,n,hn=>by cases hn
 |m::r,h,n,hn=>by
  have h:(Nat.ble k m&&WE k r)=true:=h
  rw [aT]at h
  rcases List.mem_cons.1 hn with rfl|hn
  ·exact AL.1 h.1
  ·exact Ky h.2 n hn
theorem shown {Γ:Ap} (hΓ:Γ.AG ρ) {pre:List Block} {post:List (Option Block)} {M:List Nat} {d:Nat} {h:Ak} {w w':World} {C:As} (ak:post.length=pre.length+M.length) (ah:M.Nodup) (aa:∀n∈M,pre.length<=n) (O:K8 Γ h (J8 pre.length 0++M) post 0=true)
  (H:AI ρ μ (AV pre (empty 0)) w) (g1:Av ρ μ (AV pre (empty d Γ)) w C h w'):∃μ',Av ρ μ (AV pre (empty 0)) w μ' (Cv post (empty 0)) w'/\Ren μ' C (J8 pre.length 0++M):=by
 generalize hσ:J8 pre.length 0++M=σ at O⊢
 have af:(J8 pre.length 0).length=pre.length:=by
  apply Nat.le_antisymm
  ·rcases Nat.lt_or_ge pre.length (J8 pre.length 0).length with hlt|hge
   ·have:=List.getElem?_eq_getElem hlt
    rw [J7,if_neg (by omega)]at this
    cases this
   ·exact hge
  ·rcases Nat.lt_or_ge (J8 pre.length 0).length pre.length with hlt|hge
   ·have:=List.getElem?_eq_none (Nat.le_refl (J8 pre.length 0).length)
    rw [J7,if_pos hlt]at this
    cases this
   ·exact hge
 have v:∀i b,Ca σ i=some b↔(i<pre.length/\b=i)∨(pre.length<=i/\M[i-pre.length]?=some b):=fun i b=>by
  rw [<-hσ,Fo]
  by_cases X:i<pre.length
  ·rw [List.getElem?_append_left (by omega),J7,if_pos X]
   simp only [Nat.zero_add,oI]
   constructor
   ·intro e;exact .inl ⟨X,e.symm⟩
   ·rintro (⟨_,e⟩|⟨e,_⟩)
    ·exact e.symm
    ·omega
  ·rw [List.getElem?_append_right (by omega),af]
   constructor
   ·intro e;exact .inr ⟨by omega,e⟩
   ·rintro (⟨e,_⟩|⟨_,e⟩)
    ·omega
    ·exact e
 have ac:∀i j b,Ca σ i=some b->Ca σ j=some b->i=j:=fun i j b X hj=>by
  rcases (v i b).1 X with ⟨h1,h2⟩|⟨h1,h2⟩<;>rcases (v j b).1 hj with ⟨h3,h4⟩|⟨h3,h4⟩
  ·omega
  ·have:=aa b (List.mem_of_getElem? h4);omega
  ·have:=aa b (List.mem_of_getElem? h2);omega
  ·obtain ⟨l1,e1⟩:=List.getElem?_eq_some_iff.1 h2
   obtain ⟨l2,e2⟩:=List.getElem?_eq_some_iff.1 h4
   have:=(List.getElem_inj ah).1 (e1.trans e2.symm)
   omega
 have Q:∀r,AJ μ (AV pre (empty d Γ)) r↔AJ μ (AV pre (empty 0)) r:=fun r=>by
  unfold AJ
  simp only [Cs]
 let μ':As:=⟨fun i=>(Ca σ i).bind C.spot,C.AU⟩
 have R:Ren μ' C σ:=⟨fun i b e=>by show (Ca σ i).bind C.spot=_;rw [e];rfl,rfl⟩
 have P:∀{l:List (Option Block)} {b:Nat} {B:Block},(l[b]?).join=some B->l[b]?=some (some B):=fun {l b B} h=>by
  cases e:l[b]? with
  |none=>rw [e]at h;cases h
  |some o=>rw [e]at h;have h:o=some B:=h;rw [h]
 have x:∀i B,(Cv post (empty 0)).get i=some B->∃b A,Ca σ i=some b/\h.get b=some A/\Nf Γ σ B A=true:=fun i B hB=>by
  rw [Dr]at hB
  obtain ⟨b,A,I,N,k3⟩:=Nb O i B (P hB)
  exact ⟨b,A,by rw [<-I,Nat.zero_add],N,k3⟩
 have V:∀b,b<pre.length->μ' b=μ b:=fun b hb=>by
  have e:Ca σ b=some b:=(v b b).2 (.inl ⟨hb,rfl⟩)
  rw [R.spot b b e,g1.old b (by rw [BR];exact hb)]
 have L:∀r,AJ μ' (Cv post (empty 0)) r->AJ C h r:=fun r ⟨i,B,δ,J,z⟩=>by
  obtain ⟨b,A,I,N,_⟩:=x i B J
  rw [R.spot i b I]at z
  exact ⟨b,A,δ,N,z⟩
 refine ⟨μ',⟨⟨fun b y hy=>?_,g1.le.AU⟩,⟨fun b hb=>?_,fun b B hB=>?_,fun b b' B B' r δ δ' hb aj hm Y=>?_,⟨fun k o U=>?_,fun k o U=>?_,?_⟩⟩,g1.size,fun r hr ho=>?_,g1.os,g1.output,?_,fun b hb=>?_,fun k o U=>?_,?_⟩,R⟩
 ·have hb:b<pre.length:=by
   rcases Nat.lt_or_ge b pre.length with hlt|hge
   ·exact hlt
   ·rw [H.fresh b (by rw [BR];exact hge)]at hy;cases hy
  rw [V b hb];exact hy
 ·rw [D0]at hb
  show (Ca σ b).bind C.spot=none
  cases e:Ca σ b with
  |none=>rfl
  |some c=>
   rcases (v b c).1 e with ⟨q,_⟩|⟨J,z⟩
   ·omega
   ·have:=(List.getElem?_eq_some_iff.1 z).1;omega
 ·obtain ⟨c,A,I,N,k3⟩:=x b B hB
  obtain ⟨r,δ,m1,m2⟩:=g1.rel.blk c A N
  exact ⟨r,δ,by rw [R.spot b c I];exact m1,Pp hΓ R k3 m2⟩
 ·obtain ⟨c,A,I,N,_⟩:=x b B hb
  obtain ⟨c',A',Z,ag,_⟩:=x b' B' aj
  rw [R.spot b c I]at hm
  rw [R.spot b' c' Z]at Y
  have:=g1.rel.inj _ _ _ _ _ _ _ N ag hm Y
  subst this
  exact ac b b' c I Z
 ·obtain ⟨J,z⟩:=g1.rel.AO.AO k o U
  exact ⟨J,fun q=>z (L k q)⟩
 ·obtain ⟨J,z⟩:=g1.rel.AO.AU k o U
  exact ⟨J,fun q=>z (L k q)⟩
 ·rw [(C1 post (empty 0)).2.1];exact Ap.AG.none ρ
 ·obtain ⟨J,z⟩:=g1.kept r hr fun q=>ho ((Q r).1 q)
  exact ⟨J,fun q=>z (L r q)⟩
 ·rw [BR,D0];omega
 ·rw [BR]at hb
  exact V b hb
 ·rcases g1.icy k o U with q|q|q
  ·exact .inl q
  ·exact .inr (.inl ((Q k).1 q))
  ·exact .inr (.inr q)
 ·rw [(C1 post (empty 0)).2.1,(BW pre (empty 0)).2.1]
theorem AI.withFacts {Γ:Ap} (hΓ:Γ.AG ρ) {pre:List Block} {d:Nat} {w:World} (H:AI ρ μ (AV pre (empty 0)) w):AI ρ μ (AV pre (empty d Γ)) w:=by
 refine H.over (by rw [BR,BR]) rfl (by rw [(BW pre (empty d Γ)).2.1];exact hΓ) fun b B hB=>?_
 rw [Cs]at hB
 exact ⟨B,by rw [Cs];exact hB,fun o δ h=>h⟩
theorem QX {P:Program} {Γ:Ap} (hΓ:Γ.AG ρ) {g:FuncId} {call:Bk} (hc:Cw P ρ g call) {x:BO} {d:Nat} {M:List Nat} (j:Aa8 Γ x M (call x.args (AV x.pre (empty d Γ)))=true):Holds P ρ g x:=by
 unfold Aa8 at j
 split at j
 case h_2=>cases j
 rename_i v h q
 rw [aT,aT,aT,aT,Ao,Gh,EG,Df]at j
 obtain ⟨I,J,L,C,A⟩:=j
 refine ⟨(hc x.args _ _ _ q).1,fun μ w z H O=>?_⟩
 refine ((hc x.args _ _ _ q).2 μ w z (H.withFacts hΓ) O).mono fun e w' B=>?_
 obtain ⟨Q,g1,B⟩:=B
 obtain ⟨μ',N,R⟩:=shown hΓ I (ER J) (Ky L) A H g1
 refine ⟨μ',N,?_⟩
 cases e
 case returned u=>exact Yi hΓ R C (show Ag ρ Q v u from B)
 all_goals exact B.elim
def Cj (P:Program) (ρ:Env) (g:FuncId) (k:B4):Prop:=∀fn c,P.funcs[g]?=some fn->fn.body=some c->∀y∈Dg 0 c,y.1=k.id->DP P ρ fn.ntmps y.2 k
theorem UE {P:Program} {g:FuncId} {l:List B4} (h:∀k∈l,Cj P ρ g k):∀fn c,P.funcs[g]?=some fn->fn.body=some c->Dw P ρ fn.ntmps l 0 c:=
 fun fn c hf hc y q k j e=>h k j fn c hf hc y q e.symm
noncomputable def WI (c:IC):Nat->List (Nat×IC):=
 IC.rec (motive:=fun _=>Nat->List (Nat×IC)) (fun _=>[]) (fun _ _ _=>[]) (fun _ _ a b k=>a k++b k) (fun _ _ _ a b k=>a k++b k) (fun id _ b _=>b id) (fun b ih k=>(k,b)::ih k) (fun _ _=>[]) (fun _=>[]) c
theorem UP {P:Program} {pl:List Co} {nt:Nat}:∀{c:Code} {B:IC} {k:Nat},AS P pl nt c=some B->∀y∈Dg k c,∃H,AS P pl nt y.2=some H/\(y.1,H)∈WI B k:=by
 intro c
 induction c with
 |seq a b iha ihb=>
  intro B k h y j
  simp only [AS]at h
  split at h
  ·rename_i C J A I
   simp only [oI]at h
   subst h
   rcases List.mem_append.1 j with j|j
   ·obtain ⟨x,q,z⟩:=iha A y j
    exact ⟨x,q,List.mem_append_left _ z⟩
   ·obtain ⟨x,q,z⟩:=ihb I y j
    exact ⟨x,q,List.mem_append_right _ z⟩
  ·cases h
 |cond v a b iha ihb=>
  intro B k h y j
  simp only [AS]at h
  split at h
  ·rename_i C J A I
   simp only [oI]at h
   subst h
   rcases List.mem_append.1 j with j|j
   ·obtain ⟨x,q,z⟩:=iha A y j
    exact ⟨x,q,List.mem_append_left _ z⟩
   ·obtain ⟨x,q,z⟩:=ihb I y j
    exact ⟨x,q,List.mem_append_right _ z⟩
  ·cases h
 |block id b ih=>
  intro B k h y j
  simp only [AS]at h
  obtain ⟨C,A,e⟩:=mS h
  subst e
  exact ih A y j
 |loop b ih=>
  intro B k h y j
  simp only [AS]at h
  obtain ⟨C,A,e⟩:=mS h
  subst e
  rcases List.mem_cons.1 j with rfl|j
  ·exact ⟨C,A,List.mem_cons_self⟩
  ·obtain ⟨x,q,z⟩:=ih A y j
   exact ⟨x,q,List.mem_cons_of_mem _ z⟩
 |_=>intro B k h y j;simp [Dg]at j
noncomputable def Ww (id:Nat) (l:List (Nat×IC)):List IC:=List.rec (motive:=fun _=>List IC) [] (fun x _ ih=>bif Nat.beq x.1 id then x.2::ih else ih) l
theorem Kn {id:Nat} {x:IC}:∀{l:List (Nat×IC)},(id,x)∈l->x∈Ww id l
 |[],h=>by cases h
 |y::r,h=>by
  show x∈(bif Nat.beq y.1 id then y.2::Ww id r else Ww id r)
  rw [AH]
  rcases List.mem_cons.1 h with rfl|h
  ·rw [if_pos rfl];exact List.mem_cons_self
  ·split
   ·exact List.mem_cons_of_mem _ (Kn h)
   ·exact Kn h
def Vj (k:B4) (e:Ba):Bool:=
 match e with
 |.exit i=>!k.out&&Nat.beq i k.id
 |.ret=>k.out
 |_=>false
theorem Yg {k:B4} {e:Ba} (h:Vj k e=true):e=k.MW:=by
 unfold Vj at h
 unfold B4.MW
 split at h
 ·rw [aT,Ao]at h
  obtain ⟨j,rfl⟩:=h
  cases hk:k.out<;>rw [hk]at j
  ·rfl
  ·cases j
 ·rw [h];rfl
 ·cases h
noncomputable def Us (Γ:Ap) (k:B4) (j:List Nat) (r:Option (Ba×Fr)):Bool:=
 match r with
 |some (e,f)=>Vj k e&&(AdG Γ (J8 (G0 k.pre) 0++j) k.df f.df&&(Nat.beq (SE k.post) (G0 k.pre+Ip j)&&(II j&&(WE (G0 k.pre) j&&(WR Γ (J8 (G0 k.pre) 0++j) f.tm k.NM&&K8 Γ f.h (J8 (G0 k.pre) 0++j) k.post 0)))))
 |_=>false
noncomputable def QJ (Γ:Ap) (call:Cl) (fuel d:Nat) (F:Eu) (k:B4):Option (Ba×Fr):=
 match Ww k.id (WI F.body 0)with
 |[b]=>iter (fun f=>I0 Γ k.id f Γ.loops) (fun f=>Fy Γ call fuel b k.id f) fuel ⟨Ox k.Xr .nil,AV k.pre (empty d Γ),k.df⟩
 |_=>none
theorem NW {P:Program} {pl:List Co} {Γ:Ap} (hΓ:Γ.AG ρ) {call:Cl} (hc:B9 P ρ call) (V:P.follows .mixedOrders=true) {DD:FuncId->Option Eu} (ht:P5 P pl DD) {g:FuncId} {F:Eu} (hF:DD g=some F) (hl:∀k∈Γ.loops,Cj P ρ g k)
  {fuel d:Nat} {k:B4} {nw:List Nat} (j:Us Γ k nw (QJ Γ call fuel d F k)=true):Cj P ρ g k:=by
 intro fn c hf I y hy B
 obtain ⟨ay,H,O,_⟩:=ht g F hF
 rw [hf]at H
 simp only [oI]at H
 subst H
 obtain ⟨c',M,ag,_⟩:=DN O
 rw [I]at M
 simp only [oI]at M
 subst M
 obtain ⟨ax,hx,A⟩:=UP ag y hy
 rw [B]at A
 have A:=Kn A
 unfold QJ at j
 split at j
 case h_2=>cases j
 rename_i b hb
 rw [hb,List.mem_singleton]at A
 subst A
 unfold Us at j
 split at j
 case h_2=>cases j
 rename_i i f ah
 rw [aT,aT,aT,aT,aT,aT,Ao,Gh,EG,Df]at j
 obtain ⟨aj,af,Y,ai,ak,aa,U⟩:=j
 have Z:Dw P ρ fn.ntmps Γ.loops k.id y.2:=fun z hz X C e=>by
  refine hl X C fn c hf I z ?_ e.symm
  have sub:∀(c:Code) (cur:Nat),y∈Dg cur c->z∈Dg cur c:=by
   intro c
   induction c with
   |seq a b iha ihb=>intro cur h;rcases List.mem_append.1 h with h|h;exact List.mem_append_left _ (iha _ h);exact List.mem_append_right _ (ihb _ h)
   |cond v a b iha ihb=>intro cur h;rcases List.mem_append.1 h with h|h;exact List.mem_append_left _ (iha _ h);exact List.mem_append_right _ (ihb _ h)
   |block id b ih=>intro cur h;exact ih _ h
   |loop b ih=>
    intro cur h
    rcases List.mem_cons.1 h with e|h
    ·subst e
     refine List.mem_cons_of_mem _ ?_
     have B:cur=k.id:=B
     rw [B]
     exact hz
    ·exact List.mem_cons_of_mem _ (ih _ h)
   |_=>intro cur h;simp [Dg]at h
  exact sub c 0 hy
 obtain ⟨m,hm⟩:=EO (nt:=fn.ntmps) (x:=y.2) hΓ (fun X C e=>hl X C fn c hf I y hy (by rw [B,e])) (fun ae F L=>H9 hΓ hc V y.2 Z hx ae F L) fuel ah
 refine ⟨m,fun μ a w Q J hQ=>hm ⟨J.tmps,J.size,J.heap.withFacts hΓ,J.defs⟩ ?_⟩
 intro μ1 a' w' e F1 g1 N
 rw [Yg aj]at N
 have N:=B4.AdF N
 subst N
 obtain ⟨μ',g',R⟩:=shown hΓ Y (ER ai) (Ky ak) U J.heap g1
 refine hQ μ' a' w' ⟨fun t=>?_,F1.size,g'.rel,?_⟩ g'
 ·show Ag ρ μ' (Em ((Ox k.NM .nil).get t)) _
  cases hg:(Ox k.NM .nil).get t with
  |none=>trivial
  |some v=>
   rcases PD _ _ _ _ hg with q|q
   ·exact KB hΓ R (K6 aa t v q) (F1.tmps t)
   ·cases q
 ·exact Tk hΓ R af F1.defs
theorem Cj.sub {P:Program} {τ:CE} {g:FuncId} {k j:B4} (hs:k.sub τ=some j) (x:Cj P (ρ.sub τ) g k):Cj P ρ g j:=fun fn c hf hc y v e=>by
 have q:j.id=k.id:=by
  unfold B4.sub at hs
  split at hs
  ·simp only [oI]at hs;subst hs;rfl
  ·cases hs
 exact DP.sub hs (x fn c hf hc y v (by rw [e,q]))
theorem Cj.RW {P:Program} {τ:CE} {g:FuncId} {k j:B4} (hs:k.sub τ=some j) (x:Cj P ρ g j):Cj P (ρ.sub τ) g k:=fun fn c hf hc y v e=>by
 have q:j.id=k.id:=by
  unfold B4.sub at hs
  split at hs
  ·simp only [oI]at hs;subst hs;rfl
  ·cases hs
 exact DP.RW hs (x fn c hf hc y v (by rw [e,q]))
end
end
section
structure C3 where
 n:Nat:=0
 s:Nat:=0
 l:Nat:=0
 m:Nat:=0
def C3.add (a b:C3):C3:=⟨a.n+b.n,a.s+b.s,a.l+b.l,a.m+b.m⟩
def C3.eq (a b:C3):Bool:=Nat.beq a.n b.n&&(Nat.beq a.s b.s&&(Nat.beq a.l b.l&&Nat.beq a.m b.m))
structure Aj where
 n:List Int:=[]
 s:List (List Nat):=[]
 l:List (List (List PV)):=[]
 m:List (List (List Nat×List PV)):=[]
def Aj.app (a b:Aj):Aj:=⟨a.n++b.n,a.s++b.s,a.l++b.l,a.m++b.m⟩
def Aj.cnt (v:Aj):C3:=⟨v.n.length,v.s.length,v.l.length,v.m.length⟩
def Aj.env (T:Nat->Option Obj) (v:Aj):Env:=Env.of T v.n v.s v.l v.m
def Aj.e (v:Aj):Env:=v.env fun _=>none
def MR {α:Type} (d:α):Nat->Nat->List α->List α
 |0,_,_=>[]
 |k+1,i,l=>l.getD i d::MR d k (i+1) l
def Aj.fit (c:C3) (v:Aj):Aj:=⟨MR 0 c.n 0 v.n,MR [] c.s 0 v.s,MR [] c.l 0 v.l,MR [] c.m 0 v.m⟩
def CE.vals (τ:CE) (ρ:Env):Aj:=⟨τ.n.map (·.den ρ),τ.s.map (Bm ρ),τ.l.map ρ.lst,τ.m.map ρ.map⟩
def CE.cnt (τ:CE):C3:=⟨τ.n.length,τ.s.length,τ.l.length,τ.m.length⟩
def CE.app (a b:CE):CE:=⟨a.n++b.n,a.s++b.s,a.l++b.l,a.m++b.m⟩
def MO {α:Type} (f:Nat->α):Nat->Nat->List α
 |0,_=>[]
 |k+1,i=>f i::MO f k (i+1)
def Jg (c d:C3):CE:=⟨MO .var d.n c.n,MO .svar d.s c.s,MO id d.l c.l,MO id d.m c.m⟩
inductive CK where
 |int (k:IntKind)
 |bool
 |str
 |list (es:Nat)
 |nilp
def CK.cnt:CK->C3
 |.int _=>{n:=1}
 |.bool=>{n:=1}
 |.str=>{s:=1}
 |.list _=>{n:=1,l:=1}
 |.nilp=>{}
def b01 (b:Bool):Int:=bif b then 1 else 0
def CK.read:CK->PV->Option Aj
 |.int k,.int k' n=>bif UM k k' then some {n:=[n]}else none
 |.bool,.bool b=>some {n:=[b01 b]}
 |.str,.str s=>some {s:=[s]}
 |.list es,.list es' l=>bif Nat.beq es es' then some {n:=[(l.length:Int)],l:=[l]}else none
 |.nilp,.nilp=>some {}
 |_,_=>none
def CK.val (c:C3):CK->Aa
 |.int k=>.int k (.var c.n)
 |.bool=>.bool (.cmp .neq (.var c.n) (.lit 0))
 |.str=>.svar c.s
 |.list es=>.lst false c.l es (.var c.n)
 |.nilp=>.nilPtr
def HF:List CK->C3
 |[]=>{}
 |k::r=>k.cnt.add (HF r)
def CL:List CK->List PV->Option Aj
 |[],[]=>some {}
 |k::sh,p::ps=>match k.read p with
  |some a=>(match CL sh ps with|some b=>some (a.app b) |none=>none)
  |none=>none
 |_,_=>none
def Nt:List CK->C3->List Aa
 |[],_=>[]
 |k::r,c=>k.val c::Nt r (c.add k.cnt)
def MC:List CK->C3->List (Nat×ST)
 |[],_=>[]
 |k::r,c=>match k with
  |.list _=>(c.l,.var c.n)::MC r (c.add k.cnt)
  |_=>MC r (c.add k.cnt)
def Fz (ρ:Env):CK->Aa->Option PV
 |.int k,.int k' t=>bif UM k k' then some (.int k (t.den ρ))else none
 |.bool,.bool b=>some (.bool (b.den ρ))
 |.str,.str s=>some (.str s)
 |.str,.svar i=>some (.str (ρ.str i))
 |.list es,.nilSlice=>some (.list es [])
 |.list es,.lst _ i es' _=>bif Nat.beq es es' then some (.list es (ρ.lst i))else none
 |.nilp,.nilPtr=>some .nilp
 |_,_=>none
def BP (ρ:Env):List CK->List Aa->Option (List PV)
 |[],[]=>some []
 |k::sh,a::as=>match Fz ρ k a with
  |some p=>(match BP ρ sh as with|some ps=>some (p::ps) |none=>none)
  |none=>none
 |_,_=>none
def Fl (ρ:Env) (j:List CK):List (List Aa)->Option (List (List PV))
 |[]=>some []
 |a::as=>match BP ρ j a with
  |some p=>(match Fl ρ j as with|some ps=>some (p::ps) |none=>none)
  |none=>none
def CW (ρ:Env) (j:List CK):AE->Option (List (List PV))
 |.els es=>Fl ρ j es
 |.all i=>some (ρ.lst i)
 |.take i n=>if 0<=n.den ρ/\n.den ρ<=((ρ.lst i).length:Int)then some ((ρ.lst i).take (n.den ρ).toNat)else none
 |.drop i n=>if 0<=n.den ρ/\n.den ρ<=((ρ.lst i).length:Int)then some ((ρ.lst i).drop (n.den ρ).toNat)else none
def Cn (ρ:Env) (j:List CK):List AE->Option (List (List PV))
 |[]=>some []
 |p::ps=>match CW ρ j p with
  |some a=>(match Cn ρ j ps with|some b=>some (a++b) |none=>none)
  |none=>none
def C7 (ρ:Env) (j:List CK):List (Aa×List Aa)->Option (List (List Nat×List PV))
 |[]=>some []
 |x::r=>match BP ρ j x.2 with
  |some p=>(match C7 ρ j r with|some ps=>some ((Bm ρ x.1,p)::ps) |none=>none)
  |none=>none
def LN (op:BinOp) (x y:Int):Prop:=
 match op with
 |.eql=>x=y
 |.neq=>x≠y
 |.lss=>x<y
 |.leq=>x<=y
 |.gtr=>x>y
 |_=>x>=y
instance Ail (op:BinOp) (x y:Int):Decidable (LN op x y):=
 match op with
 |.eql=>inferInstanceAs (Decidable (x=y))
 |.neq=>inferInstanceAs (Decidable (x≠y))
 |.lss=>inferInstanceAs (Decidable (x<y))
 |.leq=>inferInstanceAs (Decidable (x<=y))
 |.gtr=>inferInstanceAs (Decidable (x>y))
 |.geq|.add|.sub|.mul|.quo|.rem|.and|.or|.xor|.shl|.shr|.andNot=>inferInstanceAs (Decidable (x>=y))
inductive Tree where
 |fail
 |leaf (alt:Nat) (nw:List Nat) (τ:CE)
 |test (op:BinOp) (a b:ST) (t e:Tree)
 |B6 (i:Nat) (n:Int) (t e:Tree)
 |sets (i:Nat) (s:List Nat) (t e:Tree)
 |elem (l:Nat) (j:ST) (sh:List CK) (k:Tree)
 |Bc (l:Nat) (t:ST) (k:Tree)
 |BQ (s lo hi:Nat) (k:Tree)
 |FH (x y:Aa) (t e:Tree)
 |cat (x y:Aa) (k:Tree)
 |JO (ps:List AE) (sh:List CK) (k:Tree)
 |look (m:Nat) (key:Aa) (sh:List CK) (t e:Tree)
 |up (m:Nat) (key:Aa) (cs:List Aa) (sh:List CK) (k:Tree)
 |Ku (es:List (Aa×List Aa)) (sh:List CK) (k:Tree)
 |bump (t:ST) (n:Nat) (k:Tree)
 |Od (z:Nat×Nat×Nat×Nat×Nat) (k:Tree)
 |call (c alt:Nat) (τ:CE) (o:C3) (k e:Tree)
abbrev Out:=Nat×Aj
abbrev VG:=Nat->Aj->Option Out
def Ni (l:List (List PV)) (j:Int) (q:List CK) (k:Aj->Option Out):Option Out:=
 if 0<=j then (match l[j.toNat]? with|some ps=>(match CL q ps with|some w=>k (w.fit (HF q)) |none=>none) |none=>none)else none
def IK (m:List (List Nat×List PV)) (s:List Nat) (j:List CK) (k:Aj->Option Out) (e:Option Out):Option Out:=
 match Bh m s with
 |some ps=>(match CL j ps with|some w=>k (w.fit (HF j)) |none=>none)
 |none=>e
def Lq (r:Option Out) (j:Nat) (o:C3) (k:Aj->Option Out) (e:Option Out):Option Out:=
 match r with
 |some w=>if w.1=j then k (w.2.fit o)else e
 |none=>none
def Hj {α:Type} (r:Option α) (k:α->Option Out):Option Out:=
 match r with
 |some a=>k a
 |none=>none
def Tree.eval (M:VG):Tree->Aj->Option Out
 |.fail,_=>none
 |.leaf alt _ τ,v=>some (alt,τ.vals v.e)
 |.test op a b t e,v=>if LN op (a.den v.e) (b.den v.e)then t.eval M v else e.eval M v
 |.B6 i n t e,v=>if v.n.getD i 0=n then t.eval M v else e.eval M v
 |.sets i s t e,v=>if v.s.getD i []=s then t.eval M v else e.eval M v
 |.elem l j sh k,v=>Ni (v.l.getD l []) (j.den v.e) sh fun w=>k.eval M (v.app w)
 |.Bc l t k,v=>if t.den v.e=((v.l.getD l []).length:Int)then k.eval M v else none
 |.BQ s lo hi k,v=>if lo<=(v.s.getD s []).length/\(v.s.getD s []).length<=hi then k.eval M (v.app {n:=[((v.s.getD s []).length:Int)]})else none
 |.FH x y t e,v=>if Bm v.e x=Bm v.e y then t.eval M v else e.eval M v
 |.cat x y k,v=>if (Bm v.e x).length+(Bm v.e y).length<=1048576 then k.eval M (v.app {s:=[Bm v.e x++Bm v.e y]})else none
 |.JO ps sh k,v=>Hj (Cn v.e sh ps) fun l=>k.eval M (v.app {n:=[(l.length:Int)],l:=[l]})
 |.look m key sh t e,v=>IK (v.m.getD m []) (Bm v.e key) sh (fun w=>t.eval M (v.app w)) (e.eval M v)
 |.up m key cs sh k,v=>Hj (BP v.e sh cs) fun ps=>k.eval M (v.app {m:=[Bv (v.m.getD m []) (Bm v.e key) ps]})
 |.Ku es sh k,v=>Hj (C7 v.e sh es) fun l=>k.eval M (v.app {m:=[l]})
 |.bump t n k,v=>if t.den v.e+n<=1048576 then k.eval M (v.app {n:=[t.den v.e+n]})else none
 |.Od _ k,v=>k.eval M v
 |.call c alt τ o k e,v=>Lq (M c (τ.vals v.e)) alt o (fun w=>k.eval M (v.app w)) (e.eval M v)
def mir (trees:Nat->Tree):Nat->VG
 |0,_,_=>none
 |N+1,c,v=>(trees c).eval (mir trees N) v
def ST.BT (n:Nat):ST->Bool
 |.lit _=>true
 |.var i=>Nat.blt i n
 |.bin _ _ a b=>a.BT n&&b.BT n
 |.conv _ a=>a.BT n
def SB.BT (n:Nat):SB->Bool
 |.lit _=>true
 |.cmp _ a b=>a.BT n&&b.BT n
 |.no a=>a.BT n
def Aa.BT (c:C3):Aa->Bool
 |.bool b=>b.BT c.n
 |.int _ t=>t.BT c.n
 |.str _=>true
 |.svar i=>Nat.blt i c.s
 |.lst f i _ t=>!f&&(Nat.blt i c.l&&t.BT c.n)
 |.nilPtr=>true
 |.nilSlice=>true
 |_=>false
def B7 {α:Type} (p:α->Bool):List α->Bool
 |[]=>true
 |a::r=>p a&&B7 p r
def AE.BT (c:C3):AE->Bool
 |.els es=>B7 (B7 (Aa.BT c)) es
 |.all i=>Nat.blt i c.l
 |.take i n=>Nat.blt i c.l&&n.BT c.n
 |.drop i n=>Nat.blt i c.l&&n.BT c.n
def LV (c:C3) (a:Aa):Bool:=a.isStr&&a.BT c
def CE.BT (c:C3) (τ:CE):Bool:=B7 (ST.BT c.n) τ.n&&(B7 (LV c) τ.s&&(B7 (fun i=>Nat.blt i c.l) τ.l&&B7 (fun i=>Nat.blt i c.m) τ.m))
def Tree.BT:Tree->C3->Bool
 |.fail,_=>true
 |.leaf _ _ τ,c=>τ.BT c
 |.test _ a b t e,c=>a.BT c.n&&(b.BT c.n&&(t.BT c&&e.BT c))
 |.B6 i _ t e,c=>Nat.blt i c.n&&(t.BT c&&e.BT c)
 |.sets i _ t e,c=>Nat.blt i c.s&&(t.BT c&&e.BT c)
 |.elem l j sh k,c=>Nat.blt l c.l&&(j.BT c.n&&k.BT (c.add (HF sh)))
 |.Bc l t k,c=>Nat.blt l c.l&&(t.BT c.n&&k.BT c)
 |.BQ s _ _ k,c=>Nat.blt s c.s&&k.BT (c.add {n:=1})
 |.FH x y t e,c=>LV c x&&(LV c y&&(t.BT c&&e.BT c))
 |.cat x y k,c=>LV c x&&(LV c y&&k.BT (c.add {s:=1}))
 |.JO ps _ k,c=>B7 (AE.BT c) ps&&k.BT (c.add {n:=1,l:=1})
 |.look m key sh t e,c=>Nat.blt m c.m&&(LV c key&&(t.BT (c.add (HF sh))&&e.BT c))
 |.up m key cs _ k,c=>Nat.blt m c.m&&(LV c key&&(B7 (Aa.BT c) cs&&k.BT (c.add {m:=1})))
 |.Ku es _ k,c=>B7 (fun x:Aa×List Aa=>LV c x.1&&B7 (Aa.BT c) x.2) es&&k.BT (c.add {m:=1})
 |.bump t _ k,c=>t.BT c.n&&k.BT (c.add {n:=1})
 |.Od _ k,c=>k.BT c
 |.call _ _ τ o k e,c=>τ.BT c&&(k.BT (c.add o)&&e.BT c)
def At (vf:Aj) (c:C3) (w:Aj):Prop:=∃v r:Aj,v.cnt=c/\vf=(v.app w).app r
def Tree.sem (M:VG) (vf:Aj):Tree->C3->Out->Prop
 |.fail,_,_=>False
 |.leaf alt _ τ,_,o=>o=(alt,τ.vals vf.e)
 |.test op a b t e,c,o=>(LN op (a.den vf.e) (b.den vf.e)/\t.sem M vf c o)∨(¬LN op (a.den vf.e) (b.den vf.e)/\e.sem M vf c o)
 |.B6 i n t e,c,o=>(vf.n.getD i 0=n/\t.sem M vf c o)∨(vf.n.getD i 0≠n/\e.sem M vf c o)
 |.sets i s t e,c,o=>(vf.s.getD i []=s/\t.sem M vf c o)∨(vf.s.getD i []≠s/\e.sem M vf c o)
 |.elem l j sh k,c,o=>0<=j.den vf.e/\∃ps w,(vf.l.getD l [])[(j.den vf.e).toNat]?=some ps/\CL sh ps=some w/\At vf c w/\k.sem M vf (c.add (HF sh)) o
 |.Bc l t k,c,o=>t.den vf.e=((vf.l.getD l []).length:Int)/\k.sem M vf c o
 |.BQ s lo hi k,c,o=>lo<=(vf.s.getD s []).length/\(vf.s.getD s []).length<=hi/\At vf c {n:=[((vf.s.getD s []).length:Int)]}/\k.sem M vf (c.add {n:=1}) o
 |.FH x y t e,c,o=>(Bm vf.e x=Bm vf.e y/\t.sem M vf c o)∨(Bm vf.e x≠Bm vf.e y/\e.sem M vf c o)
 |.cat x y k,c,o=>(Bm vf.e x).length+(Bm vf.e y).length<=1048576/\At vf c {s:=[Bm vf.e x++Bm vf.e y]}/\k.sem M vf (c.add {s:=1}) o
 |.JO ps sh k,c,o=>∃l,Cn vf.e sh ps=some l/\At vf c {n:=[(l.length:Int)],l:=[l]}/\k.sem M vf (c.add {n:=1,l:=1}) o
 |.look m key sh t e,c,o=>(∃ps w,Bh (vf.m.getD m []) (Bm vf.e key)=some ps/\CL sh ps=some w/\At vf c w/\t.sem M vf (c.add (HF sh)) o)∨(Bh (vf.m.getD m []) (Bm vf.e key)=none/\e.sem M vf c o)
 |.up m key cs sh k,c,o=>∃ps,BP vf.e sh cs=some ps/\At vf c {m:=[Bv (vf.m.getD m []) (Bm vf.e key) ps]}/\k.sem M vf (c.add {m:=1}) o
 |.Ku es sh k,c,o=>∃l,C7 vf.e sh es=some l/\At vf c {m:=[l]}/\k.sem M vf (c.add {m:=1}) o
 |.bump t n k,c,o=>t.den vf.e+n<=1048576/\At vf c {n:=[t.den vf.e+n]}/\k.sem M vf (c.add {n:=1}) o
 |.Od _ k,c,o=>k.sem M vf c o
 |.call g alt τ u k e,c,o=>(∃w,M g (τ.vals vf.e)=some (alt,w)/\At vf c (w.fit u)/\k.sem M vf (c.add u) o)∨e.sem M vf c o
end
section
theorem Aj.ext' {a b:Aj} (j:a.n=b.n) (v:a.s=b.s) (q:a.l=b.l) (x:a.m=b.m):a=b:=by
 cases a;cases b;simp only at j v q x;subst j v q x;rfl
theorem Aj.Bi (a b c:Aj):(a.app b).app c=a.app (b.app c):=by
 apply Aj.ext'<;>simp [Aj.app,List.append_assoc]
theorem Aj.Aea (a:Aj):a.app {}=a:=by
 apply Aj.ext'<;>simp [Aj.app]
theorem Aj.Ch (a b:Aj):(a.app b).cnt=a.cnt.add b.cnt:=by
 simp [Aj.app,Aj.cnt,C3.add]
theorem H6 {α:Type} (d:α):∀(k i:Nat) (l:List α),(MR d k i l).length=k
 |0,_,_=>rfl
 |k+1,i,l=>by simp [MR,H6 d k (i+1) l]
theorem Aj.AdM (c:C3) (v:Aj):(v.fit c).cnt=c:=by
 simp [Aj.fit,Aj.cnt,H6]
theorem Tc {α:Type} (d:α):∀(k i j:Nat) (l:List α),j<k->(MR d k i l)[j]?=some (l.getD (i+j) d)
 |0,_,_,_,h=>by omega
 |k+1,i,j,l,h=>by
  cases j with
  |zero=>simp [MR]
  |succ j=>
   show (MR d k (i+1) l)[j]?=_
   rw [Tc d k (i+1) j l (by omega)]
   congr 2;omega
theorem Yf {α:Type} (d:α) (l:List α):MR d l.length 0 l=l:=by
 apply List.ext_getElem?
 intro j
 by_cases h:j<l.length
 ·rw [Tc d _ _ _ _ h,List.getElem?_eq_getElem h]
  simp [List.getD_eq_getElem?_getD,List.getElem?_eq_getElem h]
 ·rw [List.getElem?_eq_none (by rw [H6];omega),List.getElem?_eq_none (by omega)]
theorem Aj.MQ {v:Aj} {c:C3} (h:v.cnt=c):v.fit c=v:=by
 subst h
 apply Aj.ext'<;>exact Yf _ _
theorem C3.eq_iff {a b:C3}:a.eq b=true↔a=b:=by
 cases a;cases b
 simp [C3.eq]
theorem CK.S5 {k:CK} {p:PV} {w:Aj} (h:k.read p=some w):w.cnt=k.cnt:=by
 cases k<;>cases p<;>simp only [CK.read,reduceCtorEq,oI]at h
 case int.int=>
  obtain ⟨_,h⟩:=Aq h
  simp only [oI]at h
  subst h;rfl
 case list.list=>
  obtain ⟨_,h⟩:=Aq h
  simp only [oI]at h
  subst h;rfl
 all_goals subst h;rfl
theorem FL:∀{j:List CK} {ps:List PV} {w:Aj},CL j ps=some w->w.cnt=HF j
 |[],[],w,h=>by simp only [CL,oI]at h;subst h;rfl
 |k::j,p::ps,w,h=>by
  simp only [CL]at h
  split at h
  ·rename_i a ha
   split at h
   ·rename_i b hb
    simp only [oI]at h
    subst h
    rw [Aj.Ch,CK.S5 ha,FL hb];rfl
   ·cases h
  ·cases h
 |[],_::_,w,h=>by simp [CL]at h
 |_::_,[],w,h=>by simp [CL]at h
section
variable {v r:Aj}
theorem PC {i:Nat} (h:Nat.blt i v.cnt.n=true):(v.app r).n.getD i 0=v.n.getD i 0:=by
 have h:i<v.n.length:=by rwa [Nat.blt_eq]at h
 simp only [Aj.app,List.getD_eq_getElem?_getD,List.getElem?_append_left h]
theorem Jj {i:Nat} (h:Nat.blt i v.cnt.s=true):(v.app r).s.getD i []=v.s.getD i []:=by
 have h:i<v.s.length:=by rwa [Nat.blt_eq]at h
 simp only [Aj.app,List.getD_eq_getElem?_getD,List.getElem?_append_left h]
theorem Gj {i:Nat} (h:Nat.blt i v.cnt.l=true):(v.app r).l.getD i []=v.l.getD i []:=by
 have h:i<v.l.length:=by rwa [Nat.blt_eq]at h
 simp only [Aj.app,List.getD_eq_getElem?_getD,List.getElem?_append_left h]
theorem L8 {i:Nat} (h:Nat.blt i v.cnt.m=true):(v.app r).m.getD i []=v.m.getD i []:=by
 have h:i<v.m.length:=by rwa [Nat.blt_eq]at h
 simp only [Aj.app,List.getD_eq_getElem?_getD,List.getElem?_append_left h]
theorem ST.BN:∀{t:ST},t.BT v.cnt.n=true->t.den (v.app r).e=t.den v.e
 |.lit _,_=>rfl
 |.var i,h=>PC h
 |.bin _ _ a b,h=>by
  simp only [ST.BT,aT]at h
  simp only [ST.den,ST.BN h.1,ST.BN h.2]
 |.conv _ a,h=>by
  simp only [ST.BT]at h
  simp only [ST.den,ST.BN h]
theorem SB.BN:∀{t:SB},t.BT v.cnt.n=true->t.den (v.app r).e=t.den v.e
 |.lit _,_=>rfl
 |.cmp _ a b,h=>by
  simp only [SB.BT,aT]at h
  simp only [SB.den,ST.BN h.1,ST.BN h.2]
 |.no a,h=>by
  simp only [SB.BT]at h
  simp only [SB.den,SB.BN h]
theorem CU {a:Aa} (h:LV v.cnt a=true):Bm (v.app r).e a=Bm v.e a:=by
 simp only [LV,aT]at h
 cases a<;>simp only [Aa.isStr,Bool.false_eq_true,false_and]at h
 case str=>rfl
 case svar i=>exact Jj h.2
theorem Yo {k:CK} {a:Aa} (h:a.BT v.cnt=true):Fz (v.app r).e k a=Fz v.e k a:=by
 cases k<;>cases a<;>simp only [Aa.BT,Bool.false_eq_true]at h<;>try rfl
 case int.int=>simp only [Fz,ST.BN h]
 case bool.bool=>simp only [Fz,SB.BN h]
 case str.svar i=>simp only [Fz];rw [show (v.app r).e.str i=v.e.str i from Jj h]
 case list.lst es f i es' n=>
  simp only [aT]at h
  simp only [Fz];rw [show (v.app r).e.lst i=v.e.lst i from Gj h.2.1]
theorem Fa {α:Type} {p:α->Bool}:∀{l:List α},B7 p l=true->∀x∈l,p x=true
 |[],_,_,hx=>by cases hx
 |a::l,h,x,hx=>by
  simp only [B7,aT]at h
  rcases List.mem_cons.1 hx with rfl|hx
  ·exact h.1
  ·exact Fa h.2 x hx
theorem Gy:∀{j:List CK} {as:List Aa},B7 (Aa.BT v.cnt) as=true->BP (v.app r).e j as=BP v.e j as
 |[],[],_=>rfl
 |[],_::_,_=>rfl
 |_::_,[],_=>rfl
 |k::j,a::as,h=>by
  simp only [B7,aT]at h
  simp only [BP,Yo h.1,Gy h.2]
theorem OC {j:List CK}:∀{as:List (List Aa)},B7 (B7 (Aa.BT v.cnt)) as=true->Fl (v.app r).e j as=Fl v.e j as
 |[],_=>rfl
 |a::as,h=>by
  simp only [B7,aT]at h
  simp only [Fl,Gy h.1,OC h.2]
theorem XB {j:List CK} {p:AE} (h:p.BT v.cnt=true):CW (v.app r).e j p=CW v.e j p:=by
 cases p<;>simp only [AE.BT,aT]at h
 case els es=>exact OC h
 case all i=>simp only [CW];rw [show (v.app r).e.lst i=v.e.lst i from Gj h]
 case take i n=>simp only [CW];rw [show (v.app r).e.lst i=v.e.lst i from Gj h.1,ST.BN h.2]
 case drop i n=>simp only [CW];rw [show (v.app r).e.lst i=v.e.lst i from Gj h.1,ST.BN h.2]
theorem Mw {j:List CK}:∀{ps:List AE},B7 (AE.BT v.cnt) ps=true->Cn (v.app r).e j ps=Cn v.e j ps
 |[],_=>rfl
 |p::ps,h=>by
  simp only [B7,aT]at h
  simp only [Cn,XB h.1,Mw h.2]
theorem JL {q:List CK}:∀{j:List (Aa×List Aa)},B7 (fun x:Aa×List Aa=>LV v.cnt x.1&&B7 (Aa.BT v.cnt) x.2) j=true->C7 (v.app r).e q j=C7 v.e q j
 |[],_=>rfl
 |x::j,h=>by
  simp only [B7,aT]at h
  simp only [C7,Gy h.1.2,CU h.1.1,JL h.2]
theorem CX {α β:Type} {f g:α->β}:∀{l:List α},(∀x∈l,f x=g x)->l.map f=l.map g
 |[],_=>rfl
 |x::l,h=>by
  rw [List.map_cons,List.map_cons,h x List.mem_cons_self,CX fun y j=>h y (List.mem_cons_of_mem _ j)]
theorem CE.YI {τ:CE} (h:τ.BT v.cnt=true):τ.vals (v.app r).e=τ.vals v.e:=by
 simp only [CE.BT,aT]at h
 obtain ⟨A,x,B,z⟩:=h
 apply Aj.ext'
 ·exact CX fun t j=>ST.BN (Fa A t j)
 ·exact CX fun t j=>CU (Fa x t j)
 ·exact CX fun i q=>Gj (Fa B i q)
 ·exact CX fun i q=>L8 (Fa z i q)
end
theorem Vo {l:List (List PV)} {j:Int} {x:List CK} {k:Aj->Option Out} {o:Out} (h:Ni l j x k=some o):0<=j/\∃ps w,l[j.toNat]?=some ps/\CL x ps=some w/\k w=some o:=by
 unfold Ni at h
 split at h
 ·rename_i z
  split at h
  ·rename_i ps q
   split at h
   ·rename_i w v
    rw [Aj.MQ (FL v)]at h
    exact ⟨z,ps,w,q,v,h⟩
   ·cases h
  ·cases h
 ·cases h
theorem UH {m:List (List Nat×List PV)} {s:List Nat} {q:List CK} {k:Aj->Option Out} {e:Option Out} {o:Out} (h:IK m s q k e=some o):(∃ps w,Bh m s=some ps/\CL q ps=some w/\k w=some o)∨(Bh m s=none/\e=some o):=by
 unfold IK at h
 split at h
 ·rename_i ps v
  split at h
  ·rename_i w j
   rw [Aj.MQ (FL j)]at h
   exact .inl ⟨ps,w,v,j,h⟩
  ·cases h
 ·rename_i x
  exact .inr ⟨x,h⟩
theorem V0 {r:Option Out} {j:Nat} {u:C3} {k:Aj->Option Out} {e:Option Out} {o:Out} (h:Lq r j u k e=some o):(∃w,r=some (j,w)/\k (w.fit u)=some o)∨e=some o:=by
 unfold Lq at h
 split at h
 ·rename_i w
  split at h
  ·rename_i ha
   refine .inl ⟨w.2,?_,h⟩
   rw [<-ha]
  ·exact .inr h
 ·cases h
theorem ID {α:Type} {r:Option α} {k:α->Option Out} {o:Out} (h:Hj r k=some o):∃a,r=some a/\k a=some o:=by
 unfold Hj at h
 split at h
 ·rename_i a
  exact ⟨a,rfl,h⟩
 ·cases h
theorem Bt {M:VG}:∀(t:Tree) {v:Aj} {o:Out},t.BT v.cnt=true->t.eval M v=some o->∃r,t.sem M (v.app r) v.cnt o
 |.fail,v,o,_,h=>by simp [Tree.eval]at h
 |.leaf alt nw τ,v,o,hb,h=>by
  simp only [Tree.eval,oI]at h
  refine ⟨{},?_⟩
  simp only [Tree.sem,Aj.Aea]
  exact h.symm
 |.test op a b t e,v,o,hb,h=>by
  simp only [Tree.BT,aT]at hb
  simp only [Tree.eval]at h
  split at h
  ·rename_i hc
   obtain ⟨r,q⟩:=Bt t hb.2.2.1 h
   refine ⟨r,.inl ⟨?_,q⟩⟩
   rw [ST.BN hb.1,ST.BN hb.2.1];exact hc
  ·rename_i hc
   obtain ⟨r,q⟩:=Bt e hb.2.2.2 h
   refine ⟨r,.inr ⟨?_,q⟩⟩
   rw [ST.BN hb.1,ST.BN hb.2.1];exact hc
 |.B6 i n t e,v,o,hb,h=>by
  simp only [Tree.BT,aT]at hb
  simp only [Tree.eval]at h
  split at h
  ·rename_i hc
   obtain ⟨r,q⟩:=Bt t hb.2.1 h
   exact ⟨r,.inl ⟨by rw [PC hb.1];exact hc,q⟩⟩
  ·rename_i hc
   obtain ⟨r,q⟩:=Bt e hb.2.2 h
   exact ⟨r,.inr ⟨by rw [PC hb.1];exact hc,q⟩⟩
 |.sets i s t e,v,o,hb,h=>by
  simp only [Tree.BT,aT]at hb
  simp only [Tree.eval]at h
  split at h
  ·rename_i hc
   obtain ⟨r,q⟩:=Bt t hb.2.1 h
   exact ⟨r,.inl ⟨by rw [Jj hb.1];exact hc,q⟩⟩
  ·rename_i hc
   obtain ⟨r,q⟩:=Bt e hb.2.2 h
   exact ⟨r,.inr ⟨by rw [Jj hb.1];exact hc,q⟩⟩
 |.elem l j sh k,v,o,hb,h=>by
  simp only [Tree.BT,aT]at hb
  simp only [Tree.eval]at h
  obtain ⟨C,ps,w,A,B,h⟩:=Vo h
  have hc:(v.app w).cnt=v.cnt.add (HF sh):=by rw [Aj.Ch,FL B]
  obtain ⟨r,q⟩:=Bt k (by rw [hc];exact hb.2.2) h
  rw [hc,Aj.Bi]at q
  exact ⟨w.app r,by rw [ST.BN hb.2.1];exact C,ps,w,by rw [ST.BN hb.2.1,Gj hb.1];exact A,B,⟨v,r,rfl,(Aj.Bi _ _ _).symm⟩,q⟩
 |.Bc l t k,v,o,hb,h=>by
  simp only [Tree.BT,aT]at hb
  simp only [Tree.eval]at h
  split at h
  ·rename_i hc
   obtain ⟨r,q⟩:=Bt k hb.2.2 h
   exact ⟨r,by rw [ST.BN hb.2.1,Gj hb.1];exact hc,q⟩
  ·cases h
 |.BQ s lo hi k,v,o,hb,h=>by
  simp only [Tree.BT,aT]at hb
  simp only [Tree.eval]at h
  split at h
  ·rename_i hc
   obtain ⟨r,q⟩:=Bt k (v:=v.app {n:=[((v.s.getD s []).length:Int)]}) (by rw [Aj.Ch];exact hb.2) h
   rw [Aj.Ch,Aj.Bi]at q
   refine ⟨Aj.app {n:=[((v.s.getD s []).length:Int)]} r,?_⟩
   simp only [Tree.sem]
   rw [Jj hb.1]
   exact ⟨hc.1,hc.2,⟨v,r,rfl,(Aj.Bi _ _ _).symm⟩,q⟩
  ·cases h
 |.FH x y t e,v,o,hb,h=>by
  simp only [Tree.BT,aT]at hb
  simp only [Tree.eval]at h
  split at h
  ·rename_i hc
   obtain ⟨r,q⟩:=Bt t hb.2.2.1 h
   exact ⟨r,.inl ⟨by rw [CU hb.1,CU hb.2.1];exact hc,q⟩⟩
  ·rename_i hc
   obtain ⟨r,q⟩:=Bt e hb.2.2.2 h
   exact ⟨r,.inr ⟨by rw [CU hb.1,CU hb.2.1];exact hc,q⟩⟩
 |.cat x y k,v,o,hb,h=>by
  simp only [Tree.BT,aT]at hb
  simp only [Tree.eval]at h
  split at h
  ·rename_i hc
   obtain ⟨r,q⟩:=Bt k (v:=v.app {s:=[Bm v.e x++Bm v.e y]}) (by rw [Aj.Ch];exact hb.2.2) h
   rw [Aj.Ch,Aj.Bi]at q
   refine ⟨Aj.app {s:=[Bm v.e x++Bm v.e y]} r,?_⟩
   simp only [Tree.sem]
   rw [CU hb.1,CU hb.2.1]
   exact ⟨hc,⟨v,r,rfl,(Aj.Bi _ _ _).symm⟩,q⟩
  ·cases h
 |.JO ps sh k,v,o,hb,h=>by
  simp only [Tree.BT,aT]at hb
  simp only [Tree.eval]at h
  obtain ⟨l,hl,h⟩:=ID h
  obtain ⟨r,q⟩:=Bt k (v:=v.app {n:=[(l.length:Int)],l:=[l]}) (by rw [Aj.Ch];exact hb.2) h
  rw [Aj.Ch,Aj.Bi]at q
  refine ⟨Aj.app {n:=[(l.length:Int)],l:=[l]} r,l,?_,⟨v,r,rfl,(Aj.Bi _ _ _).symm⟩,q⟩
  rw [Mw hb.1];exact hl
 |.look m key sh t e,v,o,hb,h=>by
  simp only [Tree.BT,aT]at hb
  simp only [Tree.eval]at h
  rcases UH h with ⟨ps,w,A,B,h⟩|⟨hn,h⟩
  ·have hc:(v.app w).cnt=v.cnt.add (HF sh):=by rw [Aj.Ch,FL B]
   obtain ⟨r,q⟩:=Bt t (by rw [hc];exact hb.2.2.1) h
   rw [hc,Aj.Bi]at q
   exact ⟨w.app r,.inl ⟨ps,w,by rw [L8 hb.1,CU hb.2.1];exact A,B,⟨v,r,rfl,(Aj.Bi _ _ _).symm⟩,q⟩⟩
  ·obtain ⟨r,q⟩:=Bt e hb.2.2.2 h
   exact ⟨r,.inr ⟨by rw [L8 hb.1,CU hb.2.1];exact hn,q⟩⟩
 |.up m key cs sh k,v,o,hb,h=>by
  simp only [Tree.BT,aT]at hb
  simp only [Tree.eval]at h
  obtain ⟨ps,A,h⟩:=ID h
  obtain ⟨r,q⟩:=Bt k (v:=v.app {m:=[Bv (v.m.getD m []) (Bm v.e key) ps]}) (by rw [Aj.Ch];exact hb.2.2.2) h
  rw [Aj.Ch,Aj.Bi]at q
  refine ⟨Aj.app {m:=[Bv (v.m.getD m []) (Bm v.e key) ps]} r,ps,?_,?_,q⟩
  ·rw [Gy hb.2.2.1];exact A
  ·rw [L8 hb.1,CU hb.2.1]
   exact ⟨v,r,rfl,(Aj.Bi _ _ _).symm⟩
 |.Ku es sh k,v,o,hb,h=>by
  simp only [Tree.BT,aT]at hb
  simp only [Tree.eval]at h
  obtain ⟨l,hl,h⟩:=ID h
  obtain ⟨r,q⟩:=Bt k (v:=v.app {m:=[l]}) (by rw [Aj.Ch];exact hb.2) h
  rw [Aj.Ch,Aj.Bi]at q
  refine ⟨Aj.app {m:=[l]} r,l,?_,⟨v,r,rfl,(Aj.Bi _ _ _).symm⟩,q⟩
  rw [JL hb.1];exact hl
 |.bump t n k,v,o,hb,h=>by
  simp only [Tree.BT,aT]at hb
  simp only [Tree.eval]at h
  split at h
  ·rename_i hc
   obtain ⟨r,q⟩:=Bt k (v:=v.app {n:=[t.den v.e+n]}) (by rw [Aj.Ch];exact hb.2) h
   rw [Aj.Ch,Aj.Bi]at q
   refine ⟨Aj.app {n:=[t.den v.e+n]} r,?_⟩
   simp only [Tree.sem]
   rw [ST.BN hb.1]
   exact ⟨hc,⟨v,r,rfl,(Aj.Bi _ _ _).symm⟩,q⟩
  ·cases h
 |.Od z k,v,o,hb,h=>by
  obtain ⟨r,q⟩:=Bt k (v:=v) hb h
  exact ⟨r,q⟩
 |.call c alt τ u k e,v,o,hb,h=>by
  simp only [Tree.BT,aT]at hb
  simp only [Tree.eval]at h
  rcases V0 h with ⟨w,B,h⟩|h
  ·have hc:(v.app (w.fit u)).cnt=v.cnt.add u:=by rw [Aj.Ch,Aj.AdM]
   obtain ⟨r,q⟩:=Bt k (by rw [hc];exact hb.2.1) h
   rw [hc,Aj.Bi]at q
   exact ⟨(w.fit u).app r,.inl ⟨w,by rw [CE.YI hb.1];exact B,⟨v,r,rfl,(Aj.Bi _ _ _).symm⟩,q⟩⟩
  ·obtain ⟨r,q⟩:=Bt e hb.2.2 h
   exact ⟨r,.inr q⟩
end
section
inductive JU where
 |call (x:BO)
 |loop (k:B4)
def JU.sub (τ:CE):JU->Option JU
 |.call x=>(x.sub τ).map .call
 |.loop k=>(k.sub τ).map .loop
def JU.Holds (P:Program) (ρ:Env) (g:FuncId):JU->Prop
 |.call x=>Go.AM.Holds P ρ g x
 |.loop k=>Cj P ρ g k
structure Alt where
 outs:C3
 w:JU
structure Spec where
 f:Nat
 ins:C3
 alts:List Alt
theorem JU.Ahg {P:Program} {ρ:Env} {τ:CE} {g:FuncId} {w y:JU} (hs:w.sub τ=some y) (h:w.Holds P (ρ.sub τ) g):y.Holds P ρ g:=by
 cases w
 case call x=>
  obtain ⟨z,j,rfl⟩:=mS hs
  exact Go.AM.Holds.sub j h
 case loop k=>
  obtain ⟨z,j,rfl⟩:=mS hs
  exact Cj.sub j h
theorem JU.AeS {P:Program} {ρ:Env} {τ:CE} {g:FuncId} {w y:JU} (hs:w.sub τ=some y) (h:y.Holds P ρ g):w.Holds P (ρ.sub τ) g:=by
 cases w
 case call x=>
  obtain ⟨z,j,rfl⟩:=mS hs
  exact Go.AM.Holds.RW j h
 case loop k=>
  obtain ⟨z,j,rfl⟩:=mS hs
  exact Cj.RW j h
structure Cx where
 cnt:C3
 fx:Ap
 ks:List (Nat×BO)
 ins:CE
def ST.B6 (i:Nat) (n:Int):ST->ST
 |.lit m=>.lit m
 |.var j=>bif Nat.beq i j then .lit n else .var j
 |.bin o k a b=>.bin o k (a.B6 i n) (b.B6 i n)
 |.conv k a=>.conv k (a.B6 i n)
def SB.B6 (i:Nat) (n:Int):SB->SB
 |.lit b=>.lit b
 |.cmp o a b=>AdN o (a.B6 i n) (b.B6 i n)
 |.no a=>(match a.B6 i n with|.lit b=>.lit (!b) |a=>.no a)
def Aa.B6 (i:Nat) (n:Int) (a:Aa):Aa:=
 match a with
 |.bool b=>.bool (b.B6 i n)
 |.int k t=>.int k (t.B6 i n)
 |.lst f j es t=>.lst f j es (t.B6 i n)
 |a=>a
def Aa.sets (i:Nat) (s:List Nat) (a:Aa):Aa:=
 match a with
 |.svar j=>bif Nat.beq i j then .str s else .svar j
 |a=>a
def Ht {α β:Type} (f:α->β):List α->List β
 |[]=>[]
 |a::r=>f a::Ht f r
def Cx.B6 (cx:Cx) (i:Nat) (n:Int):Cx:=
 {cx with ins:={cx.ins with n:=Ht (ST.B6 i n) cx.ins.n},fx:={cx.fx with elems:=Ht (fun x=>(x.1,x.2.1.B6 i n,Ht (Aa.B6 i n) x.2.2)) cx.fx.elems,Bc:=Ht (fun x=>(x.1,x.2.B6 i n)) cx.fx.Bc}}
def Cx.sets (cx:Cx) (i:Nat) (s:List Nat):Cx:=
 {cx with ins:={cx.ins with s:=Ht (Aa.sets i s) cx.ins.s},fx:={cx.fx with elems:=Ht (fun x=>(x.1,x.2.1,Ht (Aa.sets i s) x.2.2)) cx.fx.elems}}
def U5 (op:BinOp) (a b:ST) (v:Bool) (l:List (ST×Int)):List (ST×Int):=
 match b with
 |.lit n=>bif v&&NR op .eql||!v&&NR op .neq then (a,n)::l else l
 |_=>l
def Cx.test (cx:Cx) (op:BinOp) (a b:ST) (v:Bool):Cx:=
 {cx with fx:={cx.fx with tests:=(op,a,b,v)::cx.fx.tests,DJ:=U5 op a b v cx.fx.DJ}}
noncomputable def CH (fx:Ap) (a:Aa):Bool:=
 match a with
 |.lst _ i _ t=>(match EA i fx.Bc with|some u=>u.eq t|none=>false)
 |_=>true
noncomputable def AE.CH (fx:Ap) (p:AE):Bool:=
 match p with
 |.els es=>B7 (B7 (Go.AM.CH fx)) es
 |_=>true
def M1:List (Nat×ST)->Option Nat
 |[]=>none
 |x::r=>match x.2 with
  |.lit (.ofNat 0)=>some (match M1 r with|some j=>bif Nat.ble x.1 j then x.1 else j|none=>x.1)
  |_=>M1 r
def Acp (e:Option Nat) (k:CK) (a:Aa):Option Aa:=
 match a,k,e with
 |.nilSlice,.list es,some e=>some (.lst false e es (.lit (.ofNat 0)))
 |.nilSlice,_,_=>none
 |a,_,_=>some a
def AaO (e:Option Nat):List CK->List Aa->Option (List Aa)
 |k::sh,a::as=>match Acp e k a with
  |some x=>(match AaO e sh as with|some xs=>some (x::xs) |none=>none)
  |none=>none
 |[],[]=>some []
 |_,_=>none
def KX (e:Option Nat) (l:Nat) (j:List CK):Nat->List (List Aa)->List (Nat×ST×List Aa)
 |_,[]=>[]
 |k,r::rs=>match AaO e j r with
  |some cs=>(l,.lit (.ofNat k),cs)::KX e l j (k+1) rs
  |none=>KX e l j (k+1) rs
def Ah1 (fx:Ap) (l:Nat) (j:List CK) (ps:List AE):List (Nat×ST×List Aa):=
 match ps with
 |[.els rs]=>KX (M1 fx.Bc) l j 0 rs
 |_=>[]
def EU (c:Nat):List (Nat×Spec)->Option Spec
 |[]=>none
 |x::r=>bif Nat.beq x.1 c then some x.2 else EU c r
def XP {α:Type}:List α->Nat->Option α
 |[],_=>none
 |a::_,0=>some a
 |_::r,i+1=>XP r i
def Cx.Ak9 (cx:Cx) (f g:Nat) (o:C3) (y:JU):Option Cx:=
 match y with
 |.call x=>some {cx with ks:=(g,x)::cx.ks,cnt:=cx.cnt.add o}
 |.loop k=>bif Nat.beq f g then some {cx with fx:={cx.fx with loops:=k::cx.fx.loops},cnt:=cx.cnt.add o}else none
def Cx.call (cx:Cx) (S:List (Nat×Spec)) (f c j:Nat) (τ:CE) (o:C3):Option Cx:=
 AA (EU c S) fun sp=>AA (XP sp.alts j) fun A=>bif τ.cnt.eq sp.ins&&o.eq A.outs then
  AA (A.w.sub (τ.app (Jg cx.cnt o))) fun y=>cx.Ak9 f sp.f o y else none
abbrev L4:=Ap->List (Nat×BO)->JU->List Nat->Bool
noncomputable def Tree.ok (S:List (Nat×Spec)) (run:L4) (f:Nat) (alts:List Alt):Tree->Cx->Bool
 |.fail,_=>true
 |.leaf alt nw τ,cx=>CN (AA (XP alts alt) fun A=>bif τ.cnt.eq A.outs then AA (A.w.sub (cx.ins.app τ)) fun y=>some (run cx.fx cx.ks y nw)else none)
 |.test op a b t e,cx=>t.ok S run f alts (cx.test op a b true)&&e.ok S run f alts (cx.test op a b false)
 |.B6 i n t e,cx=>t.ok S run f alts (cx.B6 i n)&&e.ok S run f alts (cx.test .eql (.var i) (.lit n) false)
 |.sets i s t e,cx=>t.ok S run f alts (cx.sets i s)&&e.ok S run f alts {cx with fx:={cx.fx with strs:=(.svar i,.str s,false)::cx.fx.strs}}
 |.elem l j sh k,cx=>k.ok S run f alts {cx with fx:={cx.fx with elems:=(l,j,Nt sh cx.cnt)::cx.fx.elems,Bc:=MC sh cx.cnt++cx.fx.Bc},cnt:=cx.cnt.add (HF sh)}
 |.Bc l t k,cx=>k.ok S run f alts {cx with fx:={cx.fx with Bc:=(l,t)::cx.fx.Bc}}
 |.BQ s lo hi k,cx=>k.ok S run f alts {cx with fx:={cx.fx with BQ:=(s,.var cx.cnt.n,lo,hi)::cx.fx.BQ},cnt:=cx.cnt.add {n:=1}}
 |.FH x y t e,cx=>x.isStr&&(y.isStr&&(t.ok S run f alts {cx with fx:={cx.fx with strs:=(x,y,true)::cx.fx.strs}}&&e.ok S run f alts {cx with fx:={cx.fx with strs:=(x,y,false)::cx.fx.strs}}))
 |.cat x y k,cx=>x.isStr&&(y.isStr&&k.ok S run f alts {cx with fx:={cx.fx with E3:=(x,y,.svar cx.cnt.s)::cx.fx.E3},cnt:=cx.cnt.add {s:=1}})
 |.JO ps sh k,cx=>B7 (AE.BT cx.cnt) ps&&(B7 (AE.CH cx.fx) ps&&k.ok S run f alts {cx with fx:={cx.fx with defs:=(cx.cnt.l,ps)::cx.fx.defs,elems:=Ah1 cx.fx cx.cnt.l sh ps++cx.fx.elems,Bc:=(cx.cnt.l,.var cx.cnt.n)::cx.fx.Bc},cnt:=cx.cnt.add {n:=1,l:=1}})
 |.look m key sh t e,cx=>key.isStr&&(t.ok S run f alts {cx with fx:={cx.fx with looks:=(m,key,some (Nt sh cx.cnt))::cx.fx.looks,Bc:=MC sh cx.cnt++cx.fx.Bc},cnt:=cx.cnt.add (HF sh)}&&e.ok S run f alts {cx with fx:={cx.fx with looks:=(m,key,none)::cx.fx.looks}})
 |.up m key cs _ k,cx=>key.isStr&&(B7 (Aa.BT cx.cnt) cs&&(B7 (CH cx.fx) cs&&k.ok S run f alts {cx with fx:={cx.fx with Lx:=(m,key,cs,cx.cnt.m)::cx.fx.Lx},cnt:=cx.cnt.add {m:=1}}))
 |.Ku es _ k,cx=>B7 (fun x:Aa×List Aa=>x.1.isStr&&(B7 (Aa.BT cx.cnt) x.2&&B7 (CH cx.fx) x.2)) es&&k.ok S run f alts {cx with fx:={cx.fx with C6:=(cx.cnt.m,es)::cx.fx.C6},cnt:=cx.cnt.add {m:=1}}
 |.bump t n k,cx=>k.ok S run f alts {cx with fx:={cx.fx with C8:=(t,n,.var cx.cnt.n)::cx.fx.C8},cnt:=cx.cnt.add {n:=1}}
 |.Od z k,cx=>k.ok S run f alts {cx with fx:={cx.fx with Od:=cx.fx.Od++[z]}}
 |.call c alt τ o k e,cx=>CN (AA (cx.call S f c alt τ o) fun q=>some (k.ok S run f alts q))&&e.ok S run f alts cx
def NC (P:Program) (T:Nat->Option Obj) (f:Nat) (run:L4):Prop:=
 ∀Γ ks w j (ρ:Env),ρ.AO=T->Γ.AG ρ->(∀x∈ks,Go.AM.Holds P ρ x.1 x.2)->(∀k∈Γ.loops,Cj P ρ f k)->run Γ ks w j=true->w.Holds P ρ f
def Good (P:Program) (T:Nat->Option Obj) (S:List (Nat×Spec)) (M:VG):Prop:=
 ∀c sp,EU c S=some sp->∀v a w,M c v=some (a,w)->v.cnt=sp.ins->∃A,sp.alts[a]?=some A/\w.cnt=A.outs/\A.w.Holds P ((v.app w).env T) sp.f
theorem QD {α:Type}:∀(l:List α) (i:Nat),XP l i=l[i]?
 |[],_=>by simp [XP]
 |a::r,0=>rfl
 |a::r,i+1=>by rw [XP,QD r i];simp
section
variable {T:Nat->Option Obj} {vf:Aj}
theorem Eh (a:Aa):DT (vf.env T) a=DT vf.e a:=by cases a<;>rfl
theorem ZT (a:Aa):Bm (vf.env T) a=Bm vf.e a:=by unfold Bm;rw [Eh]
theorem Gb {ρ:Env} {a:Aa} (h:a.isStr=true):DT ρ a=some (Bm ρ a):=by
 cases a<;>simp only [Aa.isStr,Bool.false_eq_true]at h<;>rfl
theorem At.val {c:C3} {w:Aj} (h:At vf c w) (i:Nat) (j:i<w.n.length):vf.n.getD (c.n+i) 0=w.n.getD i 0:=by
 obtain ⟨v,r,rfl,rfl⟩:=h
 simp only [Aj.app,Aj.cnt,List.getD_eq_getElem?_getD,List.append_assoc]
 rw [List.getElem?_append_right (by omega),List.getElem?_append_left (by omega)]
 congr 2;omega
theorem At.str {c:C3} {w:Aj} (h:At vf c w) (i:Nat) (j:i<w.s.length):vf.s.getD (c.s+i) []=w.s.getD i []:=by
 obtain ⟨v,r,rfl,rfl⟩:=h
 simp only [Aj.app,Aj.cnt,List.getD_eq_getElem?_getD,List.append_assoc]
 rw [List.getElem?_append_right (by omega),List.getElem?_append_left (by omega)]
 congr 2;omega
theorem At.lst {c:C3} {w:Aj} (h:At vf c w) (i:Nat) (j:i<w.l.length):vf.l.getD (c.l+i) []=w.l.getD i []:=by
 obtain ⟨v,r,rfl,rfl⟩:=h
 simp only [Aj.app,Aj.cnt,List.getD_eq_getElem?_getD,List.append_assoc]
 rw [List.getElem?_append_right (by omega),List.getElem?_append_left (by omega)]
 congr 2;omega
theorem At.map {c:C3} {w:Aj} (h:At vf c w) (i:Nat) (j:i<w.m.length):vf.m.getD (c.m+i) []=w.m.getD i []:=by
 obtain ⟨v,r,rfl,rfl⟩:=h
 simp only [Aj.app,Aj.cnt,List.getD_eq_getElem?_getD,List.append_assoc]
 rw [List.getElem?_append_right (by omega),List.getElem?_append_left (by omega)]
 congr 2;omega
theorem At.left {c:C3} {a b:Aj} (h:At vf c (a.app b)):At vf c a:=by
 obtain ⟨v,r,hc,rfl⟩:=h
 exact ⟨v,b.app r,hc,by simp only [Aj.Bi]⟩
theorem At.right {c:C3} {a b:Aj} (h:At vf c (a.app b)):At vf (c.add a.cnt) b:=by
 obtain ⟨v,r,rfl,rfl⟩:=h
 exact ⟨v.app a,r,by rw [Aj.Ch],by simp only [Aj.Bi]⟩
theorem AhH (b:Bool):Es .neq (b01 b) 0=b:=by cases b<;>rfl
theorem CK.AaY {k:CK} {p:PV} {w:Aj} {c:C3} (h:k.read p=some w) (j:At vf c w):KR (vf.env T) (k.val c) p/\(∀v,k=.list v->vf.n.getD c.n 0=((vf.l.getD c.l []).length:Int)):=by
 cases k<;>cases p<;>simp only [CK.read,reduceCtorEq,oI]at h
 case int.int k k' n=>
  obtain ⟨x,h⟩:=Aq h
  simp only [oI]at h
  subst h
  rw [Di.1 x]
  have q:vf.n.getD c.n 0=n:=j.val 0 (by simp)
  refine ⟨?_,fun _ e=>by cases e⟩
  show PV.int k' n=.int k' (vf.n.getD c.n 0)
  rw [q]
 case bool.bool b=>
  subst h
  have q:vf.n.getD c.n 0=b01 b:=j.val 0 (by simp)
  refine ⟨?_,fun _ e=>by cases e⟩
  show PV.bool b=.bool (Es .neq (vf.n.getD c.n 0) 0)
  rw [q,AhH]
 case str.str s=>
  subst h
  have q:vf.s.getD c.s []=s:=j.str 0 (by simp)
  refine ⟨?_,fun _ e=>by cases e⟩
  show PV.str s=.str (vf.s.getD c.s [])
  rw [q]
 case list.list v es' l=>
  obtain ⟨x,h⟩:=Aq h
  simp only [oI]at h
  subst h
  have e:=Ao.1 x
  subst e
  have q:vf.n.getD c.n 0=(l.length:Int):=j.val 0 (by simp)
  have hl:vf.l.getD c.l []=l:=j.lst 0 (by simp)
  refine ⟨⟨rfl,?_,?_⟩,fun _ _=>?_⟩
  ·show PV.list v l=.list v (vf.l.getD c.l [])
   rw [hl]
  ·show vf.n.getD c.n 0=((vf.l.getD c.l []).length:Int)
   rw [hl,q]
  ·rw [hl,q]
 case nilp.nilp=>exact ⟨rfl,fun _ e=>by cases e⟩
theorem Km:∀{q:List CK} {ps:List PV} {w:Aj} {c:C3},CL q ps=some w->At vf c w->DS (vf.env T) (Nt q c) ps/\∀x∈MC q c,x.2.den vf.e=((vf.l.getD x.1 []).length:Int)
 |[],[],w,c,h,hat=>⟨rfl,fun x j=>by cases j⟩
 |k::q,p::ps,w,c,h,hat=>by
  simp only [CL]at h
  split at h
  ·rename_i a ha
   split at h
   ·rename_i b hb
    simp only [oI]at h
    subst h
    obtain ⟨B,A⟩:=CK.AaY (T:=T) ha hat.left
    have z:=hat.right
    rw [CK.S5 ha]at z
    obtain ⟨H,v⟩:=Km hb z
    refine ⟨⟨p,ps,rfl,B,H⟩,fun x j=>?_⟩
    simp only [MC]at j
    split at j
    ·rename_i C
     rcases List.mem_cons.1 j with rfl|j
     ·exact A C rfl
     ·exact v x j
    ·exact v x j
   ·cases h
  ·cases h
 |[],_::_,w,c,h,_=>by simp [CL]at h
 |_::_,[],w,c,h,_=>by simp [CL]at h
theorem Pv {fx:Ap} (q:fx.AG (vf.env T)) {k:CK} {a:Aa} {p:PV} {c:C3} (hb:a.BT c=true) (hl:CH fx a=true) (h:Fz vf.e k a=some p):TA (vf.env T) a p:=by
 cases k<;>cases a<;>simp only [Aa.BT,Bool.false_eq_true]at hb<;>simp only [Fz,reduceCtorEq,oI]at h
 case int.int=>
  obtain ⟨j,h⟩:=Aq h
  simp only [oI]at h
  rw [Di.1 j]at h
  exact h.symm
 case bool.bool=>exact h.symm
 case str.str=>exact h.symm
 case str.svar=>exact h.symm
 case list.nilSlice es=>exact ⟨es,h.symm⟩
 case list.lst es f i es' n=>
  obtain ⟨j,h⟩:=Aq h
  simp only [oI]at h
  rw [Ao.1 j]at h
  simp only [aT,Bool.not_eq_true']at hb
  simp only [CH]at hl
  split at hl
  ·rename_i u v
   refine ⟨hb.1,h.symm,?_⟩
   rw [<-ST.AX hl]
   exact q.Bc _ (Cy v)
  ·cases hl
 case nilp.nilPtr=>exact h.symm
theorem Gx {fx:Ap} (j:fx.AG (vf.env T)) {c:C3}:∀{v:List CK} {as:List Aa} {ps:List PV},B7 (Aa.BT c) as=true->B7 (CH fx) as=true->BP vf.e v as=some ps->C9 (vf.env T) as ps
 |[],[],ps,_,_,h=>by simp only [BP,oI]at h;subst h;rfl
 |k::v,a::as,ps,hb,hl,h=>by
  simp only [B7,aT]at hb hl
  simp only [BP]at h
  split at h
  ·rename_i p x
   split at h
   ·rename_i q z
    simp only [oI]at h
    subst h
    exact ⟨p,q,rfl,Pv j hb.1 hl.1 x,Gx j hb.2 hl.2 z⟩
   ·cases h
  ·cases h
 |[],_::_,_,_,_,h=>by simp [BP]at h
 |_::_,[],_,_,_,h=>by simp [BP]at h
theorem OM {ρ:Env} {e:Nat}:∀{l:List (Nat×ST)},(∀x∈l,x.2.den ρ=((ρ.lst x.1).length:Int))->M1 l=some e->ρ.lst e=[]
 |[],_,h=>by cases h
 |x::r,hl,h=>by
  have ih:∀{j:Nat},M1 r=some j->ρ.lst j=[]:=fun {j} v=>OM (fun y z=>hl y (List.mem_cons_of_mem _ z)) v
  simp only [M1]at h
  split at h
  ·rename_i A
   have q:ρ.lst x.1=[]:=List.eq_nil_of_length_eq_zero (by have:=hl x List.mem_cons_self;rw [A]at this;have this:(0:Int)=_:=this;omega)
   simp only [oI]at h
   subst h
   split
   ·rename_i j v
    cases Nat.ble x.1 j
    ·exact ih v
    ·exact q
   ·exact q
  ·exact ih h
theorem Yp {fx:Ap} (q:fx.AG (vf.env T)) {k:CK} {a x:Aa} {p:PV} {c:C3} (hb:a.BT c=true) (hl:CH fx a=true) (h:Fz vf.e k a=some p) (j:Acp (M1 fx.Bc) k a=some x):KR (vf.env T) x p:=by
 have hd:=Pv (T:=T) q hb hl h
 unfold Acp at j
 split at j
 ·rename_i B e A
  simp only [oI]at j
  subst j
  simp only [Fz,oI]at h
  have z:=OM (ρ:=vf.env T) q.Bc A
  exact ⟨rfl,by rw [z];exact h.symm,by rw [z];rfl⟩
 ·cases j
 ·rename_i v _
  simp only [oI]at j
  subst j
  revert hd
  unfold TA
  split
  ·exact (v rfl).elim
  ·exact id
theorem Sw {fx:Ap} (j:fx.AG (vf.env T)) {c:C3}:∀{v:List CK} {as xs:List Aa} {ps:List PV},B7 (Aa.BT c) as=true->B7 (CH fx) as=true->BP vf.e v as=some ps->AaO (M1 fx.Bc) v as=some xs->DS (vf.env T) xs ps
 |[],[],xs,ps,_,_,h,hx=>by
  simp only [BP,oI]at h;subst h
  simp only [AaO,oI]at hx;subst hx
  rfl
 |k::v,a::as,xs,ps,hb,hl,h,hx=>by
  simp only [B7,aT]at hb hl
  simp only [BP]at h
  simp only [AaO]at hx
  split at h
  ·rename_i p B
   split at h
   ·rename_i q C
    simp only [oI]at h
    subst h
    split at hx
    ·rename_i x A
     split at hx
     ·rename_i H z
      simp only [oI]at hx
      subst hx
      exact ⟨p,q,rfl,Yp j hb.1 hl.1 B A,Sw j hb.2 hl.2 C z⟩
     ·cases hx
    ·cases hx
   ·cases h
  ·cases h
 |[],_::_,_,_,_,_,h,_=>by simp [BP]at h
 |_::_,[],_,_,_,_,h,_=>by simp [BP]at h
theorem OE {fx:Ap} (v:fx.AG (vf.env T)) {c:C3} {j:List CK} {l:Nat}:∀{as:List (List Aa)} {ps:List (List PV)} {k:Nat},B7 (B7 (Aa.BT c)) as=true->B7 (B7 (CH fx)) as=true->Fl vf.e j as=some ps->
  ∀x∈KX (M1 fx.Bc) l j k as,x.1=l/\∃i,x.2.1=.lit (.ofNat (k+i))/\∃p,ps[i]?=some p/\DS (vf.env T) x.2.2 p
 |[],_,_,_,_,_,x,hx=>by simp [KX]at hx
 |a::as,ps,k,hb,hl,h,x,hx=>by
  simp only [B7,aT]at hb hl
  simp only [Fl]at h
  split at h
  ·rename_i p A
   split at h
   ·rename_i q I
    simp only [oI]at h
    subst h
    have ih:x∈KX (M1 fx.Bc) l j (k+1) as->_:=OE v (l:=l) (k:=k+1) hb.2 hl.2 I x
    have key:x∈KX (M1 fx.Bc) l j (k+1) as->x.1=l/\∃i,x.2.1=.lit (.ofNat (k+i))/\∃r,(p::q)[i]?=some r/\DS (vf.env T) x.2.2 r:=fun H=>by
     obtain ⟨L,i,B,r,C,J⟩:=ih H
     exact ⟨L,i+1,by rw [B];congr 2;omega,r,by simpa using C,J⟩
    simp only [KX]at hx
    split at hx
    ·rename_i cs z
     rcases List.mem_cons.1 hx with rfl|hx
     ·exact ⟨rfl,0,rfl,p,rfl,Sw v hb.1 hl.1 A z⟩
     ·exact key hx
    ·exact key hx
   ·cases h
  ·cases h
theorem Acg {fx:Ap} (v:fx.AG (vf.env T)) {c:C3} {A:List CK} {ps:List AE} {l:List (List PV)} {j:Nat} (hb:B7 (AE.BT c) ps=true) (z:B7 (AE.CH fx) ps=true) (h:Cn vf.e A ps=some l) (H:vf.l.getD j []=l)
  (x:Nat×ST×List Aa) (q:x∈Ah1 fx j A ps):∃p,0<=x.2.1.den (vf.env T)/\((vf.env T).lst x.1)[(x.2.1.den (vf.env T)).toNat]?=some p/\DS (vf.env T) x.2.2 p:=by
 unfold Ah1 at q
 split at q
 ·rename_i L
  simp only [Cn,CW]at h
  split at h
  ·rename_i a ha
   simp only [oI,List.append_nil]at h
   subst h
   simp only [B7,Bool.and_true,AE.BT,AE.CH]at hb z
   obtain ⟨I,i,B,p,J,C⟩:=OE (T:=T) v hb z ha x q
   refine ⟨p,?_,?_,C⟩
   ·rw [B];exact Int.natCast_nonneg _
   ·rw [I,B]
    show (vf.l.getD j [])[((0+i:Nat):Int).toNat]?=some p
    rw [H,Int.toNat_natCast,Nat.zero_add];exact J
  ·cases h
 ·cases q
theorem OB {fx:Ap} (j:fx.AG (vf.env T)) {c:C3} {z:List CK}:∀{as:List (List Aa)} {ps:List (List PV)},B7 (B7 (Aa.BT c)) as=true->B7 (B7 (CH fx)) as=true->Fl vf.e z as=some ps->DQ (vf.env T) as ps
 |[],ps,_,_,h=>by simp only [Fl,oI]at h;subst h;rfl
 |a::as,ps,hb,hl,h=>by
  simp only [B7,aT]at hb hl
  simp only [Fl]at h
  split at h
  ·rename_i p v
   split at h
   ·rename_i q x
    simp only [oI]at h
    subst h
    exact ⟨p,q,rfl,Gx j hb.1 hl.1 v,OB j hb.2 hl.2 x⟩
   ·cases h
  ·cases h
theorem XA {fx:Ap} (j:fx.AG (vf.env T)) {c:C3} {q:List CK} {p:AE} {l:List (List PV)} (hb:p.BT c=true) (hl:p.CH fx=true) (h:CW vf.e q p=some l):F3 (vf.env T) p l:=by
 cases p<;>simp only [AE.BT]at hb<;>simp only [AE.CH]at hl<;>simp only [CW,oI]at h
 case els es=>exact OB j hb hl h
 case all i=>exact h.symm
 case take i n=>
  split at h
  ·rename_i hc
   simp only [oI]at h
   exact ⟨hc.1,hc.2,h.symm⟩
  ·cases h
 case drop i n=>
  split at h
  ·rename_i hc
   simp only [oI]at h
   exact ⟨hc.1,hc.2,h.symm⟩
  ·cases h
theorem Mv {fx:Ap} (j:fx.AG (vf.env T)) {c:C3} {v:List CK}:∀{ps:List AE} {l:List (List PV)},B7 (AE.BT c) ps=true->B7 (AE.CH fx) ps=true->Cn vf.e v ps=some l->Bu (vf.env T) ps l
 |[],l,_,_,h=>by simp only [Cn,oI]at h;subst h;rfl
 |p::ps,l,hb,hl,h=>by
  simp only [B7,aT]at hb hl
  simp only [Cn]at h
  split at h
  ·rename_i a ha
   split at h
   ·rename_i b q
    simp only [oI]at h
    subst h
    exact ⟨a,b,rfl,XA j hb.1 hl.1 ha,Mv j hb.2 hl.2 q⟩
   ·cases h
  ·cases h
theorem JK {fx:Ap} (v:fx.AG (vf.env T)) {c:C3} {B:List CK}:∀{j:List (Aa×List Aa)} {l:List (List Nat×List PV)},B7 (fun x:Aa×List Aa=>x.1.isStr&&(B7 (Aa.BT c) x.2&&B7 (CH fx) x.2)) j=true->C7 vf.e B j=some l->AcF (vf.env T) j l
 |[],l,_,h=>by simp only [C7,oI]at h;subst h;rfl
 |x::j,l,hb,h=>by
  simp only [B7,aT]at hb
  simp only [C7]at h
  split at h
  ·rename_i p z
   split at h
   ·rename_i q A
    simp only [oI]at h
    subst h
    refine ⟨Bm vf.e x.1,p,q,rfl,?_,Gx v hb.1.2.1 hb.1.2.2 z,JK v hb.2 A⟩
    rw [Eh];exact Gb hb.1.1
   ·cases h
  ·cases h
theorem IY (op:BinOp) (x y:Int):Es op x y=decide (LN op x y):=by
 cases op
 case neq=>by_cases h:x=y<;>simp [Es,LN,bne,h]
 all_goals rfl
theorem Ic {α β:Type} (f:α->β):∀l:List α,Ht f l=l.map f
 |[]=>rfl
 |a::r=>by simp [Ht,Ic f r]
theorem ST.Cc {i:Nat} {n:Int} (h:vf.n.getD i 0=n):∀t:ST,(t.B6 i n).den vf.e=t.den vf.e
 |.lit _=>rfl
 |.var j=>by
  simp only [ST.B6]
  rw [AH]
  split
  ·rename_i e;subst e;exact h.symm
  ·rfl
 |.bin o k a b=>by simp only [ST.B6,ST.den,ST.Cc h a,ST.Cc h b]
 |.conv k a=>by simp only [ST.B6,ST.den,ST.Cc h a]
theorem SB.Cc {i:Nat} {n:Int} (h:vf.n.getD i 0=n):∀t:SB,(t.B6 i n).den vf.e=t.den vf.e
 |.lit _=>rfl
 |.cmp o a b=>by
  simp only [SB.B6]
  rw [Tu]
  simp only [SB.den,ST.Cc h]
 |.no a=>by
  have ih:=SB.Cc h a
  simp only [SB.B6]
  split
  ·rename_i b hb
   rw [hb]at ih
   simp only [SB.den]at ih⊢
   rw [ih]
  ·simp only [SB.den,ih]
theorem Aa.Cc {i:Nat} {n:Int} (h:vf.n.getD i 0=n) {a:Aa} {p:PV} (ha:KR (vf.env T) a p):KR (vf.env T) (a.B6 i n) p:=by
 cases a<;>simp only [Aa.B6]<;>first|exact ha|skip
 case bool b=>
  have ha:p=.bool (b.den vf.e):=ha
  show p=.bool ((b.B6 i n).den vf.e)
  rw [SB.Cc h,ha]
 case int k t=>
  have ha:p=.int k (t.den vf.e):=ha
  show p=.int k ((t.B6 i n).den vf.e)
  rw [ST.Cc h,ha]
 case lst f j es t=>
  obtain ⟨v,q,x⟩:=ha
  refine ⟨v,q,?_⟩
  show (t.B6 i n).den vf.e=_
  rw [ST.Cc h];exact x
theorem Aa.AaF {i:Nat} {s:List Nat} (h:vf.s.getD i []=s) {a:Aa} {p:PV} (ha:KR (vf.env T) a p):KR (vf.env T) (a.sets i s) p:=by
 cases a<;>simp only [Aa.sets]<;>first|exact ha|skip
 rw [AH]
 split
 ·rename_i e
  subst e
  have ha:p=.str (vf.s.getD i []):=ha
  show p=.str s
  rw [ha,h]
 ·exact ha
theorem DS.Ht {f:Aa->Aa} (hf:∀{a p},KR (vf.env T) a p->KR (vf.env T) (f a) p):∀{as:List Aa} {ps:List PV},DS (vf.env T) as ps->DS (vf.env T) (Ht f as) ps
 |[],ps,h=>h
 |a::as,ps,h=>by
  obtain ⟨p,rest,rfl,q,j⟩:=h
  exact ⟨p,rest,rfl,hf q,DS.Ht hf j⟩
theorem Cx.Xz {cx:Cx} {i:Nat} {n:Int} (h:vf.n.getD i 0=n) (j:cx.fx.AG (vf.env T)):(cx.B6 i n).fx.AG (vf.env T):=by
 refine ⟨j.DJ,j.tests,j.strs,j.E3,j.BQ,fun x q=>?_,fun x q=>?_,j.defs,j.looks,j.Lx,j.C8,j.C6⟩
 ·rw [show (cx.B6 i n).fx.Bc=_ from Ic _ _]at q
  obtain ⟨y,v,rfl⟩:=List.mem_map.1 q
  show (y.2.B6 i n).den vf.e=_
  rw [ST.Cc h]
  exact j.Bc y v
 ·rw [show (cx.B6 i n).fx.elems=_ from Ic _ _]at q
  obtain ⟨y,v,rfl⟩:=List.mem_map.1 q
  obtain ⟨ps,A,z,B⟩:=j.elems y v
  refine ⟨ps,?_,?_,DS.Ht (Aa.Cc h) B⟩
  ·show 0<=(y.2.1.B6 i n).den vf.e
   rw [ST.Cc h];exact A
  ·show _[((y.2.1.B6 i n).den vf.e).toNat]?=_
   rw [ST.Cc h];exact z
theorem Cx.Xx {cx:Cx} {i:Nat} {s:List Nat} (h:vf.s.getD i []=s) (j:cx.fx.AG (vf.env T)):(cx.sets i s).fx.AG (vf.env T):=by
 refine ⟨j.DJ,j.tests,j.strs,j.E3,j.BQ,j.Bc,fun x q=>?_,j.defs,j.looks,j.Lx,j.C8,j.C6⟩
 rw [show (cx.sets i s).fx.elems=_ from Ic _ _]at q
 obtain ⟨y,v,rfl⟩:=List.mem_map.1 q
 obtain ⟨ps,A,z,B⟩:=j.elems y v
 exact ⟨ps,A,z,DS.Ht (Aa.AaF h) B⟩
theorem CE.Xy {τ:CE} {i:Nat} {n:Int} (h:vf.n.getD i 0=n):CE.vals {τ with n:=Ht (ST.B6 i n) τ.n} vf.e=τ.vals vf.e:=by
 apply Aj.ext'<;>simp only [CE.vals]
 rw [Ic,List.map_map]
 exact CX fun t _=>ST.Cc h t
theorem CE.Xw {τ:CE} {i:Nat} {s:List Nat} (h:vf.s.getD i []=s):CE.vals {τ with s:=Ht (Aa.sets i s) τ.s} vf.e=τ.vals vf.e:=by
 apply Aj.ext'<;>simp only [CE.vals]
 rw [Ic,List.map_map]
 refine CX fun a _=>?_
 show Bm vf.e (a.sets i s)=Bm vf.e a
 cases a<;>simp only [Aa.sets]
 rename_i j
 rw [AH]
 split
 ·rename_i e;subst e;exact h.symm
 ·rfl
theorem Cx.Kc {cx:Cx} {op:BinOp} {a b:ST} {v:Bool} (h:Es op (a.den vf.e) (b.den vf.e)=v) (j:cx.fx.AG (vf.env T)):(cx.test op a b v).fx.AG (vf.env T):=by
 refine ⟨fun x q=>?_,Bl h j.tests,j.strs,j.E3,j.BQ,j.Bc,j.elems,j.defs,j.looks,j.Lx,j.C8,j.C6⟩
 have q:x∈U5 op a b v cx.fx.DJ:=q
 unfold U5 at q
 cases b with
 |lit n=>
  simp only at q
  cases e:(v&&NR op .eql||!v&&NR op .neq)with
  |false=>rw [e]at q;exact j.DJ x q
  |true=>
   rw [e]at q
   rcases List.mem_cons.1 q with rfl|q
   ·show a.den vf.e=n
    simp only [Bool.or_eq_true,aT,Bool.not_eq_true']at e
    rcases e with ⟨rfl,e⟩|⟨rfl,e⟩
    ·rw [Hq.1 e]at h;simpa [Es,ST.den]using h
    ·rw [Hq.1 e]at h;simpa [Es,ST.den]using h
   ·exact j.DJ x q
 |_=>exact j.DJ x q
theorem FQ {α β γ:Type} (f:Nat->α) (g:α->β) (l:List β) (d:β):∀(w:List β) (i:Nat),(∀j,j<w.length->g (f (i+j))=w.getD j d)->(MO f w.length i).map g=w
 |[],i,_=>rfl
 |x::w,i,h=>by
  simp only [lC,MO,List.map_cons]
  rw [show g (f i)=x by simpa using h 0 (by simp),FQ (γ:=γ) f g l d w (i+1) fun j q=>by
   have:=h (j+1) (by simp;omega)
   rw [show i+(j+1)=i+1+j by omega]at this
   simpa using this]
theorem LG {c:C3} {w:Aj} (h:At vf c w):(Jg c w.cnt).vals vf.e=w:=by
 apply Aj.ext'<;>simp only [CE.vals,Jg,Aj.cnt]
 ·exact FQ (γ:=Unit) _ _ w.n 0 w.n c.n fun j q=>h.val j q
 ·exact FQ (γ:=Unit) _ _ w.s [] w.s c.s fun j q=>h.str j q
 ·exact FQ (γ:=Unit) _ _ w.l [] w.l c.l fun j q=>h.lst j q
 ·exact FQ (γ:=Unit) _ _ w.m [] w.m c.m fun j q=>h.map j q
theorem CE.T2 (a b:CE) (ρ:Env):(a.app b).vals ρ=(a.vals ρ).app (b.vals ρ):=by
 apply Aj.ext'<;>simp [CE.app,CE.vals,Aj.app]
theorem CE.RV (τ:CE) (ρ:Env):(τ.vals ρ).cnt=τ.cnt:=by simp [CE.vals,Aj.cnt,CE.cnt]
theorem VM (τ:CE):(vf.env T).sub τ=(τ.vals vf.e).env T:=by
 show Env.of T _ _ _ _=Env.of T _ _ _ _
 simp only [CE.vals]
 rw [CX (l:=τ.s) (f:=Bm (vf.env T)) fun a _=>ZT a]
 rfl
end
section
variable {P:Program} {T:Nat->Option Obj} {S:List (Nat×Spec)} {run:L4} {f:Nat} {alts:List Alt} {M:VG} {vf:Aj}
structure Cx.AG (P:Program) (T:Nat->Option Obj) (f:Nat) (vf ins:Aj) (cx:Cx):Prop where
 fx:cx.fx.AG (vf.env T)
 ks:∀x∈cx.ks,Go.AM.Holds P (vf.env T) x.1 x.2
 ls:∀k∈cx.fx.loops,Cj P (vf.env T) f k
 ins:cx.ins.vals vf.e=ins
theorem Cx.Yq {ins:Aj} (V:Good P T S M) {cx v:Cx} (H:cx.AG P T f vf ins) {c B:Nat} {τ:CE} {o:C3} (hc:cx.call S f c B τ o=some v) {w:Aj} (Q:M c (τ.vals vf.e)=some (B,w)) (z:At vf cx.cnt (w.fit o)):v.AG P T f vf ins/\v.cnt=cx.cnt.add o:=by
 unfold Cx.call at hc
 obtain ⟨sp,N,Z⟩:=Ac hc
 obtain ⟨A,I,q2⟩:=Ac Z
 obtain ⟨C,q3⟩:=Aq q2
 obtain ⟨y,R,q⟩:=Ac q3
 rw [aT]at C
 have X:=C3.eq_iff.1 C.1
 have J:=C3.eq_iff.1 C.2
 obtain ⟨A',L,j,U⟩:=V c sp N _ _ _ Q (by rw [CE.RV];exact X)
 rw [QD,L]at I
 simp only [oI]at I
 subst I
 rw [J,Aj.MQ j]at z
 have Y:(vf.env T).sub (τ.app (Jg cx.cnt o))=((τ.vals vf.e).app w).env T:=by
  rw [VM,CE.T2,J,<-j,LG z]
 have x:y.Holds P (vf.env T) sp.f:=JU.Ahg R (by rw [Y];exact U)
 unfold Cx.Ak9 at q
 split at q
 ·simp only [oI]at q
  subst q
  exact ⟨⟨H.fx,Bl x H.ks,H.ls,H.ins⟩,rfl⟩
 ·obtain ⟨hf,O⟩:=Aq q
  simp only [oI]at O
  subst O
  have hf:=Ao.1 hf
  subst hf
  exact ⟨⟨⟨H.fx.DJ,H.fx.tests,H.fx.strs,H.fx.E3,H.fx.BQ,H.fx.Bc,H.fx.elems,H.fx.defs,H.fx.looks,H.fx.Lx,H.fx.C8,H.fx.C6⟩,H.ks,Bl x H.ls,H.ins⟩,rfl⟩
theorem Br {ins:Aj} (v:NC P T f run) (I:Good P T S M):∀(t:Tree) {cx:Cx} {o:Out},t.ok S run f alts cx=true->t.sem M vf cx.cnt o->cx.AG P T f vf ins->∃A,alts[o.1]?=some A/\o.2.cnt=A.outs/\A.w.Holds P ((ins.app o.2).env T) f
 |.fail,cx,o,_,hs,_=>hs.elim
 |.leaf alt nw τ,cx,o,q,hs,H=>by
  simp only [Tree.ok]at q
  obtain ⟨A,Z,q⟩:=Ac (Fq.1 q)
  obtain ⟨he,q⟩:=Aq q
  obtain ⟨y,N,q⟩:=Ac q
  simp only [oI]at q
  simp only [Tree.sem]at hs
  subst hs
  rw [QD]at Z
  refine ⟨A,Z,by rw [CE.RV];exact C3.eq_iff.1 he,?_⟩
  have Q:=v cx.fx cx.ks y nw (vf.env T) rfl H.fx H.ks H.ls q
  have R:=JU.AeS N Q
  rw [VM,CE.T2,H.ins]at R
  exact R
 |.test op a b t e,cx,o,q,hs,H=>by
  simp only [Tree.ok,aT]at q
  rcases hs with ⟨hc,hs⟩|⟨hc,hs⟩
  ·exact Br v I t (cx:=cx.test op a b true) q.1 hs ⟨Cx.Kc (by rw [IY];exact decide_eq_true hc) H.fx,H.ks,H.ls,H.ins⟩
  ·exact Br v I e (cx:=cx.test op a b false) q.2 hs ⟨Cx.Kc (by rw [IY];exact decide_eq_false hc) H.fx,H.ks,H.ls,H.ins⟩
 |.B6 i n t e,cx,o,q,hs,H=>by
  simp only [Tree.ok,aT]at q
  rcases hs with ⟨hc,hs⟩|⟨hc,hs⟩
  ·exact Br v I t (cx:=cx.B6 i n) q.1 hs ⟨Cx.Xz hc H.fx,H.ks,H.ls,by rw [<-H.ins];exact CE.Xy hc⟩
  ·refine Br v I e (cx:=cx.test .eql (.var i) (.lit n) false) q.2 hs ⟨Cx.Kc ?_ H.fx,H.ks,H.ls,H.ins⟩
   rw [IY];exact decide_eq_false hc
 |.sets i s t e,cx,o,q,hs,H=>by
  simp only [Tree.ok,aT]at q
  rcases hs with ⟨hc,hs⟩|⟨hc,hs⟩
  ·exact Br v I t (cx:=cx.sets i s) q.1 hs ⟨Cx.Xx hc H.fx,H.ks,H.ls,by rw [<-H.ins];exact CE.Xw hc⟩
  ·refine Br v I e (cx:={cx with fx:={cx.fx with strs:=(.svar i,.str s,false)::cx.fx.strs}}) q.2 hs ⟨⟨H.fx.DJ,H.fx.tests,Bl ⟨vf.s.getD i [],s,rfl,rfl,(decide_eq_false hc).symm⟩ H.fx.strs,H.fx.E3,H.fx.BQ,H.fx.Bc,H.fx.elems,H.fx.defs,H.fx.looks,H.fx.Lx,H.fx.C8,H.fx.C6⟩,H.ks,H.ls,H.ins⟩
 |.elem l j sh k,cx,o,q,hs,H=>by
  simp only [Tree.ok]at q
  obtain ⟨hj,ps,w,L,O,B,hs⟩:=hs
  obtain ⟨X,d2⟩:=Km (T:=T) O B
  refine Br v I k q hs ⟨⟨H.fx.DJ,H.fx.tests,H.fx.strs,H.fx.E3,H.fx.BQ,fun x C=>?_,Bl ⟨ps,hj,L,X⟩ H.fx.elems,H.fx.defs,H.fx.looks,H.fx.Lx,H.fx.C8,H.fx.C6⟩,H.ks,H.ls,H.ins⟩
  rcases List.mem_append.1 C with C|C
  ·exact d2 x C
  ·exact H.fx.Bc x C
 |.Bc l t k,cx,o,q,hs,H=>by
  simp only [Tree.ok]at q
  exact Br v I k q hs.2 ⟨⟨H.fx.DJ,H.fx.tests,H.fx.strs,H.fx.E3,H.fx.BQ,Bl hs.1 H.fx.Bc,H.fx.elems,H.fx.defs,H.fx.looks,H.fx.Lx,H.fx.C8,H.fx.C6⟩,H.ks,H.ls,H.ins⟩
 |.BQ s lo hi k,cx,o,q,hs,H=>by
  simp only [Tree.ok]at q
  obtain ⟨Q,R,B,hs⟩:=hs
  exact Br v I k q hs ⟨⟨H.fx.DJ,H.fx.tests,H.fx.strs,H.fx.E3,Bl ⟨B.val 0 (by simp),Q,R⟩ H.fx.BQ,H.fx.Bc,H.fx.elems,H.fx.defs,H.fx.looks,H.fx.Lx,H.fx.C8,H.fx.C6⟩,H.ks,H.ls,H.ins⟩
 |.FH x y t e,cx,o,q,hs,H=>by
  simp only [Tree.ok,aT]at q
  have C:DT (vf.env T) x=some (Bm vf.e x):=by rw [Eh];exact Gb q.1
  have N:DT (vf.env T) y=some (Bm vf.e y):=by rw [Eh];exact Gb q.2.1
  rcases hs with ⟨hc,hs⟩|⟨hc,hs⟩
  ·exact Br v I t (cx:={cx with fx:={cx.fx with strs:=(x,y,true)::cx.fx.strs}}) q.2.2.1 hs ⟨⟨H.fx.DJ,H.fx.tests,Bl ⟨_,_,C,N,(decide_eq_true hc).symm⟩ H.fx.strs,H.fx.E3,H.fx.BQ,H.fx.Bc,H.fx.elems,H.fx.defs,H.fx.looks,H.fx.Lx,H.fx.C8,H.fx.C6⟩,H.ks,H.ls,H.ins⟩
  ·exact Br v I e (cx:={cx with fx:={cx.fx with strs:=(x,y,false)::cx.fx.strs}}) q.2.2.2 hs ⟨⟨H.fx.DJ,H.fx.tests,Bl ⟨_,_,C,N,(decide_eq_false hc).symm⟩ H.fx.strs,H.fx.E3,H.fx.BQ,H.fx.Bc,H.fx.elems,H.fx.defs,H.fx.looks,H.fx.Lx,H.fx.C8,H.fx.C6⟩,H.ks,H.ls,H.ins⟩
 |.cat x y k,cx,o,q,hs,H=>by
  simp only [Tree.ok,aT]at q
  obtain ⟨hl,B,hs⟩:=hs
  have C:DT (vf.env T) x=some (Bm vf.e x):=by rw [Eh];exact Gb q.1
  have N:DT (vf.env T) y=some (Bm vf.e y):=by rw [Eh];exact Gb q.2.1
  exact Br v I k q.2.2 hs ⟨⟨H.fx.DJ,H.fx.tests,H.fx.strs,Bl ⟨_,_,C,N,congrArg some (B.str 0 (by simp)),hl⟩ H.fx.E3,H.fx.BQ,H.fx.Bc,H.fx.elems,H.fx.defs,H.fx.looks,H.fx.Lx,H.fx.C8,H.fx.C6⟩,H.ks,H.ls,H.ins⟩
 |.JO ps sh k,cx,o,q,hs,H=>by
  simp only [Tree.ok,aT]at q
  obtain ⟨l,hl,B,hs⟩:=hs
  have J:vf.l.getD cx.cnt.l []=l:=B.lst 0 (by simp)
  have e2:vf.n.getD cx.cnt.n 0=(l.length:Int):=B.val 0 (by simp)
  have d:=Mv H.fx q.1 q.2.1 hl
  refine Br v I k q.2.2 hs ⟨⟨H.fx.DJ,H.fx.tests,H.fx.strs,H.fx.E3,H.fx.BQ,Bl ?_ H.fx.Bc,fun x C=>?_,Bl ?_ H.fx.defs,H.fx.looks,H.fx.Lx,H.fx.C8,H.fx.C6⟩,H.ks,H.ls,H.ins⟩
  ·show vf.n.getD cx.cnt.n 0=((vf.l.getD cx.cnt.l []).length:Int)
   rw [J,e2]
  ·rcases List.mem_append.1 C with C|C
   ·exact Acg H.fx q.1 q.2.1 hl J x C
   ·exact H.fx.elems x C
  ·show Bu _ _ (vf.l.getD cx.cnt.l [])
   rw [J];exact d
 |.look m key sh t e,cx,o,q,hs,H=>by
  simp only [Tree.ok,aT]at q
  have C:DT (vf.env T) key=some (Bm vf.e key):=by rw [Eh];exact Gb q.1
  rcases hs with ⟨ps,w,L,O,B,hs⟩|⟨hn,hs⟩
  ·obtain ⟨X,d2⟩:=Km (T:=T) O B
   refine Br v I t (cx:={cx with fx:={cx.fx with looks:=(m,key,some (Nt sh cx.cnt))::cx.fx.looks,Bc:=MC sh cx.cnt++cx.fx.Bc},cnt:=cx.cnt.add (HF sh)}) q.2.1 hs ⟨⟨H.fx.DJ,H.fx.tests,H.fx.strs,H.fx.E3,H.fx.BQ,fun x C=>?_,H.fx.elems,H.fx.defs,Bl ⟨_,C,ps,L,X⟩ H.fx.looks,H.fx.Lx,H.fx.C8,H.fx.C6⟩,H.ks,H.ls,H.ins⟩
   rcases List.mem_append.1 C with C|C
   ·exact d2 x C
   ·exact H.fx.Bc x C
  ·exact Br v I e (cx:={cx with fx:={cx.fx with looks:=(m,key,none)::cx.fx.looks}}) q.2.2 hs ⟨⟨H.fx.DJ,H.fx.tests,H.fx.strs,H.fx.E3,H.fx.BQ,H.fx.Bc,H.fx.elems,H.fx.defs,Bl ⟨_,C,hn⟩ H.fx.looks,H.fx.Lx,H.fx.C8,H.fx.C6⟩,H.ks,H.ls,H.ins⟩
 |.up m key cs sh k,cx,o,q,hs,H=>by
  simp only [Tree.ok,aT]at q
  obtain ⟨ps,L,B,hs⟩:=hs
  have C:DT (vf.env T) key=some (Bm vf.e key):=by rw [Eh];exact Gb q.1
  have J:vf.m.getD cx.cnt.m []=Bv (vf.m.getD m []) (Bm vf.e key) ps:=B.map 0 (by simp)
  exact Br v I k q.2.2.2 hs ⟨⟨H.fx.DJ,H.fx.tests,H.fx.strs,H.fx.E3,H.fx.BQ,H.fx.Bc,H.fx.elems,H.fx.defs,H.fx.looks,Bl ⟨_,ps,C,Gx H.fx q.2.1 q.2.2.1 L,J⟩ H.fx.Lx,H.fx.C8,H.fx.C6⟩,H.ks,H.ls,H.ins⟩
 |.Ku es sh k,cx,o,q,hs,H=>by
  simp only [Tree.ok,aT]at q
  obtain ⟨l,hl,B,hs⟩:=hs
  have J:vf.m.getD cx.cnt.m []=l:=B.map 0 (by simp)
  have d:=JK H.fx q.1 hl
  refine Br v I k q.2 hs ⟨⟨H.fx.DJ,H.fx.tests,H.fx.strs,H.fx.E3,H.fx.BQ,H.fx.Bc,H.fx.elems,H.fx.defs,H.fx.looks,H.fx.Lx,H.fx.C8,Bl ?_ H.fx.C6⟩,H.ks,H.ls,H.ins⟩
  show AcF _ _ (vf.m.getD cx.cnt.m [])
  rw [J];exact d
 |.bump t n k,cx,o,q,hs,H=>by
  simp only [Tree.ok]at q
  obtain ⟨Q,B,hs⟩:=hs
  have J:vf.n.getD cx.cnt.n 0=t.den vf.e+n:=B.val 0 (by simp)
  refine Br v I k q hs ⟨⟨H.fx.DJ,H.fx.tests,H.fx.strs,H.fx.E3,H.fx.BQ,H.fx.Bc,H.fx.elems,H.fx.defs,H.fx.looks,H.fx.Lx,Bl ?_ H.fx.C8,H.fx.C6⟩,H.ks,H.ls,H.ins⟩
  show t.den vf.e+n<=vf.n.getD cx.cnt.n 0/\vf.n.getD cx.cnt.n 0<=1048576
  rw [J];exact ⟨Int.le_refl _,Q⟩
 |.Od z k,cx,o,q,hs,H=>by
  simp only [Tree.ok]at q
  exact Br v I k q hs ⟨⟨H.fx.DJ,H.fx.tests,H.fx.strs,H.fx.E3,H.fx.BQ,H.fx.Bc,H.fx.elems,H.fx.defs,H.fx.looks,H.fx.Lx,H.fx.C8,H.fx.C6⟩,H.ks,H.ls,H.ins⟩
 |.call c alt τ u k e,cx,o,q,hs,H=>by
  simp only [Tree.ok,aT]at q
  rcases hs with ⟨w,O,B,hs⟩|hs
  ·obtain ⟨ae,Y,U⟩:=Ac (Fq.1 q.1)
   simp only [oI]at U
   obtain ⟨H',V⟩:=Cx.Yq I H Y O B
   exact Br v I k U (by rw [V];exact hs) H'
  ·exact Br v I e q.2 hs H
noncomputable def Spec.ok (S:List (Nat×Spec)) (run:L4) (sp:Spec) (t:Tree):Bool:=
 t.BT sp.ins&&t.ok S run sp.f sp.alts ⟨sp.ins,{},[],Jg {} sp.ins⟩
theorem At.zero (v r:Aj):At (v.app r) {} v:=⟨{},r,rfl,by
 apply Aj.ext'<;>simp [Aj.app]⟩
theorem TO {sp:Spec} {t:Tree} (q:NC P T sp.f run) (H:Good P T S M) (j:sp.ok S run t=true) {v w:Aj} {a:Nat} (h:t.eval M v=some (a,w)) (z:v.cnt=sp.ins):∃A,sp.alts[a]?=some A/\w.cnt=A.outs/\A.w.Holds P ((v.app w).env T) sp.f:=by
 unfold Spec.ok at j
 rw [aT]at j
 obtain ⟨r,C⟩:=Bt t (by rw [z];exact j.1) h
 rw [z]at C
 refine Br (vf:=v.app r) (ins:=v) q H t j.2 C ⟨Ap.AG.none _,fun x B=>(by cases B),fun x B=>(by cases B),?_⟩
 have:=LG (At.zero v r)
 rw [z]at this
 exact this
def AcV (P:Program) (T:Nat->Option Obj) (S:List (Nat×Spec)) (trees:Nat->Tree):Prop:=
 ∀c sp,EU c S=some sp->∃q run,(∀v j,EU v q=some j->EU v S=some j)/\NC P T sp.f run/\sp.ok q run (trees c)=true
theorem SR {trees:Nat->Tree} (h:AcV P T S trees):∀N,Good P T S (mir trees N)
 |0=>fun c sp _ v a w q _=>by cases q
 |N+1=>fun c sp B v a w q H=>by
  have ih:=SR h N
  obtain ⟨J,run,I,x,A⟩:=h c sp B
  exact TO x (fun z j C=>ih z j (I z j C)) A q H
end
end
section
def Vw (P:Program) (pl:List Co) (i:Nat):Option Eu:=
 match P.funcs[i]? with
 |some fn=>bif fn.name== "runtime.NumGoroutine" then none else EC P pl fn
 |none=>none
theorem Tt {P:Program} {pl:List Co} {i:Nat} {F:Eu} (h:Vw P pl i=some F):∃fn,P.funcs[i]?=some fn/\EC P pl fn=some F/\(fn.name== "runtime.NumGoroutine")=false:=by
 unfold Vw at h
 split at h
 ·rename_i fn hf
  cases e:fn.name== "runtime.NumGoroutine" with
  |true=>rw [e]at h;cases h
  |false=>rw [e]at h;exact ⟨fn,hf,h,e⟩
 ·cases h
theorem all_cons {α:Type} {p:α->Prop} {x:α} {l:List α} (h:p x) (q:∀y∈l,p y):∀y∈x::l,p y:=fun y j=>by
 rcases List.mem_cons.1 j with rfl|j
 ·exact h
 ·exact q y j
theorem all_nil {α:Type} {p:α->Prop}:∀y∈([]:List α),p y:=fun y j=>by cases j
end
section
def S7 (g:Nat):List (Nat×BO)->List BO
 |[]=>[]
 |x::r=>bif Nat.beq x.1 g then x.2::S7 g r else S7 g r
noncomputable def XC (ks:List (Nat×BO)):List (Nat×BO)->List (Nat×Bk)->List (Nat×Bk)
 |[],l=>l
 |x::r,l=>(x.1,JM (S7 x.1 ks))::XC ks r l
noncomputable def Hs (DD:FuncId->Option Eu) (fixed:Ap->List (Nat×Bk)) (fuel d q f:Nat):L4:=fun Γ ks w j=>
 match w with
 |.call x=>Aa8 Γ x j (AeR Γ (fun g=>SA g (XC ks ks (fixed Γ))) DD fuel d f x.args (AV x.pre (empty q Γ)))
 |.loop k=>match DD f with
  |some F=>Us Γ k j (QJ Γ (Lp Γ.bare (fun g=>SA g (XC ks ks (fixed Γ))) DD fuel d) fuel q F k)
  |none=>false
section
variable {P:Program} {pl:List Co} {T:Nat->Option Obj} {DD:FuncId->Option Eu} {fixed:Ap->List (Nat×Bk)}
theorem Ko {g:Nat} {x:BO}:∀{l:List (Nat×BO)},x∈S7 g l->(g,x)∈l
 |[],h=>by cases h
 |y::r,h=>by
  simp only [S7]at h
  cases hc:Nat.beq y.1 g with
  |true=>
   rw [hc]at h
   simp only [cond_true,List.mem_cons]at h
   have e:=Ao.1 hc
   rcases h with rfl|h
   ·rw [<-e];exact List.mem_cons_self
   ·exact List.mem_cons_of_mem _ (Ko h)
  |false=>rw [hc]at h;exact List.mem_cons_of_mem _ (Ko h)
theorem My {ρ:Env} {ks:List (Nat×BO)} (j:∀x∈ks,Go.AM.Holds P ρ x.1 x.2) {l:List (Nat×Bk)} (hl:∀x∈l,Cw P ρ x.1 x.2):∀(r:List (Nat×BO)),∀x∈XC ks r l,Cw P ρ x.1 x.2
 |[],x,hx=>hl x hx
 |y::r,x,hx=>by
  simp only [XC,List.mem_cons]at hx
  rcases hx with rfl|hx
  ·exact HD fun z q=>j _ (Ko q)
  ·exact My j hl r x hx
theorem OO (v:P.follows .mixedOrders=true) (A:P5 P pl DD) (B:∀Γ (ρ:Env),ρ.AO=T->Γ.AG ρ->∀x∈fixed Γ,Cw P ρ x.1 x.2) (fuel d L f:Nat):NC P T f (Hs DD fixed fuel d L f):=by
 intro Γ ks w M ρ H hΓ C q j
 have z:∀g o,SA g (XC ks ks (fixed Γ))=some o->Cw P ρ g o:=fun g o J=>My C (B Γ ρ H hΓ) ks _ (OJ J)
 cases w with
 |call x=>exact QX hΓ (TD hΓ v A z d (UE q)) j
 |loop k=>
  simp only [Hs]at j
  split at j
  ·rename_i F I
   exact NW hΓ (HK hΓ.bare rfl v A z d) v A I q j
  ·cases j
end
theorem V3 {r q:Option Out} (B:∀o,r=some o->q=some o) {j:Nat} {u:C3} {k x:Aj->Option Out} (z:∀w o,k w=some o->x w=some o) {e v:Option Out} (A:∀o,e=some o->v=some o) {o:Out} (h:Lq r j u k e=some o):Lq q j u x v=some o:=by
 unfold Lq at h⊢
 cases hr':r with
 |none=>rw [hr']at h;cases h
 |some w=>
  rw [hr']at h
  rw [B w hr']
  simp only at h⊢
  split at h
  ·rename_i ha;rw [if_pos ha];exact z _ _ h
  ·rename_i ha;rw [if_neg ha];exact A _ h
theorem Vp {l:List (List PV)} {j:Int} {q:List CK} {k v:Aj->Option Out} (x:∀w o,k w=some o->v w=some o) {o:Out} (h:Ni l j q k=some o):Ni l j q v=some o:=by
 unfold Ni at h⊢
 split at h
 ·rename_i z
  rw [if_pos z]
  cases hg:l[j.toNat]? with
  |none=>rw [hg]at h;cases h
  |some ps=>
   rw [hg]at h
   simp only at h⊢
   cases hr:CL q ps with
   |none=>rw [hr]at h;cases h
   |some w=>rw [hr]at h;exact x _ _ h
 ·cases h
theorem UI {m:List (List Nat×List PV)} {s:List Nat} {j:List CK} {k v:Aj->Option Out} (x:∀w o,k w=some o->v w=some o) {e q:Option Out} (z:∀o,e=some o->q=some o) {o:Out} (h:IK m s j k e=some o):IK m s j v q=some o:=by
 unfold IK at h⊢
 cases hg:Bh m s with
 |none=>rw [hg]at h;exact z _ h
 |some ps=>
  rw [hg]at h
  simp only at h⊢
  cases hr:CL j ps with
  |none=>rw [hr]at h;cases h
  |some w=>rw [hr]at h;exact x _ _ h
theorem IE {α:Type} {r:Option α} {k j:α->Option Out} (q:∀w o,k w=some o->j w=some o) {o:Out} (h:Hj r k=some o):Hj r j=some o:=by
 unfold Hj at h⊢
 cases r with
 |none=>cases h
 |some a=>exact q _ _ h
theorem Ep {c:Prop} [Decidable c] {a j b q:Option Out} (ha:∀o,a=some o->j=some o) (hb:∀o,b=some o->q=some o) {o:Out} (h:(if c then a else b)=some o):(if c then j else q)=some o:=by
 split at h
 ·rename_i hc;rw [if_pos hc];exact ha _ h
 ·rename_i hc;rw [if_neg hc];exact hb _ h
theorem AR {M M':VG} (j:∀c v o,M c v=some o->M' c v=some o):∀(t:Tree) (v:Aj) (o:Out),t.eval M v=some o->t.eval M' v=some o
 |.fail,_,_,h=>by cases h
 |.leaf _ _ _,_,_,h=>h
 |.test _ _ _ t e,v,_,h=>Ep (AR j t v) (AR j e v) h
 |.B6 _ _ t e,v,_,h=>Ep (AR j t v) (AR j e v) h
 |.sets _ _ t e,v,_,h=>Ep (AR j t v) (AR j e v) h
 |.elem _ _ _ k,v,_,h=>Vp (fun w=>AR j k (v.app w)) h
 |.Bc _ _ k,v,_,h=>Ep (AR j k v) (fun _ h=>h) h
 |.BQ s _ _ k,v,_,h=>Ep (AR j k (v.app {n:=[((v.s.getD s []).length:Int)]})) (fun _ h=>h) h
 |.FH _ _ t e,v,_,h=>Ep (AR j t v) (AR j e v) h
 |.cat x y k,v,_,h=>Ep (AR j k (v.app {s:=[Bm v.e x++Bm v.e y]})) (fun _ h=>h) h
 |.JO _ _ k,v,_,h=>IE (fun l=>AR j k (v.app {n:=[(l.length:Int)],l:=[l]})) h
 |.look _ _ _ t e,v,_,h=>UI (fun w=>AR j t (v.app w)) (AR j e v) h
 |.up m key _ _ k,v,_,h=>IE (fun ps=>AR j k (v.app {m:=[Bv (v.m.getD m []) (Bm v.e key) ps]})) h
 |.Ku _ _ k,v,_,h=>IE (fun l=>AR j k (v.app {m:=[l]})) h
 |.bump t n k,v,_,h=>Ep (AR j k (v.app {n:=[t.den v.e+n]})) (fun _ h=>h) h
 |.Od _ k,v,_,h=>AR j k v _ h
 |.call c _ τ _ k e,v,_,h=>V3 (j c (τ.vals v.e)) (fun w=>AR j k (v.app w)) (AR j e v) h
theorem SI {trees:Nat->Tree}:∀(N c:Nat) (v:Aj) (o:Out),mir trees N c v=some o->mir trees (N+1) c v=some o
 |0,_,_,_,h=>by cases h
 |N+1,c,v,o,h=>AR (SI N) (trees c) v o h
theorem QG {trees:Nat->Tree} {N j:Nat} (h:N<=j) {c:Nat} {v:Aj} {o:Out} (q:mir trees N c v=some o):mir trees j c v=some o:=by
 induction h with
 |refl=>exact q
 |step _ ih=>exact SI _ _ _ _ ih
def Ec (trees:Nat->Tree) (c:Nat) (v:Aj) (Q:Out->Prop):Prop:=∃N o,mir trees N c v=some o/\Q o
abbrev AhM:=Nat->Aj->(Out->Prop)->Prop
def WU (l:List (List PV)) (j:Int) (q:List CK) (k:Aj->Prop):Prop:=
 0<=j/\match l[j.toNat]? with
  |some ps=>(match CL q ps with|some w=>k (w.fit (HF q)) |none=>False)
  |none=>False
def OR (m:List (List Nat×List PV)) (s:List Nat) (j:List CK) (k:Aj->Prop) (e:Prop):Prop:=
 match Bh m s with
 |some ps=>(match CL j ps with|some w=>k (w.fit (HF j)) |none=>False)
 |none=>e
def Jp {α:Type} (r:Option α) (k:α->Prop):Prop:=
 match r with
 |some a=>k a
 |none=>False
abbrev AkZ (g:(Out->Prop)->Prop) (j:Nat) (u:C3) (k:Aj->Prop) (e:Prop):Prop:=g fun o=>if o.1=j then k (o.2.fit u)else e
def Tree.wp (G:AhM) (Q:Out->Prop):Tree->Aj->Prop
 |.fail,_=>False
 |.leaf alt _ τ,v=>Q (alt,τ.vals v.e)
 |.test op a b t e,v=>if LN op (a.den v.e) (b.den v.e)then t.wp G Q v else e.wp G Q v
 |.B6 i n t e,v=>if v.n.getD i 0=n then t.wp G Q v else e.wp G Q v
 |.sets i s t e,v=>if v.s.getD i []=s then t.wp G Q v else e.wp G Q v
 |.elem l j sh k,v=>WU (v.l.getD l []) (j.den v.e) sh fun w=>k.wp G Q (v.app w)
 |.Bc l t k,v=>if t.den v.e=((v.l.getD l []).length:Int)then k.wp G Q v else False
 |.BQ s lo hi k,v=>if lo<=(v.s.getD s []).length/\(v.s.getD s []).length<=hi then k.wp G Q (v.app {n:=[((v.s.getD s []).length:Int)]})else False
 |.FH x y t e,v=>if Bm v.e x=Bm v.e y then t.wp G Q v else e.wp G Q v
 |.cat x y k,v=>if (Bm v.e x).length+(Bm v.e y).length<=1048576 then k.wp G Q (v.app {s:=[Bm v.e x++Bm v.e y]})else False
 |.JO ps sh k,v=>Jp (Cn v.e sh ps) fun l=>k.wp G Q (v.app {n:=[(l.length:Int)],l:=[l]})
 |.look m key sh t e,v=>OR (v.m.getD m []) (Bm v.e key) sh (fun w=>t.wp G Q (v.app w)) (e.wp G Q v)
 |.up m key cs sh k,v=>Jp (BP v.e sh cs) fun ps=>k.wp G Q (v.app {m:=[Bv (v.m.getD m []) (Bm v.e key) ps]})
 |.Ku es sh k,v=>Jp (C7 v.e sh es) fun l=>k.wp G Q (v.app {m:=[l]})
 |.bump t n k,v=>if t.den v.e+n<=1048576 then k.wp G Q (v.app {n:=[t.den v.e+n]})else False
 |.Od _ k,v=>k.wp G Q v
 |.call c alt τ u k e,v=>AkZ (G c (τ.vals v.e)) alt u (fun w=>k.wp G Q (v.app w)) (e.wp G Q v)
theorem BC {trees:Nat->Tree} {Q:Out->Prop}:∀(t:Tree) (v:Aj),t.wp (Ec trees) Q v->∃N o,t.eval (mir trees N) v=some o/\Q o
 |.fail,_,h=>h.elim
 |.leaf alt _ τ,v,h=>⟨0,_,rfl,h⟩
 |.test op a b t e,v,h=>by
  simp only [Tree.wp]at h
  simp only [Tree.eval]
  split at h
  ·rename_i hc;simp only [if_pos hc];exact BC t v h
  ·rename_i hc;simp only [if_neg hc];exact BC e v h
 |.B6 i n t e,v,h=>by
  simp only [Tree.wp]at h
  simp only [Tree.eval]
  split at h
  ·rename_i hc;simp only [if_pos hc];exact BC t v h
  ·rename_i hc;simp only [if_neg hc];exact BC e v h
 |.sets i s t e,v,h=>by
  simp only [Tree.wp]at h
  simp only [Tree.eval]
  split at h
  ·rename_i hc;simp only [if_pos hc];exact BC t v h
  ·rename_i hc;simp only [if_neg hc];exact BC e v h
 |.elem l j sh k,v,h=>by
  simp only [Tree.wp,WU]at h
  obtain ⟨I,h⟩:=h
  simp only [Tree.eval,Ni,if_pos I]
  cases hg:(v.l.getD l [])[(j.den v.e).toNat]? with
  |none=>rw [hg]at h;exact h.elim
  |some ps=>
   rw [hg]at h
   simp only at h⊢
   cases hr:CL sh ps with
   |none=>rw [hr]at h;exact h.elim
   |some w=>rw [hr]at h;exact BC k _ h
 |.Bc l t k,v,h=>by
  simp only [Tree.wp]at h
  simp only [Tree.eval]
  split at h
  ·rename_i hc;simp only [if_pos hc];exact BC k _ h
  ·exact h.elim
 |.BQ s lo hi k,v,h=>by
  simp only [Tree.wp]at h
  simp only [Tree.eval]
  split at h
  ·rename_i hc;simp only [if_pos hc];exact BC k _ h
  ·exact h.elim
 |.FH x y t e,v,h=>by
  simp only [Tree.wp]at h
  simp only [Tree.eval]
  split at h
  ·rename_i hc;simp only [if_pos hc];exact BC t v h
  ·rename_i hc;simp only [if_neg hc];exact BC e v h
 |.cat x y k,v,h=>by
  simp only [Tree.wp]at h
  simp only [Tree.eval]
  split at h
  ·rename_i hc;simp only [if_pos hc];exact BC k _ h
  ·exact h.elim
 |.JO ps sh k,v,h=>by
  simp only [Tree.wp,Jp]at h
  simp only [Tree.eval,Hj]
  cases hg:Cn v.e sh ps with
  |none=>rw [hg]at h;exact h.elim
  |some l=>rw [hg]at h;exact BC k _ h
 |.look m key sh t e,v,h=>by
  simp only [Tree.wp,OR]at h
  simp only [Tree.eval,IK]
  cases hg:Bh (v.m.getD m []) (Bm v.e key)with
  |none=>rw [hg]at h;exact BC e _ h
  |some ps=>
   rw [hg]at h
   simp only at h⊢
   cases hr:CL sh ps with
   |none=>rw [hr]at h;exact h.elim
   |some w=>rw [hr]at h;exact BC t _ h
 |.up m key cs sh k,v,h=>by
  simp only [Tree.wp,Jp]at h
  simp only [Tree.eval,Hj]
  cases hg:BP v.e sh cs with
  |none=>rw [hg]at h;exact h.elim
  |some l=>rw [hg]at h;exact BC k _ h
 |.Ku es sh k,v,h=>by
  simp only [Tree.wp,Jp]at h
  simp only [Tree.eval,Hj]
  cases hg:C7 v.e sh es with
  |none=>rw [hg]at h;exact h.elim
  |some l=>rw [hg]at h;exact BC k _ h
 |.bump t n k,v,h=>by
  simp only [Tree.wp]at h
  simp only [Tree.eval]
  split at h
  ·rename_i hc;simp only [if_pos hc];exact BC k _ h
  ·exact h.elim
 |.Od _ k,v,h=>by
  simp only [Tree.wp]at h
  exact BC k v h
 |.call c alt τ u k e,v,h=>by
  simp only [Tree.wp]at h
  obtain ⟨N,o,H,z⟩:=h
  split at z
  ·rename_i ha
   obtain ⟨q,B,A,C⟩:=BC k _ z
   refine ⟨max N q,B,?_,C⟩
   simp only [Tree.eval,Lq,QG (Nat.le_max_left N q) H,if_pos ha]
   exact AR (fun _ _ _=>QG (Nat.le_max_right N q)) k _ _ A
  ·rename_i ha
   obtain ⟨q,B,A,C⟩:=BC e _ z
   refine ⟨max N q,B,?_,C⟩
   simp only [Tree.eval,Lq,QG (Nat.le_max_left N q) H,if_neg ha]
   exact AR (fun _ _ _=>QG (Nat.le_max_right N q)) e _ _ A
theorem SW {trees:Nat->Tree} {c:Nat} {v:Aj} {Q:Out->Prop} (h:(trees c).wp (Ec trees) Q v):Ec trees c v Q:=by
 obtain ⟨N,o,q,j⟩:=BC _ _ h
 exact ⟨N+1,o,q,j⟩
theorem Ec.elim {trees:Nat->Tree} {c:Nat} {v:Aj} {R:Out->Prop} (h:Ec trees c v R):∃o,R o/\∀Q:Out->Prop,Q o->Ec trees c v Q:=by
 obtain ⟨N,o,q,j⟩:=h
 exact ⟨o,j,fun Q x=>⟨N,o,q,x⟩⟩
def YP (c:Nat):List (Nat×Tree)->Tree
 |[]=>.fail
 |x::r=>bif Nat.beq x.1 c then x.2 else YP c r
def AcE (P:Program) (T:Nat->Option Obj) (S:List (Nat×Spec)) (sp:Spec) (t:Tree):Prop:=
 ∃v run,(∀q j,EU q v=some j->EU q S=some j)/\NC P T sp.f run/\sp.ok v run t=true
def Sub (v S:List (Nat×Spec)):Prop:=∀q j,EU q v=some j->EU q S=some j
theorem Adk {S:List (Nat×Spec)}:Sub [] S:=fun _ _ h=>by cases h
theorem ZO {q S:List (Nat×Spec)} {c:Nat} {sp:Spec} (h:EU c S=some sp) (x:Sub q S):Sub ((c,sp)::q) S:=fun v z j=>by
 simp only [EU]at j
 cases e:Nat.beq c v with
 |true=>
  rw [e]at j
  simp only [cond_true,oI]at j
  rw [<-j,<-Ao.1 e];exact h
 |false=>rw [e]at j;exact x _ _ j
def AcW (P:Program) (T:Nat->Option Obj) (S:List (Nat×Spec)) (tr:Nat->Tree):List (Nat×Spec)->Prop
 |[]=>True
 |x::r=>AcE P T S x.2 (tr x.1)/\AcW P T S tr r
theorem Pj {c:Nat} {sp:Spec}:∀{l:List (Nat×Spec)},EU c l=some sp->(c,sp)∈l
 |[],h=>by cases h
 |x::r,h=>by
  simp only [EU]at h
  cases e:Nat.beq x.1 c with
  |true=>
   rw [e]at h
   simp only [cond_true,oI]at h
   rw [<-Ao.1 e,<-h];exact List.mem_cons_self
  |false=>rw [e]at h;exact List.mem_cons_of_mem _ (Pj h)
theorem AcW.mem {P:Program} {T:Nat->Option Obj} {S:List (Nat×Spec)} {tr:Nat->Tree}:∀{l:List (Nat×Spec)},AcW P T S tr l->∀x∈l,AcE P T S x.2 (tr x.1)
 |[],_,x,hx=>by cases hx
 |y::r,h,x,hx=>by
  rcases List.mem_cons.1 hx with rfl|hx
  ·exact h.1
  ·exact AcW.mem h.2 x hx
theorem Ac1 {P:Program} {T:Nat->Option Obj} {S:List (Nat×Spec)} {tr:Nat->Tree} (h:AcW P T S tr S):AcV P T S tr:=fun c sp hc=>h.mem (c,sp) (Pj hc)
def Tree.parts:Nat->Tree->Cx->List (Tree×Cx)
 |d+1,.test op a b t e,cx=>t.parts d (cx.test op a b true)++e.parts d (cx.test op a b false)
 |_,t,cx=>[(t,cx)]
theorem Tree.Mu {S:List (Nat×Spec)} {run:L4} {f:Nat} {alts:List Alt}:∀(d:Nat) (t:Tree) (cx:Cx),(∀p∈t.parts d cx,p.1.ok S run f alts p.2=true)->t.ok S run f alts cx=true
 |0,t,cx,h=>by cases t<;>exact h _ List.mem_cons_self
 |d+1,t,cx,h=>by
  cases t with
  |test op a b t e=>
   simp only [Tree.parts,List.mem_append]at h
   simp only [Tree.ok,aT]
   exact ⟨Tree.Mu d t _ fun p j=>h p (.inl j),Tree.Mu d e _ fun p j=>h p (.inr j)⟩
  |_=>exact h _ List.mem_cons_self
noncomputable def Spec.QB (S:List (Nat×Spec)) (run:L4) (sp:Spec) (t:Tree) (d n i:Nat):Bool:=
 B7 (fun p:Tree×Cx=>p.1.ok S run sp.f sp.alts p.2) (((t.parts d ⟨sp.ins,{},[],Jg {} sp.ins⟩).drop (n*i)).take n)
theorem Spec.Ajj {S:List (Nat×Spec)} {run:L4} {sp:Spec} {t:Tree} (d n k:Nat) (hb:t.BT sp.ins=true) (hl:Nat.ble (t.parts d ⟨sp.ins,{},[],Jg {} sp.ins⟩).length (n*k)=true) (h:∀i,i<k->sp.QB S run t d n i=true):sp.ok S run t=true:=by
 unfold Spec.ok
 rw [aT]
 refine ⟨hb,Tree.Mu d t _ fun p z=>?_⟩
 obtain ⟨j,x⟩:=List.mem_iff_getElem?.1 z
 have B:=(List.getElem?_eq_some_iff.1 x).1
 have hl:=Nat.le_of_ble_eq_true hl
 have v:0<n:=by
  rcases Nat.eq_zero_or_pos n with e|e
  ·subst e;rw [Nat.zero_mul]at hl;omega
  ·exact e
 have q:=Nat.div_add_mod j n
 have A:=Nat.mod_lt j v
 refine Fa (h (j/n) ?_) p (List.mem_iff_getElem?.2 ⟨j%n,?_⟩)
 ·exact (Nat.div_lt_iff_lt_mul v).2 (by rw [Nat.mul_comm];omega)
 ·rw [List.getElem?_take,if_pos A,List.getElem?_drop,q];exact x
end
section
namespace Dc
noncomputable section
def fc {α:Type} (n:Nat) (f:Nat->α):α:=Nat.casesOn (motive:=fun _=>α) n (f 0) fun m=>f (Nat.succ m)
def D (α:Type):=C3->Nat->α×C3×Nat
def rt {α:Type} (a:α):D α:=fun c N=>(a,c,N)
def bd {α β:Type} (p:D α) (f:α->D β):D β:=fun c N=>Prod.casesOn (motive:=fun _=>β×C3×Nat) (p c N) fun a r=>Prod.casesOn (motive:=fun _=>β×C3×Nat) r fun c N=>f a c N
def dg (k:Nat):D Nat:=fun c N=>fc (N%k) fun d=>fc (N/k) fun M=>(d,c,M)
def nt:D Nat:=bd (dg 32) fun d=>bif Nat.beq d 31 then bd (dg 128) fun e=>bif Nat.beq e 127 then dg 18446744073709551616 else fc (31+e) rt else rt d
def pk {α:Type} (d:α) (l:List α):Nat->α:=List.rec (motive:=fun _=>Nat->α) (fun _=>d) (fun x _ ih n=>Nat.casesOn (motive:=fun _=>α) n x ih) l
def ch {α:Type} (d:D α) (l:List (D α)):D α:=bd (dg l.length) (pk d l)
def li {α:Type} (p:D α) (n:Nat):D (List α):=Nat.rec (motive:=fun _=>D (List α)) (rt []) (fun _ ih=>bd p fun a=>bd ih fun l=>rt (a::l)) n
def ls {α:Type} (p:D α):D (List α):=bd nt (li p)
def pr {α β:Type} (p:D α) (q:D β):D (α×β):=bd p fun a=>bd q fun b=>rt (a,b)
def m1 {α β:Type} (f:α->β) (p:D α):D β:=bd p fun a=>rt (f a)
def m2 {α β γ:Type} (f:α->β->γ) (p:D α) (q:D β):D γ:=bd p fun a=>bd q fun b=>rt (f a b)
def m3 {α β γ δ:Type} (f:α->β->γ->δ) (p:D α) (q:D β) (r:D γ):D δ:=bd p fun a=>bd q fun b=>bd r fun c=>rt (f a b c)
def m4 {α β γ δ ε:Type} (f:α->β->γ->δ->ε) (p:D α) (q:D β) (r:D γ) (s:D δ):D ε:=bd p fun a=>bd q fun b=>bd r fun c=>bd s fun d=>rt (f a b c d)
def m5 {α β γ δ ε ζ:Type} (f:α->β->γ->δ->ε->ζ) (p:D α) (q:D β) (r:D γ) (s:D δ) (t:D ε):D ζ:=bd p fun a=>bd q fun b=>bd r fun c=>bd s fun d=>bd t fun e=>rt (f a b c d e)
def fn:D Nat:=fun c N=>C3.casesOn (motive:=fun _=>Nat×C3×Nat) c fun n s l m=>fc (Nat.succ n) fun x=>(n,⟨x,s,l,m⟩,N)
def fs:D Nat:=fun c N=>C3.casesOn (motive:=fun _=>Nat×C3×Nat) c fun n s l m=>fc (Nat.succ s) fun x=>(s,⟨n,x,l,m⟩,N)
def fl:D Nat:=fun c N=>C3.casesOn (motive:=fun _=>Nat×C3×Nat) c fun n s l m=>fc (Nat.succ l) fun x=>(l,⟨n,s,x,m⟩,N)
def fm:D Nat:=fun c N=>C3.casesOn (motive:=fun _=>Nat×C3×Nat) c fun n s l m=>fc (Nat.succ m) fun x=>(m,⟨n,s,l,x⟩,N)
def gc:D C3:=fun c N=>(c,c,N)
def sc (c:C3):D Unit:=fun _ N=>((),c,N)
def dK:D IntKind:=bd (dg 8) fun d=>rt (pk .i64 [.i64,.i32,.u8,.i8,.i16,.u16,.u32,.u64] d)
def dO:D BinOp:=bd (dg 17) fun d=>rt (pk .add [.add,.sub,.mul,.quo,.rem,.and,.or,.xor,.shl,.shr,.andNot,.eql,.neq,.lss,.leq,.gtr,.geq] d)
def dB:D Bool:=bd (dg 2) fun d=>rt (Nat.beq d 1)
def dI:D Int:=ch (rt 0) [m1 Int.ofNat nt,m1 Int.negSucc nt]
def dT (f:Nat):D ST:=Nat.rec (motive:=fun _=>D ST) (rt (.lit 0)) (fun _ r=>ch (rt (.lit 0)) [m1 .var nt,m1 (fun d=>.lit (.ofNat d)) nt,m4 .bin dO dK r r,ch (rt (.lit 0)) [m2 .conv dK r,m1 (fun d=>.lit (.negSucc d)) nt,rt (.lit (.negSucc 1099511627775))]]) f
def dS (f:Nat):D SB:=Nat.rec (motive:=fun _=>D SB) (rt (.lit true)) (fun _ r=>ch (rt (.lit true)) [m1 .lit dB,m3 .cmp dO (dT 50) (dT 50),m1 .no r]) f
def dA (f:Nat):D Aa:=Nat.rec (motive:=fun _=>D Aa) (rt .any) (fun _ r=>ch (rt .any) [
 rt .any,m1 .bool (dS 9),m2 .int dK (dT 50),m1 .str (ls nt),m2 .ptr nt nt,rt .nilPtr,m4 .slice nt nt nt nt,m4 .gslice nt nt nt nt,rt .nilSlice,m1 .map nt,rt .nilMap,m3 .func nt (ls r) (ls r),rt .nilFunc,m2 .iface nt r,rt .nilIface,
 m1 .agg (ls r),m1 .tuple (ls r),m1 .anyStr nt,m1 .gbytes nt,m1 .glen nt,m1 .svar nt,m4 .lst dB nt nt (dT 50),m3 .lptr nt (dT 50) nt,m3 .vec nt nt (dT 50),m4 .vptr nt nt (dT 50) nt,
 m1 (fun n=>.int .i64 (.var n)) fn,m2 (fun k n=>.int k (.var n)) dK fn,m1 (fun n=>.bool (.cmp .neq (.var n) (.lit (.ofNat 0)))) fn,m1 .svar fs,m4 (fun f e l n=>.lst f l e (.var n)) dB nt fl fn,m3 (fun b e n=>.vec b e (.var n)) nt nt fn,m1 (fun d=>.int .i64 (.lit (.ofNat d))) (dg 8)]) f
def dV:D Aa:=dA 50
def dBl:D Block:=ch (rt (.cells [])) [m1 .cells (ls dV),m2 (fun c e=>.map e c) nt (ls (m3 Entry.mk dV dV nt)),m2 .typed nt (ls dV),m2 .bytes nt nt,m2 .sbytes (dT 50) nt,m2 .list nt nt,m1 .smap nt,m2 .list fl nt,m1 .smap fm,m2 (fun n e=>.sbytes (.var n) e) fn nt]
def dNs (n:Nat):Nat->D (List ST):=Nat.rec (motive:=fun _=>Nat->D (List ST)) (fun _=>rt []) (fun _ ih p=>bd (dg 2) fun b=>bif Nat.beq b 0 then fc (Nat.succ p) fun q=>bd (ih q) fun l=>rt (.var p::l)else
 bd (dT 50) fun t=>bd (match t with|.var i=>fc (Nat.succ i) ih|_=>fc (Nat.succ p) ih) fun l=>rt (t::l)) n
def dLs (n:Nat):Nat->D (List Nat):=Nat.rec (motive:=fun _=>Nat->D (List Nat)) (fun _=>rt []) (fun _ ih p=>bd (dg 2) fun b=>bif Nat.beq b 0 then fc (Nat.succ p) fun q=>bd (ih q) fun l=>rt (p::l)else
 bd nt fun t=>fc (Nat.succ t) fun q=>bd (ih q) fun l=>rt (t::l)) n
def dSs (n:Nat):Nat->D (List Aa):=Nat.rec (motive:=fun _=>Nat->D (List Aa)) (fun _=>rt []) (fun _ ih p=>bd (dg 2) fun b=>bif Nat.beq b 0 then fc (Nat.succ p) fun q=>bd (ih q) fun l=>rt (.svar p::l)else
 bd (dA 3) fun t=>bd (match t with|.svar i=>fc (Nat.succ i) ih|_=>fc (Nat.succ p) ih) fun l=>rt (t::l)) n
def AkW:D CE:=m4 CE.mk (bd nt fun n=>dNs n 0) (bd (dg 16) fun n=>dSs n 0) (bd (dg 16) fun n=>dLs n 0) (bd (dg 4) fun n=>dLs n 0)
def AkX:D C3:=m4 C3.mk nt (dg 16) (dg 16) (dg 4)
def dP:D AE:=ch (rt (.all 0)) [m1 .els (ls (ls (dA 50))),m1 .all nt,m2 .take nt (dT 50),m2 .drop nt (dT 50)]
def dQ:D Nat:=bd nt fun k=>bd (dg 2) fun b=>bif Nat.beq b 0 then rt k else fc (k+1099511627776) rt
def dTr (H:List (List CK)) (f:Nat):D Tree:=Nat.rec (motive:=fun _=>D Tree) (rt .fail) (fun _ r=>ch (rt .fail) [
 rt .fail,m3 .leaf (dg 8) (ls dQ) AkW,m5 .test (bd (dg 6) fun d=>rt (pk .eql [.eql,.neq,.lss,.leq,.gtr,.geq] d)) (dT 50) (dT 50) r r,
 m4 .B6 nt dI r r,m4 .sets nt (ls (dg 256)) r r,m4 .elem nt (dT 50) (m1 (pk [] H) nt) r,m3 .Bc nt (dT 50) r,m4 .BQ nt nt nt r,m4 .FH (dA 3) (dA 3) r r,m3 .cat (dA 3) (dA 3) r,
 m3 .JO (ls dP) (m1 (pk [] H) nt) r,m5 .look nt (dA 3) (m1 (pk [] H) nt) r r,m5 .up nt (dA 3) (ls (dA 50)) (m1 (pk [] H) nt) r,
 m3 .Ku (ls (pr (dA 3) (ls (dA 50)))) (m1 (pk [] H) nt) r,m3 .bump (dT 50) nt r,bd dQ fun a=>m5 (fun b c d e k=>.Od (a,b,c,d,e) k) nt nt nt nt r,
 bd (dg 256) fun c=>m5 (.call c) (dg 8) AkW AkX r r]) f
def tree (H:List (List CK)) (N:Nat):Tree:=(dTr H 5000 {} N).1
def iN (P:List Nat) (n:Nat):Nat:=bif Nat.ble 1099511627776 n then n-1099511627776+pk 0 P 0 else n
def iS (P:List Nat):ST->ST
 |.lit (.negSucc k)=>bif Nat.beq k 1099511627775 then .lit (.ofNat (pk 0 P 0))else bif Nat.beq k 1099511627774 then .lit (.ofNat (pk 0 P 1))else .lit (.negSucc k)
 |.bin o k a b=>.bin o k (iS P a) (iS P b)
 |.conv k a=>.conv k (iS P a)
 |t=>t
def AkI (s:ST->ST) (t:CE):CE:=⟨t.n.map s,t.s,t.l,t.m⟩
def inst (s:ST->ST) (P:List Nat):Tree->Tree
 |.leaf a nw t=>.leaf a (nw.map (iN P)) (AkI s t)
 |.test o a b t e=>.test o (s a) (s b) (inst s P t) (inst s P e)
 |.B6 i n t e=>.B6 i n (inst s P t) (inst s P e)
 |.sets i n t e=>.sets i n (inst s P t) (inst s P e)
 |.elem l j sh k=>.elem l j sh (inst s P k)
 |.Bc l t k=>.Bc l t (inst s P k)
 |.BQ l a b k=>.BQ l a b (inst s P k)
 |.FH x y t e=>.FH x y (inst s P t) (inst s P e)
 |.cat x y k=>.cat x y (inst s P k)
 |.JO ps sh k=>.JO ps sh (inst s P k)
 |.look m y sh t e=>.look m y sh (inst s P t) (inst s P e)
 |.up m y cs sh k=>.up m y cs sh (inst s P k)
 |.Ku es sh k=>.Ku es sh (inst s P k)
 |.bump t n k=>.bump t n (inst s P k)
 |.Od (a,r) k=>.Od (iN P a,r) (inst s P k)
 |.call c a t o k e=>.call (bif Nat.ble 240 c then pk 0 P (c-239)else c) a (AkI s t) o (inst s P k) (inst s P e)
 |.fail=>.fail
def cn (c0:C3):D C3:=bd gc fun c=>bd (dg 2) fun b=>bif Nat.beq b 0 then rt ⟨c.n-c0.n,c.s-c0.s,c.l-c0.l,c.m-c0.m⟩else AkX
def dPo (pre:List Block) (n:Nat):Nat->D (List (Option Block)):=Nat.rec (motive:=fun _=>Nat->D (List (Option Block))) (fun _=>rt []) (fun _ ih i=>bd (ch (rt none) [rt none,rt (some (pk (.cells []) pre i)),m1 some dBl]) fun b=>fc (Nat.succ i) fun j=>bd (ih j) fun l=>rt (b::l)) n
def dPs (pre:List Block):D (List (Option Block)):=bd nt fun n=>dPo pre n 0
def dSp:D Spec:=bd (dg 1024) fun f=>ch (rt ⟨0,{},[]⟩) [
 bd (ls dV) fun a=>bd (ls dBl) fun p=>bd (cn {}) fun i=>bd gc fun c=>m1 (Spec.mk f i) (ls (bd (sc c) fun _=>bd dV fun r=>bd (dPs p) fun q=>bd (cn c) fun o=>rt ⟨o,.call ⟨a,p,r,q⟩⟩)),
 bd nt fun id=>bd (ls (pr nt dV)) fun t=>bd (ls dBl) fun p=>bd (ls (pr nt (ls dV))) fun df=>bd (cn {}) fun i=>bd gc fun c=>m1 (Spec.mk f i) (ls (bd (sc c) fun _=>bd (ls (pr nt dV)) fun t'=>bd (dPs p) fun q=>bd dB fun j=>bd (cn c) fun o=>rt ⟨o,.loop ⟨id,t,p,t',q,df,j⟩⟩))]
def spec (N:Nat):Spec:=(dSp {} N).1
end
end Dc
end
section
noncomputable def Tree.Ez (S:List (Nat×Spec)) (f:Nat):Nat->Tree->Cx->List (Tree×Cx)
 |d+1,.test op a b t e,cx=>t.Ez S f d (cx.test op a b true)++e.Ez S f d (cx.test op a b false)
 |d+1,.B6 i n t e,cx=>t.Ez S f d (cx.B6 i n)++e.Ez S f d (cx.test .eql (.var i) (.lit n) false)
 |d+1,.call c alt τ o k e,cx=>Option.casesOn (motive:=fun _=>List (Tree×Cx)) (cx.call S f c alt τ o) [(.call c alt τ o k e,cx)] fun j=>k.Ez S f d j++e.Ez S f d cx
 |_,t,cx=>[(t,cx)]
theorem Tree.DW {S:List (Nat×Spec)} {run:L4} {f:Nat} {alts:List Alt}:∀(d:Nat) (t:Tree) (cx:Cx),(∀p∈t.Ez S f d cx,p.1.ok S run f alts p.2=true)->t.ok S run f alts cx=true
 |0,t,cx,h=>by cases t<;>exact h _ List.mem_cons_self
 |d+1,t,cx,h=>by
  cases t with
  |test op a b t e=>
   simp only [Tree.Ez,List.mem_append]at h
   simp only [Tree.ok,aT]
   exact ⟨Tree.DW d t _ fun p j=>h p (.inl j),Tree.DW d e _ fun p j=>h p (.inr j)⟩
  |B6 i n t e=>
   simp only [Tree.Ez,List.mem_append]at h
   simp only [Tree.ok,aT]
   exact ⟨Tree.DW d t _ fun p j=>h p (.inl j),Tree.DW d e _ fun p j=>h p (.inr j)⟩
  |call c alt τ o k e=>
   simp only [Tree.Ez]at h
   cases hc:cx.call S f c alt τ o with
   |none=>
    rw [hc]at h
    exact h (.call c alt τ o k e,cx) List.mem_cons_self
   |some cx'=>
    rw [hc]at h
    simp only [List.mem_append]at h
    have v:=Tree.DW d k cx' fun p j=>h p (.inl j)
    have q:=Tree.DW d e cx fun p j=>h p (.inr j)
    simp only [Tree.ok,aT,hc]
    exact ⟨by show CN (some (Tree.ok S run f alts k cx'))=true;rw [v];rfl,q⟩
  |_=>exact h _ List.mem_cons_self
noncomputable def Spec.OL (S:List (Nat×Spec)) (run:L4) (sp:Spec) (t:Tree) (d n i:Nat):Bool:=
 B7 (fun p:Tree×Cx=>p.1.ok S run sp.f sp.alts p.2) (((t.Ez S sp.f d ⟨sp.ins,{},[],Jg {} sp.ins⟩).drop (n*i)).take n)
theorem Spec.AfZ {S:List (Nat×Spec)} {run:L4} {sp:Spec} {t:Tree} (d n k:Nat) (hb:t.BT sp.ins=true) (hl:Nat.ble (t.Ez S sp.f d ⟨sp.ins,{},[],Jg {} sp.ins⟩).length (n*k)=true) (h:∀i,i<k->sp.OL S run t d n i=true):sp.ok S run t=true:=by
 unfold Spec.ok
 rw [aT]
 refine ⟨hb,Tree.DW d t _ fun p z=>?_⟩
 obtain ⟨j,x⟩:=List.mem_iff_getElem?.1 z
 have B:=(List.getElem?_eq_some_iff.1 x).1
 have hl:=Nat.le_of_ble_eq_true hl
 have v:0<n:=by
  rcases Nat.eq_zero_or_pos n with e|e
  ·subst e;rw [Nat.zero_mul]at hl;omega
  ·exact e
 have q:=Nat.div_add_mod j n
 have A:=Nat.mod_lt j v
 refine Fa (h (j/n) ?_) p (List.mem_iff_getElem?.2 ⟨j%n,?_⟩)
 ·exact (Nat.div_lt_iff_lt_mul v).2 (by rw [Nat.mul_comm];omega)
 ·rw [List.getElem?_take,if_pos A,List.getElem?_drop,q];exact x
end
end Go.AM
