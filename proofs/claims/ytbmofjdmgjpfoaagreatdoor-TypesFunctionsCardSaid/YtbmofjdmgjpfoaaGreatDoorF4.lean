/- Part 4 of TypesFunctions. -/
import Derived.Test.YtbmofjdmgjpfoaaGreatDoorF3
set_option linter.all false
namespace Go.AM
section
def Env.of (AJ:Nat->Option Obj) (n:List Int) (s:List (List Nat)) (l:List (List (List PV))) (m:List (List (List Nat×List PV))):Env:=
 {val:=fun i=>n.getD i 0,AJ:=AJ,str:=fun i=>s.getD i [],lst:=fun i=>l.getD i [],map:=fun i=>m.getD i []}
structure CD where
 n:List ST:=[]
 s:List Ab:=[]
 l:List Nat:=[]
 m:List Nat:=[]
def Bl (ρ:Env) (v:Ab):List Nat:=(DV ρ v).getD []
def Env.sub (ρ:Env) (τ:CD):Env:=Env.of ρ.AJ (τ.n.map (·.den ρ)) (τ.s.map (Bl ρ)) (τ.l.map ρ.lst) (τ.m.map ρ.map)
def ST.sub (τ:CD):ST->Option ST
 |.lit n=>some (.lit n)
 |.var i=>τ.n[i]?
 |.bin op k a b=>match a.sub τ,b.sub τ with
  |some a,some b=>some (.bin op k a b)
  |_,_=>none
 |.conv k a=>(a.sub τ).map (.conv k)
def Adu (op:BinOp) (a b:ST):SB:=
 match a,b with
 |.lit x,.lit y=>(match AbB op x y with|some v=>.lit v|none=>.cmp op (.lit x) (.lit y))
 |a,b=>.cmp op a b
theorem Td {ρ:Env} (op:BinOp) (a b:ST):(Adu op a b).den ρ=(SB.cmp op a b).den ρ:=by
 unfold Adu
 split
 ·split
  ·rename_i x y v h
   simp only [SB.den,ST.den]
   exact (Ny h).1
  ·rfl
 ·rfl
def SB.sub (τ:CD):SB->Option SB
 |.lit b=>some (.lit b)
 |.cmp op a b=>match a.sub τ,b.sub τ with
  |some a,some b=>some (Adu op a b)
  |_,_=>none
 |.no a=>(a.sub τ).map .no
def Ab.isStr:Ab->Bool
 |.str _=>true
 |.svar _=>true
 |_=>false
def Ab.T3 (τ:CD):Ab->Option Ab
 |.bool b=>(b.sub τ).map .bool
 |.int k n=>(n.sub τ).map (.int k)
 |.str s=>some (.str s)
 |.ptr b o=>some (.ptr b o)
 |.nilPtr=>some .nilPtr
 |.slice b o l c=>some (.slice b o l c)
 |.gslice b o l e=>some (.gslice b o l e)
 |.nilSlice=>some .nilSlice
 |.map b=>some (.map b)
 |.nilMap=>some .nilMap
 |.nilFunc=>some .nilFunc
 |.nilIface=>some .nilIface
 |.gbytes b=>some (.gbytes b)
 |.svar i=>match τ.s[i]? with
  |some v=>if v.isStr then some v else none
  |none=>none
 |.lst f i es n=>match τ.l[i]?,n.sub τ with
  |some j,some n=>some (.lst f j es n)
  |_,_=>none
 |.lptr i j o=>match τ.l[i]?,j.sub τ with
  |some k,some j=>some (.lptr k j o)
  |_,_=>none
 |.vec b es n=>(n.sub τ).map (.vec b es)
 |.vptr b es j o=>(j.sub τ).map fun j=>.vptr b es j o
 |.anyStr n=>some (.anyStr n)
 |_=>none
def LQ (τ:CD):List Ab->Option (List Ab)
 |[]=>some []
 |v::r=>match v.T3 τ,LQ τ r with
  |some v,some r=>some (v::r)
  |_,_=>none
def Ab.Xh (τ:CD):Ab->Option Ab
 |.func f a c=>match LQ τ a,LQ τ c with
  |some a,some c=>some (.func f a c)
  |_,_=>none
 |v=>v.T3 τ
def RS (τ:CD):List Entry->Option (List Entry)
 |[]=>some []
 |e::r=>match e.key.Xh τ,e.val.Xh τ,RS τ r with
  |some k,some v,some es=>some (⟨k,v,e.born⟩::es)
  |_,_,_=>none
def Ab.Afo (τ:CD):Ab->Option Ab
 |.agg cs=>(LQ τ cs).map .agg
 |v=>v.Xh τ
def RR (τ:CD):List Ab->Option (List Ab)
 |[]=>some []
 |v::r=>match v.Afo τ,RR τ r with
  |some v,some r=>some (v::r)
  |_,_=>none
def Ab.RQ (τ:CD):Ab->Option Ab
 |.agg cs=>(LQ τ cs).map .agg
 |.tuple cs=>(RR τ cs).map .tuple
 |v=>v.Xh τ
def O3 (τ:CD):List Ab->Option (List Ab)
 |[]=>some []
 |v::r=>match v.RQ τ,O3 τ r with
  |some v,some r=>some (v::r)
  |_,_=>none
def Block.sub (τ:CD):Block->Option Block
 |.cells vs=>(LQ τ vs).map .cells
 |.typed e vs=>(LQ τ vs).map (.typed e)
 |.bytes n e=>some (.bytes n e)
 |.sbytes t e=>(t.sub τ).map fun t=>.sbytes t e
 |.list i q=>(τ.l[i]?).map fun j=>.list j q
 |.smap i=>(τ.m[i]?).map .smap
 |.map q c=>(RS τ q).map fun q=>.map q c
def Im (τ:CD):List Block->Option (List Block)
 |[]=>some []
 |B::r=>match B.sub τ,Im τ r with
  |some B,some r=>some (B::r)
  |_,_=>none
def Il (τ:CD):List (Option Block)->Option (List (Option Block))
 |[]=>some []
 |none::r=>(Il τ r).map (none::·)
 |some B::r=>match B.sub τ,Il τ r with
  |some B,some r=>some (some B::r)
  |_,_=>none
def By.sub (τ:CD) (x:By):Option By:=
 match O3 τ x.args,Im τ x.pre,x.res.RQ τ,Il τ x.post with
 |some args,some pre,some res,some post=>some ⟨args,pre,res,post⟩
 |_,_,_,_=>none
section
variable {ρ:Env} {μ:As} {τ:CD}
theorem getD_map {α β:Type} {f:α->β} {l:List α} {i:Nat} {x:α} {d:β} (h:l[i]?=some x):(l.map f).getD i d=f x:=by
 rw [List.getD_eq_getElem?_getD,List.getElem?_map,h];rfl
theorem ST.CI:∀{t u:ST},t.sub τ=some u->u.den ρ=t.den (ρ.sub τ)
 |.lit n,u,h=>by simp only [ST.sub,oI]at h;subst h;rfl
 |.var i,u,h=>by
  simp only [ST.sub]at h
  exact (getD_map (f:=fun x:ST=>x.den ρ) h).symm
 |.bin op k a b,u,h=>by
  simp only [ST.sub]at h
  split at h
  ·rename_i j q ha hb
   simp only [oI]at h
   subst h
   simp only [ST.den,ST.CI ha,ST.CI hb]
  ·cases h
 |.conv k a,u,h=>by
  simp only [ST.sub]at h
  obtain ⟨j,ha,rfl⟩:=mS h
  simp only [ST.den,ST.CI ha]
theorem SB.CI:∀{t u:SB},t.sub τ=some u->u.den ρ=t.den (ρ.sub τ)
 |.lit n,u,h=>by simp only [SB.sub,oI]at h;subst h;rfl
 |.cmp op a b,u,h=>by
  simp only [SB.sub]at h
  split at h
  ·rename_i j q ha hb
   simp only [oI]at h
   subst h
   rw [Td]
   simp only [SB.den,ST.CI ha,ST.CI hb]
  ·cases h
 |.no a,u,h=>by
  simp only [SB.sub]at h
  obtain ⟨j,ha,rfl⟩:=mS h
  simp only [SB.den,SB.CI ha]
theorem DG {p a:Ab} (h:p.T3 τ=some a) {u:Value}:(Ah (ρ.sub τ) μ p u↔Ah ρ μ a u)/\a.single=p.single:=by
 cases p<;>simp only [Ab.T3,oI,reduceCtorEq]at h
 case bool b=>
  obtain ⟨C,hb,rfl⟩:=mS h
  simp only [Ah,SB.CI (ρ:=ρ) hb,Ab.single,and_self]
 case int k n=>
  obtain ⟨z,q,rfl⟩:=mS h
  simp only [Ah,ST.CI (ρ:=ρ) q,Ab.single,and_self]
 case svar i=>
  split at h
  ·rename_i v A
   split at h
   ·rename_i hs
    simp only [oI]at h
    subst h
    have e:(ρ.sub τ).str i=Bl ρ v:=getD_map (f:=Bl ρ) A
    cases v<;>simp only [Ab.isStr,Bool.false_eq_true]at hs
    case str s=>simp only [Ah,e,Bl,DV,Option.getD_some,Ab.single,and_self]
    case svar j=>simp only [Ah,e,Bl,DV,Option.getD_some,Ab.single,and_self]
   ·cases h
  ·cases h
 case lst f i es n=>
  split at h
  ·rename_i j z x q
   simp only [oI]at h
   subst h
   have e:(ρ.sub τ).lst i=ρ.lst j:=getD_map (f:=ρ.lst) x
   simp only [Ah,e,ST.CI (ρ:=ρ) q,Ab.single,and_self]
  ·cases h
 case lptr i j o=>
  split at h
  ·rename_i k j' B x
   simp only [oI]at h
   subst h
   have e:(ρ.sub τ).lst i=ρ.lst k:=getD_map (f:=ρ.lst) B
   simp only [Ah,e,ST.CI (ρ:=ρ) x,Ab.single,and_self]
  ·cases h
 case vec b es n=>
  obtain ⟨z,q,rfl⟩:=mS h
  simp only [Ah,ST.CI (ρ:=ρ) q,Ab.single,and_self]
 case vptr b es j o=>
  obtain ⟨z,q,rfl⟩:=mS h
  simp only [Ah,ST.CI (ρ:=ρ) q,Ab.single,and_self]
 all_goals
  subst h
  simp only [Ah,Ab.single,and_self]
theorem Xg (v:Ab) (r:List Ab):LQ τ (v::r)=match v.T3 τ,LQ τ r with
  |some v,some r=>some (v::r)
  |_,_=>none:=rfl
theorem EM:∀{l r:List Ab},LQ τ l=some r->l.length=r.length/\(∀{us:List Value},Aw (ρ.sub τ) μ l us↔Aw ρ μ r us)/\(∀{us:List Value},A4 (ρ.sub τ) μ l us↔A4 ρ μ r us)/\
  ∀(i:Nat),(∀p,l[i]?=some p->∃a,r[i]?=some a/\p.T3 τ=some a)/\(∀a,r[i]?=some a->∃p,l[i]?=some p/\p.T3 τ=some a)
 |[],r,h=>by
  simp only [LQ,oI]at h
  subst h
  exact ⟨rfl,by simp only [Aw,implies_true],by simp only [A4,implies_true],fun i=>⟨fun p h=>by simp at h,fun p h=>by simp at h⟩⟩
 |v::l,r,h=>by
  rw [Xg]at h
  split at h
  ·rename_i H I q C
   simp only [oI]at h
   subst h
   obtain ⟨k1,A,z,B⟩:=EM C
   refine ⟨by simp [k1],fun {us}=>?_,fun {us}=>?_,fun i=>?_⟩
   ·simp only [Aw]
    constructor
    ·rintro ⟨u,rest,rfl,⟨h1,h2⟩,h3⟩
     obtain ⟨j,x⟩:=DG (ρ:=ρ) (μ:=μ) q (u:=u)
     exact ⟨u,rest,rfl,⟨by rw [x];exact h1,j.1 h2⟩,A.1 h3⟩
    ·rintro ⟨u,rest,rfl,⟨h1,h2⟩,h3⟩
     obtain ⟨j,x⟩:=DG (ρ:=ρ) (μ:=μ) q (u:=u)
     exact ⟨u,rest,rfl,⟨by rw [<-x];exact h1,j.2 h2⟩,A.2 h3⟩
   ·simp only [A4]
    constructor
    ·rintro ⟨u,rest,rfl,h2,h3⟩
     obtain ⟨j,x⟩:=DG (ρ:=ρ) (μ:=μ) q (u:=u)
     exact ⟨u,rest,rfl,j.1 h2,z.1 h3⟩
    ·rintro ⟨u,rest,rfl,h2,h3⟩
     obtain ⟨j,x⟩:=DG (ρ:=ρ) (μ:=μ) q (u:=u)
     exact ⟨u,rest,rfl,j.2 h2,z.2 h3⟩
   ·cases i with
    |zero=>
     simp only [List.getElem?_cons_zero,oI]
     exact ⟨fun p e=>⟨H,rfl,e▸q⟩,fun a e=>⟨v,rfl,e▸q⟩⟩
    |succ i=>simpa using B i
  ·cases h
theorem GV {p a:Ab} (h:p.Xh τ=some a) {u:Value}:(Ah (ρ.sub τ) μ p u↔Ah ρ μ a u)/\a.single=p.single:=by
 unfold Ab.Xh at h
 split at h
 ·split at h
  ·rename_i x y v j
   simp only [oI]at h
   subst h
   obtain ⟨_,_,k1,_⟩:=EM (ρ:=ρ) (μ:=μ) v
   obtain ⟨_,_,q,_⟩:=EM (ρ:=ρ) (μ:=μ) j
   simp only [Ah,k1,q,Ab.single,and_self]
  ·cases h
 ·exact DG h
theorem O6:∀{l r:List Entry} {ms:List MapEntry},RS τ l=some r->(BN (ρ.sub τ) μ l ms↔BN ρ μ r ms)
 |[],r,ms,h=>by
  simp only [RS,oI]at h
  subst h
  simp only [BN]
 |e::l,r,ms,h=>by
  simp only [RS]at h
  split at h
  ·rename_i k v z j x q
   simp only [oI]at h
   subst h
   simp only [BN,Acu,(GV (ρ:=ρ) (μ:=μ) j).1,(GV (ρ:=ρ) (μ:=μ) (u:=.bool true) j).2,(GV (ρ:=ρ) (μ:=μ) x).1,O6 q]
  ·cases h
theorem Z6 {p a:Ab} (h:p.Afo τ=some a) {u:Value}:Ah (ρ.sub τ) μ p u↔Ah ρ μ a u:=by
 unfold Ab.Afo at h
 split at h
 ·obtain ⟨cs,j,rfl⟩:=mS h
  obtain ⟨_,k,_⟩:=EM (ρ:=ρ) (μ:=μ) j
  simp only [Ah,k]
 ·exact (GV h).1
theorem O5:∀{l r:List Ab} {us:List Value},RR τ l=some r->(A4 (ρ.sub τ) μ l us↔A4 ρ μ r us)
 |[],r,us,h=>by
  simp only [RR,oI]at h
  subst h
  simp only [A4]
 |v::l,r,us,h=>by
  simp only [RR]at h
  split at h
  ·rename_i x z q j
   simp only [oI]at h
   subst h
   simp only [A4,Z6 (ρ:=ρ) (μ:=μ) q,O5 j]
  ·cases h
theorem GU {p a:Ab} (h:p.RQ τ=some a) {u:Value}:Ah (ρ.sub τ) μ p u↔Ah ρ μ a u:=by
 unfold Ab.RQ at h
 split at h
 ·obtain ⟨cs,j,rfl⟩:=mS h
  obtain ⟨_,k,_⟩:=EM (ρ:=ρ) (μ:=μ) j
  simp only [Ah,k]
 ·obtain ⟨cs,j,rfl⟩:=mS h
  simp only [Ah,fun us=>O5 (ρ:=ρ) (μ:=μ) (us:=us) j]
 ·exact (GV h).1
theorem F9:∀{l r:List Ab} {us:List Value},O3 τ l=some r->(A4 (ρ.sub τ) μ l us↔A4 ρ μ r us)
 |[],r,us,h=>by
  simp only [O3,oI]at h
  subst h
  simp only [A4]
 |v::l,r,us,h=>by
  simp only [O3]at h
  split at h
  ·rename_i x z q j
   simp only [oI]at h
   subst h
   simp only [A4,GU (ρ:=ρ) (μ:=μ) q,F9 j]
  ·cases h
theorem EG {B C:Block} (h:B.sub τ=some C) {o:Option Obj} {δ:Nat×Nat}:C3 (ρ.sub τ) μ B o δ↔C3 ρ μ C o δ:=by
 cases B<;>simp only [Block.sub,oI,reduceCtorEq]at h
 case cells vs=>
  obtain ⟨us,J,rfl⟩:=mS h
  obtain ⟨_,_,_,k⟩:=EM (ρ:=ρ) (μ:=μ) J
  simp only [C3]
  constructor
  ·rintro ⟨c,e,ho,hm,hc⟩
   refine ⟨c,e,ho,hm,fun i a ha=>?_⟩
   obtain ⟨p,A,hs⟩:=(k i).2 a ha
   obtain ⟨v,z,I,x⟩:=hc i p A
   obtain ⟨q,H⟩:=DG (ρ:=ρ) (μ:=μ) hs (u:=v)
   exact ⟨v,z,by rw [H];exact I,q.1 x⟩
  ·rintro ⟨c,e,ho,hm,hc⟩
   refine ⟨c,e,ho,hm,fun i p A=>?_⟩
   obtain ⟨a,ha,hs⟩:=(k i).1 p A
   obtain ⟨v,z,I,x⟩:=hc i a ha
   obtain ⟨q,H⟩:=DG (ρ:=ρ) (μ:=μ) hs (u:=v)
   exact ⟨v,z,by rw [<-H];exact I,q.2 x⟩
 case typed t vs=>
  obtain ⟨us,J,rfl⟩:=mS h
  obtain ⟨M,_,_,k⟩:=EM (ρ:=ρ) (μ:=μ) J
  simp only [C3]
  constructor
  ·rintro ⟨c,ho,⟨h0,hs0⟩,hm,hc⟩
   refine ⟨c,ho,⟨h0,by rw [hs0,M]⟩,hm,fun i a ha=>?_⟩
   obtain ⟨p,A,hs⟩:=(k i).2 a ha
   obtain ⟨v,z,I,x⟩:=hc i p A
   obtain ⟨q,H⟩:=DG (ρ:=ρ) (μ:=μ) hs (u:=v)
   exact ⟨v,z,by rw [H];exact I,q.1 x⟩
  ·rintro ⟨c,ho,⟨h0,hs0⟩,hm,hc⟩
   refine ⟨c,ho,⟨h0,by rw [hs0,M]⟩,hm,fun i p A=>?_⟩
   obtain ⟨a,ha,hs⟩:=(k i).1 p A
   obtain ⟨v,z,I,x⟩:=hc i a ha
   obtain ⟨q,H⟩:=DG (ρ:=ρ) (μ:=μ) hs (u:=v)
   exact ⟨v,z,by rw [<-H];exact I,q.2 x⟩
 case map es c=>
  obtain ⟨P,N,rfl⟩:=mS h
  simp only [C3,O6 (ρ:=ρ) (μ:=μ) N]
 case bytes n e=>subst h;simp only [C3]
 case sbytes t e=>
  obtain ⟨t',O,rfl⟩:=mS h
  simp only [C3,ST.CI (ρ:=ρ) O]
 case list i es=>
  obtain ⟨j,L,rfl⟩:=mS h
  have e:(ρ.sub τ).lst i=ρ.lst j:=getD_map (f:=ρ.lst) L
  simp only [C3,e]
 case smap i=>
  obtain ⟨j,L,rfl⟩:=mS h
  have e:(ρ.sub τ).map i=ρ.map j:=getD_map (f:=ρ.map) L
  simp only [C3,e]
theorem FA:∀{l r:List Block},Im τ l=some r->l.length=r.length/\∀(i:Nat),(∀p,l[i]?=some p->∃a,r[i]?=some a/\p.sub τ=some a)/\(∀a,r[i]?=some a->∃p,l[i]?=some p/\p.sub τ=some a)
 |[],r,h=>by
  simp only [Im,oI]at h
  subst h
  exact ⟨rfl,fun i=>⟨fun p h=>by simp at h,fun p h=>by simp at h⟩⟩
 |v::l,r,h=>by
  simp only [Im]at h
  split at h
  ·rename_i z A j x
   simp only [oI]at h
   subst h
   obtain ⟨k1,q⟩:=FA x
   refine ⟨by simp [k1],fun i=>?_⟩
   cases i with
   |zero=>
    simp only [List.getElem?_cons_zero,oI]
    exact ⟨fun p e=>⟨z,rfl,e▸j⟩,fun a e=>⟨v,rfl,e▸j⟩⟩
   |succ i=>simpa using q i
  ·cases h
theorem HP:∀{l r:List (Option Block)},Il τ l=some r->l.length=r.length/\∀(i:Nat),(∀p,l[i]?=some (some p)->∃a,r[i]?=some (some a)/\p.sub τ=some a)/\(∀a,r[i]?=some (some a)->∃p,l[i]?=some (some p)/\p.sub τ=some a)
 |[],r,h=>by
  simp only [Il,oI]at h
  subst h
  exact ⟨rfl,fun i=>⟨fun p h=>by simp at h,fun p h=>by simp at h⟩⟩
 |none::l,r,h=>by
  simp only [Il]at h
  obtain ⟨z,q,rfl⟩:=mS h
  obtain ⟨k1,j⟩:=HP q
  refine ⟨by simp [k1],fun i=>?_⟩
  cases i with
  |zero=>simp
  |succ i=>simpa using j i
 |some v::l,r,h=>by
  simp only [Il]at h
  split at h
  ·rename_i A z x q
   simp only [oI]at h
   subst h
   obtain ⟨k1,j⟩:=HP q
   refine ⟨by simp [k1],fun i=>?_⟩
   cases i with
   |zero=>
    simp only [List.getElem?_cons_zero,oI]
    exact ⟨fun p e=>⟨A,rfl,e▸x⟩,fun a e=>⟨v,rfl,e▸x⟩⟩
   |succ i=>simpa using j i
  ·cases h
theorem AD.over {x:Env} {h v:Al} {w:World} (H:AD ρ μ h w) (J:v.next=h.next) (L:x.AJ=ρ.AJ) (hf:v.fx.AB x) (hb:∀b j,v.get b=some j->∃B,h.get b=some B/\∀o δ,C3 ρ μ B o δ->C3 x μ j o δ):AD x μ v w:=by
 have own:∀r,AF μ v r->AF μ h r:=fun r ⟨b,B,δ,A,C⟩=>by
  obtain ⟨j,k,_⟩:=hb b B A
  exact ⟨b,j,δ,k,C⟩
 refine ⟨fun b e=>H.fresh b (J▸e),fun b B e=>?_,fun b I B j r δ N A C m1 m2=>?_,⟨fun g o e=>?_,fun g o e=>?_,hf⟩⟩
 ·obtain ⟨B0,k1,z⟩:=hb b B e
  obtain ⟨r,δ,m1,m2⟩:=H.blk b B0 k1
  exact ⟨r,δ,m1,z _ _ m2⟩
 ·obtain ⟨B1,k1,_⟩:=hb b B A
  obtain ⟨M,z,_⟩:=hb I j C
  exact H.inj _ _ _ _ _ _ _ k1 z m1 m2
 ·rw [L]at e
  exact ⟨(H.AJ.AJ g o e).1,fun q=>(H.AJ.AJ g o e).2 (own g q)⟩
 ·exact ⟨(H.AJ.AQ g o e).1,fun q=>(H.AJ.AQ g o e).2 (own g q)⟩
end
section
variable {ρ:Env} {τ:CD} {μ:As} {w w':World} {pre pre':List Block} {post post':List (Option Block)}
theorem LO (v:Im τ pre=some pre') (H:AD ρ μ (AS pre' (empty 0)) w):AD (ρ.sub τ) μ (AS pre (empty 0)) w:=by
 obtain ⟨j,q⟩:=FA v
 refine H.over (by rw [BR,BR,j]) rfl (by rw [(BU pre (empty 0)).2.1];exact Ao.AB.none _) fun b B hB=>?_
 rw [Cq]at hB
 obtain ⟨a,ha,hs⟩:=(q b).1 B hB
 exact ⟨a,by rw [Cq];exact ha,fun o δ=>(EG hs).2⟩
theorem Jc (v:Im τ pre=some pre') (H:AD (ρ.sub τ) μ (AS pre (empty 0)) w):AD ρ μ (AS pre' (empty 0)) w:=by
 obtain ⟨j,q⟩:=FA v
 refine H.over (by rw [BR,BR,j]) rfl (by rw [(BU pre' (empty 0)).2.1];exact Ao.AB.none _) fun b B hB=>?_
 rw [Cq]at hB
 obtain ⟨a,ha,hs⟩:=(q b).2 B hB
 exact ⟨a,by rw [Cq];exact ha,fun o δ=>(EG hs).1⟩
theorem JW {μ':As} (Q:Im τ pre=some pre') (M:Il τ post=some post') (v:Av (ρ.sub τ) μ (AS pre (empty 0)) w μ' (Ct post (empty 0)) w'):Av ρ μ (AS pre' (empty 0)) w μ' (Ct post' (empty 0)) w':=by
 obtain ⟨R,I⟩:=FA Q
 obtain ⟨L,H⟩:=HP M
 have A:∀r,AF μ (AS pre (empty 0)) r↔AF μ (AS pre' (empty 0)) r:=fun r=>by
  constructor
  ·rintro ⟨b,B,δ,j,z⟩
   rw [Cq]at j
   obtain ⟨a,ha,_⟩:=(I b).1 B j
   exact ⟨b,a,δ,by rw [Cq];exact ha,z⟩
  ·rintro ⟨b,B,δ,j,z⟩
   rw [Cq]at j
   obtain ⟨a,ha,_⟩:=(I b).2 B j
   exact ⟨b,a,δ,by rw [Cq];exact ha,z⟩
 have x:∀{l:List (Option Block)} {b:Nat} {B:Block},(l[b]?).join=some B->l[b]?=some (some B):=fun {l b B} h=>by
  cases e:l[b]? with
  |none=>rw [e]at h;cases h
  |some o=>rw [e]at h;have h:o=some B:=h;rw [h]
 have C:∀r,AF μ' (Ct post' (empty 0)) r->AF μ' (Ct post (empty 0)) r:=fun r ⟨b,B,δ,j,z⟩=>by
  rw [Dr]at j
  obtain ⟨a,ha,_⟩:=(H b).2 B (x j)
  exact ⟨b,a,δ,by rw [Dr,ha];rfl,z⟩
 have O:AD ρ μ' (Ct post' (empty 0)) w':=by
  refine v.rel.over (by rw [D0,D0,L]) rfl (by rw [(C0 post' (empty 0)).2.1];exact Ao.AB.none _) fun b B hB=>?_
  rw [Dr]at hB
  obtain ⟨a,ha,hs⟩:=(H b).2 B (x hB)
  exact ⟨a,by rw [Dr,ha];rfl,fun o δ=>(EG hs).1⟩
 refine ⟨v.le,O,v.size,fun r N J=>?_,v.os,v.output,?_,fun b hb=>v.old b ?_,fun k o P=>?_,?_⟩
 ·obtain ⟨j,z⟩:=v.kept r N fun e=>J ((A r).1 e)
  exact ⟨j,fun e=>z (C r e)⟩
 ·have:=v.next
  rw [BR,D0]at this⊢
  show pre'.length<=post'.length
  omega
 ·rw [BR]at hb⊢
  show b<pre.length
  have hb:b<pre'.length:=hb
  omega
 ·rcases v.icy k o P with q|q|q
  ·exact .inl q
  ·exact .inr (.inl ((A k).1 q))
  ·exact .inr (.inr q)
 ·rw [(C0 post' (empty 0)).2.1,(BU pre' (empty 0)).2.1]
theorem GR {μ':As} (Q:Im τ pre=some pre') (M:Il τ post=some post') (v:Av ρ μ (AS pre' (empty 0)) w μ' (Ct post' (empty 0)) w'):Av (ρ.sub τ) μ (AS pre (empty 0)) w μ' (Ct post (empty 0)) w':=by
 obtain ⟨R,I⟩:=FA Q
 obtain ⟨L,H⟩:=HP M
 have A:∀r,AF μ (AS pre' (empty 0)) r↔AF μ (AS pre (empty 0)) r:=fun r=>by
  constructor
  ·rintro ⟨b,B,δ,j,z⟩
   rw [Cq]at j
   obtain ⟨a,ha,_⟩:=(I b).2 B j
   exact ⟨b,a,δ,by rw [Cq];exact ha,z⟩
  ·rintro ⟨b,B,δ,j,z⟩
   rw [Cq]at j
   obtain ⟨a,ha,_⟩:=(I b).1 B j
   exact ⟨b,a,δ,by rw [Cq];exact ha,z⟩
 have x:∀{l:List (Option Block)} {b:Nat} {B:Block},(l[b]?).join=some B->l[b]?=some (some B):=fun {l b B} h=>by
  cases e:l[b]? with
  |none=>rw [e]at h;cases h
  |some o=>rw [e]at h;have h:o=some B:=h;rw [h]
 have C:∀r,AF μ' (Ct post (empty 0)) r->AF μ' (Ct post' (empty 0)) r:=fun r ⟨b,B,δ,j,z⟩=>by
  rw [Dr]at j
  obtain ⟨a,ha,_⟩:=(H b).1 B (x j)
  exact ⟨b,a,δ,by rw [Dr,ha];rfl,z⟩
 have O:AD (ρ.sub τ) μ' (Ct post (empty 0)) w':=by
  refine v.rel.over (by rw [D0,D0,L]) rfl (by rw [(C0 post (empty 0)).2.1];exact Ao.AB.none _) fun b B hB=>?_
  rw [Dr]at hB
  obtain ⟨a,ha,hs⟩:=(H b).1 B (x hB)
  exact ⟨a,by rw [Dr,ha];rfl,fun o δ=>(EG hs).2⟩
 refine ⟨v.le,O,v.size,fun r N J=>?_,v.os,v.output,?_,fun b hb=>v.old b ?_,fun k o P=>?_,?_⟩
 ·obtain ⟨j,z⟩:=v.kept r N fun e=>J ((A r).1 e)
  exact ⟨j,fun e=>z (C r e)⟩
 ·have:=v.next
  rw [BR,D0]at this⊢
  show pre.length<=post.length
  have this:pre'.length<=post'.length:=this
  omega
 ·rw [BR]at hb⊢
  show b<pre'.length
  have hb:b<pre.length:=hb
  omega
 ·rcases v.icy k o P with q|q|q
  ·exact .inl q
  ·exact .inr (.inl ((A k).1 q))
  ·exact .inr (.inr q)
 ·rw [(C0 post (empty 0)).2.1,(BU pre (empty 0)).2.1]
theorem Holds.sub {P:Program} {g:FuncId} {x y:By} (hs:x.sub τ=some y) (v:Holds P (ρ.sub τ) g x):Holds P ρ g y:=by
 unfold By.sub at hs
 split at hs
 case h_2=>cases hs
 rename_i args pre res post J z I C
 simp only [oI]at hs
 subst hs
 refine ⟨v.1,fun μ w j H A=>(v.2 μ w j (LO z H) ((F9 J).2 A)).mono fun e w' q=>?_⟩
 obtain ⟨μ',B,q⟩:=q
 refine ⟨μ',JW z C B,?_⟩
 cases e
 case returned u=>exact (GU I).1 (show Ah (ρ.sub τ) μ' x.res u from q)
 all_goals exact q.elim
theorem Holds.RJ {P:Program} {g:FuncId} {x y:By} (hs:x.sub τ=some y) (v:Holds P ρ g y):Holds P (ρ.sub τ) g x:=by
 unfold By.sub at hs
 split at hs
 case h_2=>cases hs
 rename_i args pre res post J z I C
 simp only [oI]at hs
 subst hs
 refine ⟨v.1,fun μ w j H A=>(v.2 μ w j (Jc z H) ((F9 J).1 A)).mono fun e w' q=>?_⟩
 obtain ⟨μ',B,q⟩:=q
 refine ⟨μ',GR z C B,?_⟩
 cases e
 case returned u=>exact (GU I).2 (show Ah ρ μ' res u from q)
 all_goals exact q.elim
def LP (τ:CD):List (Nat×Ab)->Option (List (Nat×Ab))
 |[]=>some []
 |v::r=>match v.2.RQ τ,LP τ r with
  |some a,some r=>some ((v.1,a)::r)
  |_,_=>none
def Z7 (τ:CD) (p:List (FuncId×List Ab)):Option (List (FuncId×List Ab)):=
 match p with
 |[]=>some []
 |[p]=>(O3 τ p.2).map fun l=>[(p.1,l)]
 |_=>none
theorem HQ {l r:List (FuncId×List Ab)} (h:Z7 τ l=some r) {ds:List Deferred}:C1 (ρ.sub τ) μ l ds↔C1 ρ μ r ds:=by
 unfold Z7 at h
 split at h
 ·simp only [oI]at h
  subst h
  exact Iff.rfl
 ·obtain ⟨l,hl,rfl⟩:=mS h
  constructor
  ·rintro ⟨c,rest,e1,⟨cap,e2,e3⟩,e4⟩
   exact ⟨c,rest,e1,⟨cap,e2,(F9 hl).1 e3⟩,e4⟩
  ·rintro ⟨c,rest,e1,⟨cap,e2,e3⟩,e4⟩
   exact ⟨c,rest,e1,⟨cap,e2,(F9 hl).2 e3⟩,e4⟩
 ·cases h
def B5.sub (τ:CD) (k:B5):Option B5:=
 match LP τ k.Xe,Im τ k.pre,LP τ k.NR,Il τ k.post,Z7 τ k.df with
 |some Xe,some pre,some NR,some post,some df=>some ⟨k.id,Xe,pre,NR,post,df,k.out⟩
 |_,_,_,_,_=>none
theorem O4:∀{l j:List (Nat×Ab)} {t t':Tr Ab},LP τ l=some j->(∀n,match t.get n with|some p=>∃a,t'.get n=some a/\p.RQ τ=some a|none=>t'.get n=none)->
  ∀n,match (O0 l t).get n with|some p=>∃a,(O0 j t').get n=some a/\p.RQ τ=some a|none=>(O0 j t').get n=none
 |[],j,t,t',h,ht,n=>by
  simp only [LP,oI]at h
  subst h
  exact ht n
 |v::r,j,t,t',h,ht,n=>by
  simp only [LP]at h
  split at h
  ·rename_i a q ha x
   simp only [oI]at h
   subst h
   show match (O0 r (t.set v.1 (some v.2))).get n with|some p=>∃b,(O0 q (t'.set v.1 (some a))).get n=some b/\p.RQ τ=some b|none=>(O0 q (t'.set v.1 (some a))).get n=none
   refine O4 x (fun m=>?_) n
   rw [Tr.AY,Tr.AY]
   by_cases e:m=v.1
   ·rw [if_pos e,if_pos e];exact ⟨a,rfl,ha⟩
   ·rw [if_neg e,if_neg e];exact ht m
  ·cases h
theorem HO {l z:List (Nat×Ab)} (h:LP τ l=some z) {a:Act}:AP (ρ.sub τ) μ (O0 l .nil) a↔AP ρ μ (O0 z .nil) a:=by
 have hg:=O4 (τ:=τ) (t:=.nil) (t':=.nil) h fun n=>rfl
 constructor
 ·intro v t
  have j:=hg t
  have q:=v t
  cases e:(O0 l .nil).get t with
  |none=>rw [e]at j;simp only at j;rw [j];trivial
  |some p=>
   rw [e]at j q
   obtain ⟨b,k1,x⟩:=j
   rw [k1]
   exact (GU x).1 q
 ·intro v t
  have j:=hg t
  have q:=v t
  cases e:(O0 l .nil).get t with
  |none=>trivial
  |some p=>
   rw [e]at j
   obtain ⟨b,k1,x⟩:=j
   rw [k1]at q
   exact (GU x).2 q
theorem DS.sub {P:Program} {nt:Nat} {x:Code} {k B:B5} (hs:k.sub τ=some B) (j:DS P (ρ.sub τ) nt x k):DS P ρ nt x B:=by
 unfold B5.sub at hs
 split at hs
 case h_2=>cases hs
 rename_i Xe pre NR post df L q J A C
 simp only [oI]at hs
 subst hs
 obtain ⟨n,j⟩:=j
 exact ⟨n,fun μ a w Q F I=>j μ a w Q ⟨(HO L).2 F.tmps,F.size,LO q F.heap,(HQ C).2 F.defs⟩ fun μ' H w' v z=>I μ' H w' ⟨(HO J).1 v.tmps,v.size,(JW q A z).rel,(HQ C).1 v.defs⟩ (JW q A z)⟩
theorem DS.RJ {P:Program} {nt:Nat} {x:Code} {k B:B5} (hs:k.sub τ=some B) (j:DS P ρ nt x B):DS P (ρ.sub τ) nt x k:=by
 unfold B5.sub at hs
 split at hs
 case h_2=>cases hs
 rename_i Xe pre NR post df L q J A C
 simp only [oI]at hs
 subst hs
 obtain ⟨n,j⟩:=j
 exact ⟨n,fun μ a w Q F I=>j μ a w Q ⟨(HO L).1 F.tmps,F.size,Jc q F.heap,(HQ C).1 F.defs⟩ fun μ' H w' v z=>I μ' H w' ⟨(HO J).2 v.tmps,v.size,(GR q A z).rel,(HQ C).2 v.defs⟩ (GR q A z)⟩
end
noncomputable def J2 (n:Nat):Nat->List Nat:=Nat.rec (motive:=fun _=>Nat->List Nat) (fun _=>[]) (fun _ ih i=>i::ih (i+1)) n
theorem J1:∀(n k i:Nat),(J2 n k)[i]?=if i<n then some (k+i)else none
 |0,k,i=>by rw [if_neg (by omega)];show ([]:List Nat)[i]?=none;simp
 |n+1,k,i=>by
  show (k::J2 n (k+1))[i]?=_
  cases i with
  |zero=>simp
  |succ i=>
   rw [List.getElem?_cons_succ,J1 n (k+1) i]
   by_cases h:i<n
   ·rw [if_pos h,if_pos (by omega)];congr 1;omega
   ·rw [if_neg h,if_neg (by omega)]
noncomputable def Ab2 (Γ:Ao) (σ:List Nat) (p a:Ab):Bool:=
 match p,a with
 |.agg ps,.agg as=>Gq Γ σ ps as
 |.tuple ps,.tuple as=>K6 Γ σ ps as
 |p,a=>H6 Γ σ p a
noncomputable def K4 (Γ:Ao) (h:Al) (σ:List Nat) (l:List (Option Block)):Nat->Bool:=
 List.rec (motive:=fun _=>Nat->Bool) (fun _=>true) (fun B _ ih i=>(match B with|some B=>eqB Γ h σ i B|none=>true)&&ih (i+1)) l
noncomputable def Ww (k:Nat) (l:List Nat):Bool:=List.rec (motive:=fun _=>Bool) true (fun n _ ih=>Nat.ble k n&&ih) l
noncomputable def Aam (Γ:Ao) (x:By) (j:List Nat) (r:Option (NK×Al)):Bool:=
 match r with
 |some (.ret v,h)=>Nat.beq (Sy x.post) (Gy x.pre+Ii j)&&(I8 j&&(Ww (Gy x.pre) j&&(Ab2 Γ (J2 (Gy x.pre) 0++j) x.res v&&K4 Γ h (J2 (Gy x.pre) 0++j) x.post 0)))
 |_=>false
section
variable {ρ:Env} {μ μ':As} {σ:List Nat}
theorem XJ {Γ:Ao} (hΓ:Γ.AB ρ) (R:Ren μ' μ σ) {p a:Ab} (h:Ab2 Γ σ p a=true) {u:Value} (j:Ah ρ μ a u):Ah ρ μ' p u:=by
 unfold Ab2 at h
 split at h
 ·obtain ⟨x,e,q⟩:=j.agg
  subst e
  simp only [Ah]
  exact ⟨x,rfl,K3 hΓ R h q⟩
 ·obtain ⟨x,e,q⟩:=j.tuple
  subst e
  simp only [Ah]
  exact ⟨x,rfl,Gr hΓ R h q⟩
 ·exact (Ec hΓ R h j).1
theorem SP {Γ:Ao} {h:Al} (W:Option Block) (r:List (Option Block)) (k:Nat):K4 Γ h σ (W::r) k=((match W with|some B=>eqB Γ h σ k B|none=>true)&&K4 Γ h σ r (k+1)):=rfl
theorem Nk {Γ:Ao} {h:Al}:∀{l:List (Option Block)} {k:Nat},K4 Γ h σ l k=true->∀i B,l[i]?=some (some B)->∃b A,BY σ (k+i)=some b/\h.get b=some A/\Np Γ σ B A=true
 |[],_,_,i,vs,hv=>by simp at hv
 |W::r,k,hb,i,B,hv=>by
  rw [SP,aT]at hb
  cases i with
  |zero=>
   simp only [List.getElem?_cons_zero,oI]at hv
   subst hv
   have j:=hb.1
   simp only at j
   unfold eqB at j
   split at j
   ·rename_i b v
    split at j
    ·rename_i A hg
     exact ⟨b,A,v,hg,j⟩
    ·cases j
   ·cases j
  |succ i=>
   obtain ⟨b,A,j,x,q⟩:=Nk hb.2 i B (by simpa using hv)
   exact ⟨b,A,by rw [<-j];congr 1;omega,x,q⟩
theorem Kv {k:Nat}:∀{l:List Nat},Ww k l=true->∀n∈l,k<=n
 |[],_,n,hn=>by cases hn
 |m::r,h,n,hn=>by
  have h:(Nat.ble k m&&Ww k r)=true:=h
  rw [aT]at h
  rcases List.mem_cons.1 hn with rfl|hn
  ·exact AI.1 h.1
  ·exact Kv h.2 n hn
theorem shown {Γ:Ao} (hΓ:Γ.AB ρ) {pre:List Block} {post:List (Option Block)} {M:List Nat} {d:Nat} {h:Al} {w w':World} {I:As} (au:post.length=pre.length+M.length) (ai:M.Nodup) (X:∀n∈M,pre.length<=n) (N:K4 Γ h (J2 pre.length 0++M) post 0=true)
  (H:AD ρ μ (AS pre (empty 0)) w) (g1:Av ρ μ (AS pre (empty d Γ)) w I h w'):∃μ',Av ρ μ (AS pre (empty 0)) w μ' (Ct post (empty 0)) w'/\Ren μ' I (J2 pre.length 0++M):=by
 generalize hσ:J2 pre.length 0++M=σ at N⊢
 have aa:(J2 pre.length 0).length=pre.length:=by
  apply Nat.le_antisymm
  ·rcases Nat.lt_or_ge pre.length (J2 pre.length 0).length with hlt|hge
   ·have:=List.getElem?_eq_getElem hlt
    rw [J1,if_neg (by omega)]at this
    cases this
   ·exact hge
  ·rcases Nat.lt_or_ge (J2 pre.length 0).length pre.length with hlt|hge
   ·have:=List.getElem?_eq_none (Nat.le_refl (J2 pre.length 0).length)
    rw [J1,if_pos hlt]at this
    cases this
   ·exact hge
 have v:∀i b,BY σ i=some b↔(i<pre.length/\b=i)∨(pre.length<=i/\M[i-pre.length]?=some b):=fun i b=>by
  rw [<-hσ,Fi]
  by_cases V:i<pre.length
  ·rw [List.getElem?_append_left (by omega),J1,if_pos V]
   simp only [Nat.zero_add,oI]
   constructor
   ·intro e;exact .inl ⟨V,e.symm⟩
   ·rintro (⟨_,e⟩|⟨e,_⟩)
    ·exact e.symm
    ·omega
  ·rw [List.getElem?_append_right (by omega),aa]
   constructor
   ·intro e;exact .inr ⟨by omega,e⟩
   ·rintro (⟨e,_⟩|⟨_,e⟩)
    ·omega
    ·exact e
 have ae:∀i j b,BY σ i=some b->BY σ j=some b->i=j:=fun i j b V hj=>by
  rcases (v i b).1 V with ⟨h1,h2⟩|⟨h1,h2⟩<;>rcases (v j b).1 hj with ⟨h3,h4⟩|⟨h3,h4⟩
  ·omega
  ·have:=X b (List.mem_of_getElem? h4);omega
  ·have:=X b (List.mem_of_getElem? h2);omega
  ·obtain ⟨l1,e1⟩:=List.getElem?_eq_some_iff.1 h2
   obtain ⟨l2,e2⟩:=List.getElem?_eq_some_iff.1 h4
   have:=(List.getElem_inj ai).1 (e1.trans e2.symm)
   omega
 have Q:∀r,AF μ (AS pre (empty d Γ)) r↔AF μ (AS pre (empty 0)) r:=fun r=>by
  unfold AF
  simp only [Cq]
 let μ':As:=⟨fun i=>(BY σ i).bind I.spot,I.AQ⟩
 have R:Ren μ' I σ:=⟨fun i b e=>by show (BY σ i).bind I.spot=_;rw [e];rfl,rfl⟩
 have O:∀{l:List (Option Block)} {b:Nat} {B:Block},(l[b]?).join=some B->l[b]?=some (some B):=fun {l b B} h=>by
  cases e:l[b]? with
  |none=>rw [e]at h;cases h
  |some o=>rw [e]at h;have h:o=some B:=h;rw [h]
 have x:∀i B,(Ct post (empty 0)).get i=some B->∃b A,BY σ i=some b/\h.get b=some A/\Np Γ σ B A=true:=fun i B hB=>by
  rw [Dr]at hB
  obtain ⟨b,A,k1,J,k3⟩:=Nk N i B (O hB)
  exact ⟨b,A,by rw [<-k1,Nat.zero_add],J,k3⟩
 have P:∀b,b<pre.length->μ' b=μ b:=fun b hb=>by
  have e:BY σ b=some b:=(v b b).2 (.inl ⟨hb,rfl⟩)
  rw [R.spot b b e,g1.old b (by rw [BR];exact hb)]
 have L:∀r,AF μ' (Ct post (empty 0)) r->AF I h r:=fun r ⟨i,B,δ,C,z⟩=>by
  obtain ⟨b,A,k1,J,_⟩:=x i B C
  rw [R.spot i b k1]at z
  exact ⟨b,A,δ,J,z⟩
 refine ⟨μ',⟨⟨fun b y hy=>?_,g1.le.AQ⟩,⟨fun b hb=>?_,fun b B hB=>?_,fun b b' B B' r δ δ' hb ag hm Y=>?_,⟨fun k o U=>?_,fun k o U=>?_,?_⟩⟩,g1.size,fun r hr ho=>?_,g1.os,g1.output,?_,fun b hb=>?_,fun k o U=>?_,?_⟩,R⟩
 ·have hb:b<pre.length:=by
   rcases Nat.lt_or_ge b pre.length with hlt|hge
   ·exact hlt
   ·rw [H.fresh b (by rw [BR];exact hge)]at hy;cases hy
  rw [P b hb];exact hy
 ·rw [D0]at hb
  show (BY σ b).bind I.spot=none
  cases e:BY σ b with
  |none=>rfl
  |some c=>
   rcases (v b c).1 e with ⟨q,_⟩|⟨C,z⟩
   ·omega
   ·have:=(List.getElem?_eq_some_iff.1 z).1;omega
 ·obtain ⟨c,A,k1,J,k3⟩:=x b B hB
  obtain ⟨r,δ,m1,m2⟩:=g1.rel.blk c A J
  exact ⟨r,δ,by rw [R.spot b c k1];exact m1,Pm hΓ R k3 m2⟩
 ·obtain ⟨c,A,k1,J,_⟩:=x b B hb
  obtain ⟨c',A',Z,af,_⟩:=x b' B' ag
  rw [R.spot b c k1]at hm
  rw [R.spot b' c' Z]at Y
  have:=g1.rel.inj _ _ _ _ _ _ _ J af hm Y
  subst this
  exact ae b b' c k1 Z
 ·obtain ⟨C,z⟩:=g1.rel.AJ.AJ k o U
  exact ⟨C,fun q=>z (L k q)⟩
 ·obtain ⟨C,z⟩:=g1.rel.AJ.AQ k o U
  exact ⟨C,fun q=>z (L k q)⟩
 ·rw [(C0 post (empty 0)).2.1];exact Ao.AB.none ρ
 ·obtain ⟨C,z⟩:=g1.kept r hr fun q=>ho ((Q r).1 q)
  exact ⟨C,fun q=>z (L r q)⟩
 ·rw [BR,D0];omega
 ·rw [BR]at hb
  exact P b hb
 ·rcases g1.icy k o U with q|q|q
  ·exact .inl q
  ·exact .inr (.inl ((Q k).1 q))
  ·exact .inr (.inr q)
 ·rw [(C0 post (empty 0)).2.1,(BU pre (empty 0)).2.1]
theorem AD.withFacts {Γ:Ao} (hΓ:Γ.AB ρ) {pre:List Block} {d:Nat} {w:World} (H:AD ρ μ (AS pre (empty 0)) w):AD ρ μ (AS pre (empty d Γ)) w:=by
 refine H.over (by rw [BR,BR]) rfl (by rw [(BU pre (empty d Γ)).2.1];exact hΓ) fun b B hB=>?_
 rw [Cq]at hB
 exact ⟨B,by rw [Cq];exact hB,fun o δ h=>h⟩
theorem QJ {P:Program} {Γ:Ao} (hΓ:Γ.AB ρ) {g:FuncId} {call:Bg} (hc:Cv P ρ g call) {x:By} {d:Nat} {Q:List Nat} (j:Aam Γ x Q (call x.args (AS x.pre (empty d Γ)))=true):Holds P ρ g x:=by
 unfold Aam at j
 split at j
 case h_2=>cases j
 rename_i v h q
 rw [aT,aT,aT,aT,An,Gg,EH,Db]at j
 obtain ⟨C,L,J,I,A⟩:=j
 refine ⟨(hc x.args _ _ _ q).1,fun μ w z H M=>?_⟩
 refine ((hc x.args _ _ _ q).2 μ w z (H.withFacts hΓ) M).mono fun e w' B=>?_
 obtain ⟨N,g1,B⟩:=B
 obtain ⟨μ',O,R⟩:=shown hΓ C (EP L) (Kv J) A H g1
 refine ⟨μ',O,?_⟩
 cases e
 case returned u=>exact XJ hΓ R I (show Ah ρ N v u from B)
 all_goals exact B.elim
def Cl (P:Program) (ρ:Env) (g:FuncId) (k:B5):Prop:=∀fn c,P.funcs[g]?=some fn->fn.body=some c->∀y∈Dd 0 c,y.1=k.id->DS P ρ fn.ntmps y.2 k
theorem U0 {P:Program} {g:FuncId} {l:List B5} (h:∀k∈l,Cl P ρ g k):∀fn c,P.funcs[g]?=some fn->fn.body=some c->Du P ρ fn.ntmps l 0 c:=
 fun fn c hf hc y q k j e=>h k j fn c hf hc y q e.symm
noncomputable def Wz (c:IC):Nat->List (Nat×IC):=
 IC.rec (motive:=fun _=>Nat->List (Nat×IC)) (fun _=>[]) (fun _ _ _=>[]) (fun _ _ a b k=>a k++b k) (fun _ _ _ a b k=>a k++b k) (fun id _ b _=>b id) (fun b ih k=>(k,b)::ih k) (fun _ _=>[]) (fun _=>[]) c
theorem UB {P:Program} {pl:List Co} {nt:Nat}:∀{c:Code} {A:IC} {k:Nat},AO P pl nt c=some A->∀y∈Dd k c,∃C,AO P pl nt y.2=some C/\(y.1,C)∈Wz A k:=by
 intro c
 induction c with
 |seq a b iha ihb=>
  intro A k h y j
  simp only [AO]at h
  split at h
  ·rename_i B I z H
   simp only [oI]at h
   subst h
   rcases List.mem_append.1 j with j|j
   ·obtain ⟨x,k1,q⟩:=iha z y j
    exact ⟨x,k1,List.mem_append_left _ q⟩
   ·obtain ⟨x,k1,q⟩:=ihb H y j
    exact ⟨x,k1,List.mem_append_right _ q⟩
  ·cases h
 |cond v a b iha ihb=>
  intro A k h y j
  simp only [AO]at h
  split at h
  ·rename_i B I z H
   simp only [oI]at h
   subst h
   rcases List.mem_append.1 j with j|j
   ·obtain ⟨x,k1,q⟩:=iha z y j
    exact ⟨x,k1,List.mem_append_left _ q⟩
   ·obtain ⟨x,k1,q⟩:=ihb H y j
    exact ⟨x,k1,List.mem_append_right _ q⟩
  ·cases h
 |block id b ih=>
  intro A k h y j
  simp only [AO]at h
  obtain ⟨B,z,e⟩:=mS h
  subst e
  exact ih z y j
 |loop b ih=>
  intro A k h y j
  simp only [AO]at h
  obtain ⟨B,z,e⟩:=mS h
  subst e
  rcases List.mem_cons.1 j with rfl|j
  ·exact ⟨B,z,List.mem_cons_self⟩
  ·obtain ⟨x,k1,q⟩:=ih z y j
   exact ⟨x,k1,List.mem_cons_of_mem _ q⟩
 |_=>intro A k h y j;simp [Dd]at j
noncomputable def Wm (id:Nat) (l:List (Nat×IC)):List IC:=List.rec (motive:=fun _=>List IC) [] (fun x _ ih=>bif Nat.beq x.1 id then x.2::ih else ih) l
theorem Kk {id:Nat} {x:IC}:∀{l:List (Nat×IC)},(id,x)∈l->x∈Wm id l
 |[],h=>by cases h
 |y::r,h=>by
  show x∈(bif Nat.beq y.1 id then y.2::Wm id r else Wm id r)
  rw [AA]
  rcases List.mem_cons.1 h with rfl|h
  ·rw [if_pos rfl];exact List.mem_cons_self
  ·split
   ·exact List.mem_cons_of_mem _ (Kk h)
   ·exact Kk h
def UU (k:B5) (e:AX):Bool:=
 match e with
 |.exit i=>!k.out&&Nat.beq i k.id
 |.ret=>k.out
 |_=>false
theorem XH {k:B5} {e:AX} (h:UU k e=true):e=k.Nf:=by
 unfold UU at h
 unfold B5.Nf
 split at h
 ·rw [aT,An]at h
  obtain ⟨j,rfl⟩:=h
  cases hk:k.out<;>rw [hk]at j
  ·rfl
  ·cases j
 ·rw [h];rfl
 ·cases h
noncomputable def Uc (Γ:Ao) (k:B5) (j:List Nat) (r:Option (AX×Fr)):Bool:=
 match r with
 |some (e,f)=>UU k e&&(Adn Γ (J2 (Gy k.pre) 0++j) k.df f.df&&(Nat.beq (Sy k.post) (Gy k.pre+Ii j)&&(I8 j&&(Ww (Gy k.pre) j&&(WA Γ (J2 (Gy k.pre) 0++j) f.tm k.NR&&K4 Γ f.h (J2 (Gy k.pre) 0++j) k.post 0)))))
 |_=>false
noncomputable def QA (Γ:Ao) (call:Cm) (fuel d:Nat) (F:Ex) (k:B5):Option (AX×Fr):=
 match Wm k.id (Wz F.body 0)with
 |[b]=>iter (fun f=>It Γ k.id f Γ.loops) (fun f=>Fp Γ call fuel b k.id f) fuel ⟨O0 k.Xe .nil,AS k.pre (empty d Γ),k.df⟩
 |_=>none
theorem Oa {P:Program} {pl:List Co} {Γ:Ao} (hΓ:Γ.AB ρ) {call:Cm} (hc:B7 P ρ call) (aa:P.follows .mixedOrders=true) {DE:FuncId->Option Ex} (ht:Py P pl DE) {g:FuncId} {F:Ex} (hF:DE g=some F) (hl:∀k∈Γ.loops,Cl P ρ g k)
  {fuel d:Nat} {k:B5} {nw:List Nat} (j:Uc Γ k nw (QA Γ call fuel d F k)=true):Cl P ρ g k:=by
 intro fn c hf H y X B
 obtain ⟨ay,I,N,_⟩:=ht g F hF
 rw [hf]at I
 simp only [oI]at I
 subst I
 obtain ⟨c',C,af,_⟩:=DQ N
 rw [H]at C
 simp only [oI]at C
 subst C
 obtain ⟨ax,hx,A⟩:=UB af y X
 rw [B]at A
 have A:=Kk A
 unfold QA at j
 split at j
 case h_2=>cases j
 rename_i b hb
 rw [hb,List.mem_singleton]at A
 subst A
 unfold Uc at j
 split at j
 case h_2=>cases j
 rename_i i f aj
 rw [aT,aT,aT,aT,aT,aT,An,Gg,EH,Db]at j
 obtain ⟨ah,ag,ab,ak,ae,Z,O⟩:=j
 have ac:Du P ρ fn.ntmps Γ.loops k.id y.2:=fun z hz Y J e=>by
  refine hl Y J fn c hf H z ?_ e.symm
  have sub:∀(c:Code) (cur:Nat),y∈Dd cur c->z∈Dd cur c:=by
   intro c
   induction c with
   |seq a b iha ihb=>intro cur h;rcases List.mem_append.1 h with h|h;exact List.mem_append_left _ (iha _ h);exact List.mem_append_right _ (ihb _ h)
   |cond v a b iha ihb=>intro cur h;rcases List.mem_append.1 h with h|h;exact List.mem_append_left _ (iha _ h);exact List.mem_append_right _ (ihb _ h)
   |block id b ih=>intro cur h;exact ih _ h
   |loop b ih=>
    intro cur h
    rcases List.mem_cons.1 h with e|h
    ·subst e
     refine List.mem_cons_of_mem _ ?_
     have B:cur=k.id:=B
     rw [B]
     exact hz
    ·exact List.mem_cons_of_mem _ (ih _ h)
   |_=>intro cur h;simp [Dd]at h
  exact sub c 0 X
 obtain ⟨m,hm⟩:=EN (nt:=fn.ntmps) (x:=y.2) hΓ (fun Y J e=>hl Y J fn c hf H y X (by rw [B,e])) (fun ad F L=>Hy hΓ hc aa y.2 ac hx ad F L) fuel aj
 refine ⟨m,fun μ a w Q M hQ=>hm ⟨M.tmps,M.size,M.heap.withFacts hΓ,M.defs⟩ ?_⟩
 intro μ1 a' w' e V g1 U
 rw [XH ah]at U
 have U:=B5.Adm U
 subst U
 obtain ⟨μ',g',R⟩:=shown hΓ ab (EP ak) (Kv ae) O M.heap g1
 refine hQ μ' a' w' ⟨fun t=>?_,V.size,g'.rel,?_⟩ g'
 ·show Ah ρ μ' (Ep ((O0 k.NR .nil).get t)) _
  cases hg:(O0 k.NR .nil).get t with
  |none=>trivial
  |some v=>
   rcases P5 _ _ _ _ hg with q|q
   ·exact K7 hΓ R (K2 Z t v q) (V.tmps t)
   ·cases q
 ·exact SV hΓ R ag V.defs
theorem Cl.sub {P:Program} {τ:CD} {g:FuncId} {k j:B5} (hs:k.sub τ=some j) (v:Cl P (ρ.sub τ) g k):Cl P ρ g j:=fun fn c hf hc y x e=>by
 have q:j.id=k.id:=by
  unfold B5.sub at hs
  split at hs
  ·simp only [oI]at hs;subst hs;rfl
  ·cases hs
 exact DS.sub hs (v fn c hf hc y x (by rw [e,q]))
theorem Cl.RJ {P:Program} {τ:CD} {g:FuncId} {k j:B5} (hs:k.sub τ=some j) (v:Cl P ρ g j):Cl P (ρ.sub τ) g k:=fun fn c hf hc y x e=>by
 have q:j.id=k.id:=by
  unfold B5.sub at hs
  split at hs
  ·simp only [oI]at hs;subst hs;rfl
  ·cases hs
 exact DS.RJ hs (v fn c hf hc y x (by rw [e,q]))
end
end
section
structure CH where
 n:Nat:=0
 s:Nat:=0
 l:Nat:=0
 m:Nat:=0
def CH.add (a b:CH):CH:=⟨a.n+b.n,a.s+b.s,a.l+b.l,a.m+b.m⟩
def CH.eq (a b:CH):Bool:=Nat.beq a.n b.n&&(Nat.beq a.s b.s&&(Nat.beq a.l b.l&&Nat.beq a.m b.m))
structure Aj where
 n:List Int:=[]
 s:List (List Nat):=[]
 l:List (List (List PV)):=[]
 m:List (List (List Nat×List PV)):=[]
def Aj.app (a b:Aj):Aj:=⟨a.n++b.n,a.s++b.s,a.l++b.l,a.m++b.m⟩
def Aj.cnt (v:Aj):CH:=⟨v.n.length,v.s.length,v.l.length,v.m.length⟩
def Aj.env (T:Nat->Option Obj) (v:Aj):Env:=Env.of T v.n v.s v.l v.m
def Aj.e (v:Aj):Env:=v.env fun _=>none
def Nb {α:Type} (d:α):Nat->Nat->List α->List α
 |0,_,_=>[]
 |k+1,i,l=>l.getD i d::Nb d k (i+1) l
def Aj.fit (c:CH) (v:Aj):Aj:=⟨Nb 0 c.n 0 v.n,Nb [] c.s 0 v.s,Nb [] c.l 0 v.l,Nb [] c.m 0 v.m⟩
def CD.vals (τ:CD) (ρ:Env):Aj:=⟨τ.n.map (·.den ρ),τ.s.map (Bl ρ),τ.l.map ρ.lst,τ.m.map ρ.map⟩
def CD.cnt (τ:CD):CH:=⟨τ.n.length,τ.s.length,τ.l.length,τ.m.length⟩
def CD.app (a b:CD):CD:=⟨a.n++b.n,a.s++b.s,a.l++b.l,a.m++b.m⟩
def MY {α:Type} (f:Nat->α):Nat->Nat->List α
 |0,_=>[]
 |k+1,i=>f i::MY f k (i+1)
def LG (c d:CH):CD:=⟨MY .var d.n c.n,MY .svar d.s c.s,MY id d.l c.l,MY id d.m c.m⟩
inductive CK where
 |int (k:IntKind)
 |bool
 |str
 |list (es:Nat)
 |nilp
def CK.cnt:CK->CH
 |.int _=>{n:=1}
 |.bool=>{n:=1}
 |.str=>{s:=1}
 |.list _=>{n:=1,l:=1}
 |.nilp=>{}
def b01 (b:Bool):Int:=bif b then 1 else 0
def CK.read:CK->PV->Option Aj
 |.int k,.int k' n=>bif U8 k k' then some {n:=[n]}else none
 |.bool,.bool b=>some {n:=[b01 b]}
 |.str,.str s=>some {s:=[s]}
 |.list es,.list es' l=>bif Nat.beq es es' then some {n:=[(l.length:Int)],l:=[l]}else none
 |.nilp,.nilp=>some {}
 |_,_=>none
def CK.val (c:CH):CK->Ab
 |.int k=>.int k (.var c.n)
 |.bool=>.bool (.cmp .neq (.var c.n) (.lit 0))
 |.str=>.svar c.s
 |.list es=>.lst false c.l es (.var c.n)
 |.nilp=>.nilPtr
def HB:List CK->CH
 |[]=>{}
 |k::r=>k.cnt.add (HB r)
def CJ:List CK->List PV->Option Aj
 |[],[]=>some {}
 |k::sh,p::ps=>match k.read p with
  |some a=>(match CJ sh ps with|some b=>some (a.app b) |none=>none)
  |none=>none
 |_,_=>none
def N1:List CK->CH->List Ab
 |[],_=>[]
 |k::r,c=>k.val c::N1 r (c.add k.cnt)
def MK:List CK->CH->List (Nat×ST)
 |[],_=>[]
 |k::r,c=>match k with
  |.list _=>(c.l,.var c.n)::MK r (c.add k.cnt)
  |_=>MK r (c.add k.cnt)
def GH (ρ:Env):CK->Ab->Option PV
 |.int k,.int k' t=>bif U8 k k' then some (.int k (t.den ρ))else none
 |.bool,.bool b=>some (.bool (b.den ρ))
 |.str,.str s=>some (.str s)
 |.str,.svar i=>some (.str (ρ.str i))
 |.list es,.nilSlice=>some (.list es [])
 |.list es,.lst _ i es' _=>bif Nat.beq es es' then some (.list es (ρ.lst i))else none
 |.nilp,.nilPtr=>some .nilp
 |_,_=>none
def Cu (ρ:Env):List CK->List Ab->Option (List PV)
 |[],[]=>some []
 |k::sh,a::as=>match GH ρ k a with
  |some p=>(match Cu ρ sh as with|some ps=>some (p::ps) |none=>none)
  |none=>none
 |_,_=>none
def GF (ρ:Env) (j:List CK):List (List Ab)->Option (List (List PV))
 |[]=>some []
 |a::as=>match Cu ρ j a with
  |some p=>(match GF ρ j as with|some ps=>some (p::ps) |none=>none)
  |none=>none
def Dn (ρ:Env) (j:List CK):AE->Option (List (List PV))
 |.els es=>GF ρ j es
 |.all i=>some (ρ.lst i)
 |.take i n=>if 0<=n.den ρ/\n.den ρ<=((ρ.lst i).length:Int)then some ((ρ.lst i).take (n.den ρ).toNat)else none
 |.drop i n=>if 0<=n.den ρ/\n.den ρ<=((ρ.lst i).length:Int)then some ((ρ.lst i).drop (n.den ρ).toNat)else none
def Cy (ρ:Env) (j:List CK):List AE->Option (List (List PV))
 |[]=>some []
 |p::ps=>match Dn ρ j p with
  |some a=>(match Cy ρ j ps with|some b=>some (a++b) |none=>none)
  |none=>none
def C6 (ρ:Env) (j:List CK):List (Ab×List Ab)->Option (List (List Nat×List PV))
 |[]=>some []
 |x::r=>match Cu ρ j x.2 with
  |some p=>(match C6 ρ j r with|some ps=>some ((Bl ρ x.1,p)::ps) |none=>none)
  |none=>none
def LN (op:BinOp) (x y:Int):Prop:=
 match op with
 |.eql=>x=y
 |.neq=>x≠y
 |.lss=>x<y
 |.leq=>x<=y
 |.gtr=>x>y
 |_=>x>=y
instance AhI (op:BinOp) (x y:Int):Decidable (LN op x y):=
 match op with
 |.eql=>inferInstanceAs (Decidable (x=y))
 |.neq=>inferInstanceAs (Decidable (x≠y))
 |.lss=>inferInstanceAs (Decidable (x<y))
 |.leq=>inferInstanceAs (Decidable (x<=y))
 |.gtr=>inferInstanceAs (Decidable (x>y))
 |.geq|.add|.sub|.mul|.quo|.rem|.and|.or|.xor|.shl|.shr|.andNot=>inferInstanceAs (Decidable (x>=y))
inductive Tree where
 |fail
 |leaf (alt:Nat) (nw:List Nat) (τ:CD)
 |test (op:BinOp) (a b:ST) (t e:Tree)
 |BI (i:Nat) (n:Int) (t e:Tree)
 |sets (i:Nat) (s:List Nat) (t e:Tree)
 |elem (l:Nat) (j:ST) (sh:List CK) (k:Tree)
 |Br (l:Nat) (t:ST) (k:Tree)
 |BQ (s lo hi:Nat) (k:Tree)
 |FC (x y:Ab) (t e:Tree)
 |cat (x y:Ab) (k:Tree)
 |JH (ps:List AE) (sh:List CK) (k:Tree)
 |look (m:Nat) (key:Ab) (sh:List CK) (t e:Tree)
 |up (m:Nat) (key:Ab) (cs:List Ab) (sh:List CK) (k:Tree)
 |Kr (es:List (Ab×List Ab)) (sh:List CK) (k:Tree)
 |bump (t:ST) (n:Nat) (k:Tree)
 |Oh (z:Nat×Nat×Nat×Nat×Nat) (k:Tree)
 |call (c alt:Nat) (τ:CD) (o:CH) (k e:Tree)
abbrev Out:=Nat×Aj
abbrev V0:=Nat->Aj->Option Out
def Ns (l:List (List PV)) (j:Int) (q:List CK) (k:Aj->Option Out):Option Out:=
 if 0<=j then (match l[j.toNat]? with|some ps=>(match CJ q ps with|some w=>k (w.fit (HB q)) |none=>none) |none=>none)else none
def IA (m:List (List Nat×List PV)) (s:List Nat) (j:List CK) (k:Aj->Option Out) (e:Option Out):Option Out:=
 match AR m s with
 |some ps=>(match CJ j ps with|some w=>k (w.fit (HB j)) |none=>none)
 |none=>e
def Lm (r:Option Out) (j:Nat) (o:CH) (k:Aj->Option Out) (e:Option Out):Option Out:=
 match r with
 |some w=>if w.1=j then k (w.2.fit o)else e
 |none=>none
def GY {α:Type} (r:Option α) (k:α->Option Out):Option Out:=
 match r with
 |some a=>k a
 |none=>none
def Tree.eval (M:V0):Tree->Aj->Option Out
 |.fail,_=>none
 |.leaf alt _ τ,v=>some (alt,τ.vals v.e)
 |.test op a b t e,v=>if LN op (a.den v.e) (b.den v.e)then t.eval M v else e.eval M v
 |.BI i n t e,v=>if v.n.getD i 0=n then t.eval M v else e.eval M v
 |.sets i s t e,v=>if v.s.getD i []=s then t.eval M v else e.eval M v
 |.elem l j sh k,v=>Ns (v.l.getD l []) (j.den v.e) sh fun w=>k.eval M (v.app w)
 |.Br l t k,v=>if t.den v.e=((v.l.getD l []).length:Int)then k.eval M v else none
 |.BQ s lo hi k,v=>if lo<=(v.s.getD s []).length/\(v.s.getD s []).length<=hi then k.eval M (v.app {n:=[((v.s.getD s []).length:Int)]})else none
 |.FC x y t e,v=>if Bl v.e x=Bl v.e y then t.eval M v else e.eval M v
 |.cat x y k,v=>if (Bl v.e x).length+(Bl v.e y).length<=1048576 then k.eval M (v.app {s:=[Bl v.e x++Bl v.e y]})else none
 |.JH ps sh k,v=>GY (Cy v.e sh ps) fun l=>k.eval M (v.app {n:=[(l.length:Int)],l:=[l]})
 |.look m key sh t e,v=>IA (v.m.getD m []) (Bl v.e key) sh (fun w=>t.eval M (v.app w)) (e.eval M v)
 |.up m key cs sh k,v=>GY (Cu v.e sh cs) fun ps=>k.eval M (v.app {m:=[Bw (v.m.getD m []) (Bl v.e key) ps]})
 |.Kr es sh k,v=>GY (C6 v.e sh es) fun l=>k.eval M (v.app {m:=[l]})
 |.bump t n k,v=>if t.den v.e+n<=1048576 then k.eval M (v.app {n:=[t.den v.e+n]})else none
 |.Oh _ k,v=>k.eval M v
 |.call c alt τ o k e,v=>Lm (M c (τ.vals v.e)) alt o (fun w=>k.eval M (v.app w)) (e.eval M v)
def mir (trees:Nat->Tree):Nat->V0
 |0,_,_=>none
 |N+1,c,v=>(trees c).eval (mir trees N) v
def ST.Cd (n:Nat):ST->Bool
 |.lit _=>true
 |.var i=>Nat.blt i n
 |.bin _ _ a b=>a.Cd n&&b.Cd n
 |.conv _ a=>a.Cd n
def SB.Cd (n:Nat):SB->Bool
 |.lit _=>true
 |.cmp _ a b=>a.Cd n&&b.Cd n
 |.no a=>a.Cd n
def Ab.Cd (c:CH):Ab->Bool
 |.bool b=>b.Cd c.n
 |.int _ t=>t.Cd c.n
 |.str _=>true
 |.svar i=>Nat.blt i c.s
 |.lst f i _ t=>!f&&(Nat.blt i c.l&&t.Cd c.n)
 |.nilPtr=>true
 |.nilSlice=>true
 |_=>false
def Ca {α:Type} (p:α->Bool):List α->Bool
 |[]=>true
 |a::r=>p a&&Ca p r
def AE.Cd (c:CH):AE->Bool
 |.els es=>Ca (Ca (Ab.Cd c)) es
 |.all i=>Nat.blt i c.l
 |.take i n=>Nat.blt i c.l&&n.Cd c.n
 |.drop i n=>Nat.blt i c.l&&n.Cd c.n
def LU (c:CH) (a:Ab):Bool:=a.isStr&&a.Cd c
def CD.Cd (c:CH) (τ:CD):Bool:=Ca (ST.Cd c.n) τ.n&&(Ca (LU c) τ.s&&(Ca (fun i=>Nat.blt i c.l) τ.l&&Ca (fun i=>Nat.blt i c.m) τ.m))
def Tree.Cd:Tree->CH->Bool
 |.fail,_=>true
 |.leaf _ _ τ,c=>τ.Cd c
 |.test _ a b t e,c=>a.Cd c.n&&(b.Cd c.n&&(t.Cd c&&e.Cd c))
 |.BI i _ t e,c=>Nat.blt i c.n&&(t.Cd c&&e.Cd c)
 |.sets i _ t e,c=>Nat.blt i c.s&&(t.Cd c&&e.Cd c)
 |.elem l j sh k,c=>Nat.blt l c.l&&(j.Cd c.n&&k.Cd (c.add (HB sh)))
 |.Br l t k,c=>Nat.blt l c.l&&(t.Cd c.n&&k.Cd c)
 |.BQ s _ _ k,c=>Nat.blt s c.s&&k.Cd (c.add {n:=1})
 |.FC x y t e,c=>LU c x&&(LU c y&&(t.Cd c&&e.Cd c))
 |.cat x y k,c=>LU c x&&(LU c y&&k.Cd (c.add {s:=1}))
 |.JH ps _ k,c=>Ca (AE.Cd c) ps&&k.Cd (c.add {n:=1,l:=1})
 |.look m key sh t e,c=>Nat.blt m c.m&&(LU c key&&(t.Cd (c.add (HB sh))&&e.Cd c))
 |.up m key cs _ k,c=>Nat.blt m c.m&&(LU c key&&(Ca (Ab.Cd c) cs&&k.Cd (c.add {m:=1})))
 |.Kr es _ k,c=>Ca (fun x:Ab×List Ab=>LU c x.1&&Ca (Ab.Cd c) x.2) es&&k.Cd (c.add {m:=1})
 |.bump t _ k,c=>t.Cd c.n&&k.Cd (c.add {n:=1})
 |.Oh _ k,c=>k.Cd c
 |.call _ _ τ o k e,c=>τ.Cd c&&(k.Cd (c.add o)&&e.Cd c)
def At (vf:Aj) (c:CH) (w:Aj):Prop:=∃v r:Aj,v.cnt=c/\vf=(v.app w).app r
def Tree.sem (M:V0) (vf:Aj):Tree->CH->Out->Prop
 |.fail,_,_=>False
 |.leaf alt _ τ,_,o=>o=(alt,τ.vals vf.e)
 |.test op a b t e,c,o=>(LN op (a.den vf.e) (b.den vf.e)/\t.sem M vf c o)∨(¬LN op (a.den vf.e) (b.den vf.e)/\e.sem M vf c o)
 |.BI i n t e,c,o=>(vf.n.getD i 0=n/\t.sem M vf c o)∨(vf.n.getD i 0≠n/\e.sem M vf c o)
 |.sets i s t e,c,o=>(vf.s.getD i []=s/\t.sem M vf c o)∨(vf.s.getD i []≠s/\e.sem M vf c o)
 |.elem l j sh k,c,o=>0<=j.den vf.e/\∃ps w,(vf.l.getD l [])[(j.den vf.e).toNat]?=some ps/\CJ sh ps=some w/\At vf c w/\k.sem M vf (c.add (HB sh)) o
 |.Br l t k,c,o=>t.den vf.e=((vf.l.getD l []).length:Int)/\k.sem M vf c o
 |.BQ s lo hi k,c,o=>lo<=(vf.s.getD s []).length/\(vf.s.getD s []).length<=hi/\At vf c {n:=[((vf.s.getD s []).length:Int)]}/\k.sem M vf (c.add {n:=1}) o
 |.FC x y t e,c,o=>(Bl vf.e x=Bl vf.e y/\t.sem M vf c o)∨(Bl vf.e x≠Bl vf.e y/\e.sem M vf c o)
 |.cat x y k,c,o=>(Bl vf.e x).length+(Bl vf.e y).length<=1048576/\At vf c {s:=[Bl vf.e x++Bl vf.e y]}/\k.sem M vf (c.add {s:=1}) o
 |.JH ps sh k,c,o=>∃l,Cy vf.e sh ps=some l/\At vf c {n:=[(l.length:Int)],l:=[l]}/\k.sem M vf (c.add {n:=1,l:=1}) o
 |.look m key sh t e,c,o=>(∃ps w,AR (vf.m.getD m []) (Bl vf.e key)=some ps/\CJ sh ps=some w/\At vf c w/\t.sem M vf (c.add (HB sh)) o)∨(AR (vf.m.getD m []) (Bl vf.e key)=none/\e.sem M vf c o)
 |.up m key cs sh k,c,o=>∃ps,Cu vf.e sh cs=some ps/\At vf c {m:=[Bw (vf.m.getD m []) (Bl vf.e key) ps]}/\k.sem M vf (c.add {m:=1}) o
 |.Kr es sh k,c,o=>∃l,C6 vf.e sh es=some l/\At vf c {m:=[l]}/\k.sem M vf (c.add {m:=1}) o
 |.bump t n k,c,o=>t.den vf.e+n<=1048576/\At vf c {n:=[t.den vf.e+n]}/\k.sem M vf (c.add {n:=1}) o
 |.Oh _ k,c,o=>k.sem M vf c o
 |.call g alt τ u k e,c,o=>(∃w,M g (τ.vals vf.e)=some (alt,w)/\At vf c (w.fit u)/\k.sem M vf (c.add u) o)∨e.sem M vf c o
end
section
theorem Aj.ext' {a b:Aj} (v:a.n=b.n) (x:a.s=b.s) (q:a.l=b.l) (j:a.m=b.m):a=b:=by
 cases a;cases b;simp only at v x q j;subst v x q j;rfl
theorem Aj.Be (a b c:Aj):(a.app b).app c=a.app (b.app c):=by
 apply Aj.ext'<;>simp [Aj.app,List.append_assoc]
theorem Aj.Ad4 (a:Aj):a.app {}=a:=by
 apply Aj.ext'<;>simp [Aj.app]
theorem Aj.Ci (a b:Aj):(a.app b).cnt=a.cnt.add b.cnt:=by
 simp [Aj.app,Aj.cnt,CH.add]
theorem Hu {α:Type} (d:α):∀(k i:Nat) (l:List α),(Nb d k i l).length=k
 |0,_,_=>rfl
 |k+1,i,l=>by simp [Nb,Hu d k (i+1) l]
theorem Aj.Adt (c:CH) (v:Aj):(v.fit c).cnt=c:=by
 simp [Aj.fit,Aj.cnt,Hu]
theorem SL {α:Type} (d:α):∀(k i j:Nat) (l:List α),j<k->(Nb d k i l)[j]?=some (l.getD (i+j) d)
 |0,_,_,_,h=>by omega
 |k+1,i,j,l,h=>by
  cases j with
  |zero=>simp [Nb]
  |succ j=>
   show (Nb d k (i+1) l)[j]?=_
   rw [SL d k (i+1) j l (by omega)]
   congr 2;omega
theorem XG {α:Type} (d:α) (l:List α):Nb d l.length 0 l=l:=by
 apply List.ext_getElem?
 intro j
 by_cases h:j<l.length
 ·rw [SL d _ _ _ _ h,List.getElem?_eq_getElem h]
  simp [List.getD_eq_getElem?_getD,List.getElem?_eq_getElem h]
 ·rw [List.getElem?_eq_none (by rw [Hu];omega),List.getElem?_eq_none (by omega)]
theorem Aj.Na {v:Aj} {c:CH} (h:v.cnt=c):v.fit c=v:=by
 subst h
 apply Aj.ext'<;>exact XG _ _
theorem CH.eq_iff {a b:CH}:a.eq b=true↔a=b:=by
 cases a;cases b
 simp [CH.eq]
theorem CK.Sr {k:CK} {p:PV} {w:Aj} (h:k.read p=some w):w.cnt=k.cnt:=by
 cases k<;>cases p<;>simp only [CK.read,reduceCtorEq,oI]at h
 case int.int=>
  obtain ⟨_,h⟩:=Ap h
  simp only [oI]at h
  subst h;rfl
 case list.list=>
  obtain ⟨_,h⟩:=Ap h
  simp only [oI]at h
  subst h;rfl
 all_goals subst h;rfl
theorem FK:∀{j:List CK} {ps:List PV} {w:Aj},CJ j ps=some w->w.cnt=HB j
 |[],[],w,h=>by simp only [CJ,oI]at h;subst h;rfl
 |k::j,p::ps,w,h=>by
  simp only [CJ]at h
  split at h
  ·rename_i a ha
   split at h
   ·rename_i b hb
    simp only [oI]at h
    subst h
    rw [Aj.Ci,CK.Sr ha,FK hb];rfl
   ·cases h
  ·cases h
 |[],_::_,w,h=>by simp [CJ]at h
 |_::_,[],w,h=>by simp [CJ]at h
section
variable {v r:Aj}
theorem P4 {i:Nat} (h:Nat.blt i v.cnt.n=true):(v.app r).n.getD i 0=v.n.getD i 0:=by
 have h:i<v.n.length:=by rwa [Nat.blt_eq]at h
 simp only [Aj.app,List.getD_eq_getElem?_getD,List.getElem?_append_left h]
theorem Je {i:Nat} (h:Nat.blt i v.cnt.s=true):(v.app r).s.getD i []=v.s.getD i []:=by
 have h:i<v.s.length:=by rwa [Nat.blt_eq]at h
 simp only [Aj.app,List.getD_eq_getElem?_getD,List.getElem?_append_left h]
theorem Gi {i:Nat} (h:Nat.blt i v.cnt.l=true):(v.app r).l.getD i []=v.l.getD i []:=by
 have h:i<v.l.length:=by rwa [Nat.blt_eq]at h
 simp only [Aj.app,List.getD_eq_getElem?_getD,List.getElem?_append_left h]
theorem L5 {i:Nat} (h:Nat.blt i v.cnt.m=true):(v.app r).m.getD i []=v.m.getD i []:=by
 have h:i<v.m.length:=by rwa [Nat.blt_eq]at h
 simp only [Aj.app,List.getD_eq_getElem?_getD,List.getElem?_append_left h]
theorem ST.BO:∀{t:ST},t.Cd v.cnt.n=true->t.den (v.app r).e=t.den v.e
 |.lit _,_=>rfl
 |.var i,h=>P4 h
 |.bin _ _ a b,h=>by
  simp only [ST.Cd,aT]at h
  simp only [ST.den,ST.BO h.1,ST.BO h.2]
 |.conv _ a,h=>by
  simp only [ST.Cd]at h
  simp only [ST.den,ST.BO h]
theorem SB.BO:∀{t:SB},t.Cd v.cnt.n=true->t.den (v.app r).e=t.den v.e
 |.lit _,_=>rfl
 |.cmp _ a b,h=>by
  simp only [SB.Cd,aT]at h
  simp only [SB.den,ST.BO h.1,ST.BO h.2]
 |.no a,h=>by
  simp only [SB.Cd]at h
  simp only [SB.den,SB.BO h]
theorem CP {a:Ab} (h:LU v.cnt a=true):Bl (v.app r).e a=Bl v.e a:=by
 simp only [LU,aT]at h
 cases a<;>simp only [Ab.isStr,Bool.false_eq_true,false_and]at h
 case str=>rfl
 case svar i=>exact Je h.2
theorem XQ {k:CK} {a:Ab} (h:a.Cd v.cnt=true):GH (v.app r).e k a=GH v.e k a:=by
 cases k<;>cases a<;>simp only [Ab.Cd,Bool.false_eq_true]at h<;>try rfl
 case int.int=>simp only [GH,ST.BO h]
 case bool.bool=>simp only [GH,SB.BO h]
 case str.svar i=>simp only [GH];rw [show (v.app r).e.str i=v.e.str i from Je h]
 case list.lst es f i es' n=>
  simp only [aT]at h
  simp only [GH];rw [show (v.app r).e.lst i=v.e.lst i from Gi h.2.1]
theorem FW {α:Type} {p:α->Bool}:∀{l:List α},Ca p l=true->∀x∈l,p x=true
 |[],_,_,hx=>by cases hx
 |a::l,h,x,hx=>by
  simp only [Ca,aT]at h
  rcases List.mem_cons.1 hx with rfl|hx
  ·exact h.1
  ·exact FW h.2 x hx
theorem Gx:∀{j:List CK} {as:List Ab},Ca (Ab.Cd v.cnt) as=true->Cu (v.app r).e j as=Cu v.e j as
 |[],[],_=>rfl
 |[],_::_,_=>rfl
 |_::_,[],_=>rfl
 |k::j,a::as,h=>by
  simp only [Ca,aT]at h
  simp only [Cu,XQ h.1,Gx h.2]
theorem OF {j:List CK}:∀{as:List (List Ab)},Ca (Ca (Ab.Cd v.cnt)) as=true->GF (v.app r).e j as=GF v.e j as
 |[],_=>rfl
 |a::as,h=>by
  simp only [Ca,aT]at h
  simp only [GF,Gx h.1,OF h.2]
theorem Xv {j:List CK} {p:AE} (h:p.Cd v.cnt=true):Dn (v.app r).e j p=Dn v.e j p:=by
 cases p<;>simp only [AE.Cd,aT]at h
 case els es=>exact OF h
 case all i=>simp only [Dn];rw [show (v.app r).e.lst i=v.e.lst i from Gi h]
 case take i n=>simp only [Dn];rw [show (v.app r).e.lst i=v.e.lst i from Gi h.1,ST.BO h.2]
 case drop i n=>simp only [Dn];rw [show (v.app r).e.lst i=v.e.lst i from Gi h.1,ST.BO h.2]
theorem M6 {j:List CK}:∀{ps:List AE},Ca (AE.Cd v.cnt) ps=true->Cy (v.app r).e j ps=Cy v.e j ps
 |[],_=>rfl
 |p::ps,h=>by
  simp only [Ca,aT]at h
  simp only [Cy,Xv h.1,M6 h.2]
theorem JF {q:List CK}:∀{j:List (Ab×List Ab)},Ca (fun x:Ab×List Ab=>LU v.cnt x.1&&Ca (Ab.Cd v.cnt) x.2) j=true->C6 (v.app r).e q j=C6 v.e q j
 |[],_=>rfl
 |x::j,h=>by
  simp only [Ca,aT]at h
  simp only [C6,Gx h.1.2,CP h.1.1,JF h.2]
theorem CT {α β:Type} {f g:α->β}:∀{l:List α},(∀x∈l,f x=g x)->l.map f=l.map g
 |[],_=>rfl
 |x::l,h=>by
  rw [List.map_cons,List.map_cons,h x List.mem_cons_self,CT fun y j=>h y (List.mem_cons_of_mem _ j)]
theorem CD.Yt {τ:CD} (h:τ.Cd v.cnt=true):τ.vals (v.app r).e=τ.vals v.e:=by
 simp only [CD.Cd,aT]at h
 obtain ⟨z,B,x,A⟩:=h
 apply Aj.ext'
 ·exact CT fun t q=>ST.BO (FW z t q)
 ·exact CT fun t q=>CP (FW B t q)
 ·exact CT fun i j=>Gi (FW x i j)
 ·exact CT fun i j=>L5 (FW A i j)
end
theorem UZ {l:List (List PV)} {j:Int} {v:List CK} {k:Aj->Option Out} {o:Out} (h:Ns l j v k=some o):0<=j/\∃ps w,l[j.toNat]?=some ps/\CJ v ps=some w/\k w=some o:=by
 unfold Ns at h
 split at h
 ·rename_i z
  split at h
  ·rename_i ps q
   split at h
   ·rename_i w x
    rw [Aj.Na (FK x)]at h
    exact ⟨z,ps,w,q,x,h⟩
   ·cases h
  ·cases h
 ·cases h
theorem U3 {m:List (List Nat×List PV)} {s:List Nat} {v:List CK} {k:Aj->Option Out} {e:Option Out} {o:Out} (h:IA m s v k e=some o):(∃ps w,AR m s=some ps/\CJ v ps=some w/\k w=some o)∨(AR m s=none/\e=some o):=by
 unfold IA at h
 split at h
 ·rename_i ps q
  split at h
  ·rename_i w j
   rw [Aj.Na (FK j)]at h
   exact .inl ⟨ps,w,q,j,h⟩
  ·cases h
 ·rename_i x
  exact .inr ⟨x,h⟩
theorem Vl {r:Option Out} {j:Nat} {u:CH} {k:Aj->Option Out} {e:Option Out} {o:Out} (h:Lm r j u k e=some o):(∃w,r=some (j,w)/\k (w.fit u)=some o)∨e=some o:=by
 unfold Lm at h
 split at h
 ·rename_i w
  split at h
  ·rename_i ha
   refine .inl ⟨w.2,?_,h⟩
   rw [<-ha]
  ·exact .inr h
 ·cases h
theorem I3 {α:Type} {r:Option α} {k:α->Option Out} {o:Out} (h:GY r k=some o):∃a,r=some a/\k a=some o:=by
 unfold GY at h
 split at h
 ·rename_i a
  exact ⟨a,rfl,h⟩
 ·cases h
theorem Bu {M:V0}:∀(t:Tree) {v:Aj} {o:Out},t.Cd v.cnt=true->t.eval M v=some o->∃r,t.sem M (v.app r) v.cnt o
 |.fail,v,o,_,h=>by simp [Tree.eval]at h
 |.leaf alt nw τ,v,o,hb,h=>by
  simp only [Tree.eval,oI]at h
  refine ⟨{},?_⟩
  simp only [Tree.sem,Aj.Ad4]
  exact h.symm
 |.test op a b t e,v,o,hb,h=>by
  simp only [Tree.Cd,aT]at hb
  simp only [Tree.eval]at h
  split at h
  ·rename_i hc
   obtain ⟨r,q⟩:=Bu t hb.2.2.1 h
   refine ⟨r,.inl ⟨?_,q⟩⟩
   rw [ST.BO hb.1,ST.BO hb.2.1];exact hc
  ·rename_i hc
   obtain ⟨r,q⟩:=Bu e hb.2.2.2 h
   refine ⟨r,.inr ⟨?_,q⟩⟩
   rw [ST.BO hb.1,ST.BO hb.2.1];exact hc
 |.BI i n t e,v,o,hb,h=>by
  simp only [Tree.Cd,aT]at hb
  simp only [Tree.eval]at h
  split at h
  ·rename_i hc
   obtain ⟨r,q⟩:=Bu t hb.2.1 h
   exact ⟨r,.inl ⟨by rw [P4 hb.1];exact hc,q⟩⟩
  ·rename_i hc
   obtain ⟨r,q⟩:=Bu e hb.2.2 h
   exact ⟨r,.inr ⟨by rw [P4 hb.1];exact hc,q⟩⟩
 |.sets i s t e,v,o,hb,h=>by
  simp only [Tree.Cd,aT]at hb
  simp only [Tree.eval]at h
  split at h
  ·rename_i hc
   obtain ⟨r,q⟩:=Bu t hb.2.1 h
   exact ⟨r,.inl ⟨by rw [Je hb.1];exact hc,q⟩⟩
  ·rename_i hc
   obtain ⟨r,q⟩:=Bu e hb.2.2 h
   exact ⟨r,.inr ⟨by rw [Je hb.1];exact hc,q⟩⟩
 |.elem l j sh k,v,o,hb,h=>by
  simp only [Tree.Cd,aT]at hb
  simp only [Tree.eval]at h
  obtain ⟨C,ps,w,A,B,h⟩:=UZ h
  have hc:(v.app w).cnt=v.cnt.add (HB sh):=by rw [Aj.Ci,FK B]
  obtain ⟨r,q⟩:=Bu k (by rw [hc];exact hb.2.2) h
  rw [hc,Aj.Be]at q
  exact ⟨w.app r,by rw [ST.BO hb.2.1];exact C,ps,w,by rw [ST.BO hb.2.1,Gi hb.1];exact A,B,⟨v,r,rfl,(Aj.Be _ _ _).symm⟩,q⟩
 |.Br l t k,v,o,hb,h=>by
  simp only [Tree.Cd,aT]at hb
  simp only [Tree.eval]at h
  split at h
  ·rename_i hc
   obtain ⟨r,q⟩:=Bu k hb.2.2 h
   exact ⟨r,by rw [ST.BO hb.2.1,Gi hb.1];exact hc,q⟩
  ·cases h
 |.BQ s lo hi k,v,o,hb,h=>by
  simp only [Tree.Cd,aT]at hb
  simp only [Tree.eval]at h
  split at h
  ·rename_i hc
   obtain ⟨r,q⟩:=Bu k (v:=v.app {n:=[((v.s.getD s []).length:Int)]}) (by rw [Aj.Ci];exact hb.2) h
   rw [Aj.Ci,Aj.Be]at q
   refine ⟨Aj.app {n:=[((v.s.getD s []).length:Int)]} r,?_⟩
   simp only [Tree.sem]
   rw [Je hb.1]
   exact ⟨hc.1,hc.2,⟨v,r,rfl,(Aj.Be _ _ _).symm⟩,q⟩
  ·cases h
 |.FC x y t e,v,o,hb,h=>by
  simp only [Tree.Cd,aT]at hb
  simp only [Tree.eval]at h
  split at h
  ·rename_i hc
   obtain ⟨r,q⟩:=Bu t hb.2.2.1 h
   exact ⟨r,.inl ⟨by rw [CP hb.1,CP hb.2.1];exact hc,q⟩⟩
  ·rename_i hc
   obtain ⟨r,q⟩:=Bu e hb.2.2.2 h
   exact ⟨r,.inr ⟨by rw [CP hb.1,CP hb.2.1];exact hc,q⟩⟩
 |.cat x y k,v,o,hb,h=>by
  simp only [Tree.Cd,aT]at hb
  simp only [Tree.eval]at h
  split at h
  ·rename_i hc
   obtain ⟨r,q⟩:=Bu k (v:=v.app {s:=[Bl v.e x++Bl v.e y]}) (by rw [Aj.Ci];exact hb.2.2) h
   rw [Aj.Ci,Aj.Be]at q
   refine ⟨Aj.app {s:=[Bl v.e x++Bl v.e y]} r,?_⟩
   simp only [Tree.sem]
   rw [CP hb.1,CP hb.2.1]
   exact ⟨hc,⟨v,r,rfl,(Aj.Be _ _ _).symm⟩,q⟩
  ·cases h
 |.JH ps sh k,v,o,hb,h=>by
  simp only [Tree.Cd,aT]at hb
  simp only [Tree.eval]at h
  obtain ⟨l,hl,h⟩:=I3 h
  obtain ⟨r,q⟩:=Bu k (v:=v.app {n:=[(l.length:Int)],l:=[l]}) (by rw [Aj.Ci];exact hb.2) h
  rw [Aj.Ci,Aj.Be]at q
  refine ⟨Aj.app {n:=[(l.length:Int)],l:=[l]} r,l,?_,⟨v,r,rfl,(Aj.Be _ _ _).symm⟩,q⟩
  rw [M6 hb.1];exact hl
 |.look m key sh t e,v,o,hb,h=>by
  simp only [Tree.Cd,aT]at hb
  simp only [Tree.eval]at h
  rcases U3 h with ⟨ps,w,A,B,h⟩|⟨hn,h⟩
  ·have hc:(v.app w).cnt=v.cnt.add (HB sh):=by rw [Aj.Ci,FK B]
   obtain ⟨r,q⟩:=Bu t (by rw [hc];exact hb.2.2.1) h
   rw [hc,Aj.Be]at q
   exact ⟨w.app r,.inl ⟨ps,w,by rw [L5 hb.1,CP hb.2.1];exact A,B,⟨v,r,rfl,(Aj.Be _ _ _).symm⟩,q⟩⟩
  ·obtain ⟨r,q⟩:=Bu e hb.2.2.2 h
   exact ⟨r,.inr ⟨by rw [L5 hb.1,CP hb.2.1];exact hn,q⟩⟩
 |.up m key cs sh k,v,o,hb,h=>by
  simp only [Tree.Cd,aT]at hb
  simp only [Tree.eval]at h
  obtain ⟨ps,A,h⟩:=I3 h
  obtain ⟨r,q⟩:=Bu k (v:=v.app {m:=[Bw (v.m.getD m []) (Bl v.e key) ps]}) (by rw [Aj.Ci];exact hb.2.2.2) h
  rw [Aj.Ci,Aj.Be]at q
  refine ⟨Aj.app {m:=[Bw (v.m.getD m []) (Bl v.e key) ps]} r,ps,?_,?_,q⟩
  ·rw [Gx hb.2.2.1];exact A
  ·rw [L5 hb.1,CP hb.2.1]
   exact ⟨v,r,rfl,(Aj.Be _ _ _).symm⟩
 |.Kr es sh k,v,o,hb,h=>by
  simp only [Tree.Cd,aT]at hb
  simp only [Tree.eval]at h
  obtain ⟨l,hl,h⟩:=I3 h
  obtain ⟨r,q⟩:=Bu k (v:=v.app {m:=[l]}) (by rw [Aj.Ci];exact hb.2) h
  rw [Aj.Ci,Aj.Be]at q
  refine ⟨Aj.app {m:=[l]} r,l,?_,⟨v,r,rfl,(Aj.Be _ _ _).symm⟩,q⟩
  rw [JF hb.1];exact hl
 |.bump t n k,v,o,hb,h=>by
  simp only [Tree.Cd,aT]at hb
  simp only [Tree.eval]at h
  split at h
  ·rename_i hc
   obtain ⟨r,q⟩:=Bu k (v:=v.app {n:=[t.den v.e+n]}) (by rw [Aj.Ci];exact hb.2) h
   rw [Aj.Ci,Aj.Be]at q
   refine ⟨Aj.app {n:=[t.den v.e+n]} r,?_⟩
   simp only [Tree.sem]
   rw [ST.BO hb.1]
   exact ⟨hc,⟨v,r,rfl,(Aj.Be _ _ _).symm⟩,q⟩
  ·cases h
 |.Oh z k,v,o,hb,h=>by
  obtain ⟨r,q⟩:=Bu k (v:=v) hb h
  exact ⟨r,q⟩
 |.call c alt τ u k e,v,o,hb,h=>by
  simp only [Tree.Cd,aT]at hb
  simp only [Tree.eval]at h
  rcases Vl h with ⟨w,B,h⟩|h
  ·have hc:(v.app (w.fit u)).cnt=v.cnt.add u:=by rw [Aj.Ci,Aj.Adt]
   obtain ⟨r,q⟩:=Bu k (by rw [hc];exact hb.2.1) h
   rw [hc,Aj.Be]at q
   exact ⟨(w.fit u).app r,.inl ⟨w,by rw [CD.Yt hb.1];exact B,⟨v,r,rfl,(Aj.Be _ _ _).symm⟩,q⟩⟩
  ·obtain ⟨r,q⟩:=Bu e hb.2.2 h
   exact ⟨r,.inr q⟩
end
section
inductive JN where
 |call (x:By)
 |loop (k:B5)
def JN.sub (τ:CD):JN->Option JN
 |.call x=>(x.sub τ).map .call
 |.loop k=>(k.sub τ).map .loop
def JN.Holds (P:Program) (ρ:Env) (g:FuncId):JN->Prop
 |.call x=>Go.AM.Holds P ρ g x
 |.loop k=>Cl P ρ g k
structure Alt where
 outs:CH
 w:JN
structure Spec where
 f:Nat
 ins:CH
 alts:List Alt
theorem JN.AgF {P:Program} {ρ:Env} {τ:CD} {g:FuncId} {w y:JN} (hs:w.sub τ=some y) (h:w.Holds P (ρ.sub τ) g):y.Holds P ρ g:=by
 cases w
 case call x=>
  obtain ⟨z,j,rfl⟩:=mS hs
  exact Go.AM.Holds.sub j h
 case loop k=>
  obtain ⟨z,j,rfl⟩:=mS hs
  exact Cl.sub j h
theorem JN.Ae4 {P:Program} {ρ:Env} {τ:CD} {g:FuncId} {w y:JN} (hs:w.sub τ=some y) (h:y.Holds P ρ g):w.Holds P (ρ.sub τ) g:=by
 cases w
 case call x=>
  obtain ⟨z,j,rfl⟩:=mS hs
  exact Go.AM.Holds.RJ j h
 case loop k=>
  obtain ⟨z,j,rfl⟩:=mS hs
  exact Cl.RJ j h
structure Cx where
 cnt:CH
 fx:Ao
 ks:List (Nat×By)
 ins:CD
def ST.BI (i:Nat) (n:Int):ST->ST
 |.lit m=>.lit m
 |.var j=>bif Nat.beq i j then .lit n else .var j
 |.bin o k a b=>.bin o k (a.BI i n) (b.BI i n)
 |.conv k a=>.conv k (a.BI i n)
def SB.BI (i:Nat) (n:Int):SB->SB
 |.lit b=>.lit b
 |.cmp o a b=>Adu o (a.BI i n) (b.BI i n)
 |.no a=>(match a.BI i n with|.lit b=>.lit (!b) |a=>.no a)
def Ab.BI (i:Nat) (n:Int) (a:Ab):Ab:=
 match a with
 |.bool b=>.bool (b.BI i n)
 |.int k t=>.int k (t.BI i n)
 |.lst f j es t=>.lst f j es (t.BI i n)
 |a=>a
def Ab.sets (i:Nat) (s:List Nat) (a:Ab):Ab:=
 match a with
 |.svar j=>bif Nat.beq i j then .str s else .svar j
 |a=>a
def Hj {α β:Type} (f:α->β):List α->List β
 |[]=>[]
 |a::r=>f a::Hj f r
def Cx.BI (cx:Cx) (i:Nat) (n:Int):Cx:=
 {cx with ins:={cx.ins with n:=Hj (ST.BI i n) cx.ins.n},fx:={cx.fx with elems:=Hj (fun x=>(x.1,x.2.1.BI i n,Hj (Ab.BI i n) x.2.2)) cx.fx.elems,Br:=Hj (fun x=>(x.1,x.2.BI i n)) cx.fx.Br}}
def Cx.sets (cx:Cx) (i:Nat) (s:List Nat):Cx:=
 {cx with ins:={cx.ins with s:=Hj (Ab.sets i s) cx.ins.s},fx:={cx.fx with elems:=Hj (fun x=>(x.1,x.2.1,Hj (Ab.sets i s) x.2.2)) cx.fx.elems}}
def Uq (op:BinOp) (a b:ST) (v:Bool) (l:List (ST×Int)):List (ST×Int):=
 match b with
 |.lit n=>bif v&&NV op .eql||!v&&NV op .neq then (a,n)::l else l
 |_=>l
def Cx.test (cx:Cx) (op:BinOp) (a b:ST) (v:Bool):Cx:=
 {cx with fx:={cx.fx with tests:=(op,a,b,v)::cx.fx.tests,DL:=Uq op a b v cx.fx.DL}}
noncomputable def DZ (fx:Ao) (a:Ab):Bool:=
 match a with
 |.lst _ i _ t=>(match EB i fx.Br with|some u=>u.eq t|none=>false)
 |_=>true
noncomputable def AE.DZ (fx:Ao) (p:AE):Bool:=
 match p with
 |.els es=>Ca (Ca (Go.AM.DZ fx)) es
 |_=>true
def ET (c:Nat):List (Nat×Spec)->Option Spec
 |[]=>none
 |x::r=>bif Nat.beq x.1 c then some x.2 else ET c r
def Xz {α:Type}:List α->Nat->Option α
 |[],_=>none
 |a::_,0=>some a
 |_::r,i+1=>Xz r i
def Cx.Aka (cx:Cx) (f g:Nat) (o:CH) (y:JN):Option Cx:=
 match y with
 |.call x=>some {cx with ks:=(g,x)::cx.ks,cnt:=cx.cnt.add o}
 |.loop k=>bif Nat.beq f g then some {cx with fx:={cx.fx with loops:=k::cx.fx.loops},cnt:=cx.cnt.add o}else none
def Cx.call (cx:Cx) (S:List (Nat×Spec)) (f c j:Nat) (τ:CD) (o:CH):Option Cx:=
 A6 (ET c S) fun sp=>A6 (Xz sp.alts j) fun A=>bif τ.cnt.eq sp.ins&&o.eq A.outs then
  A6 (A.w.sub (τ.app (LG cx.cnt o))) fun y=>cx.Aka f sp.f o y else none
abbrev RC:=Ao->List (Nat×By)->JN->List Nat->Bool
noncomputable def Tree.ok (S:List (Nat×Spec)) (run:RC) (f:Nat) (alts:List Alt):Tree->Cx->Bool
 |.fail,_=>true
 |.leaf alt nw τ,cx=>Dh (A6 (Xz alts alt) fun A=>bif τ.cnt.eq A.outs then A6 (A.w.sub (cx.ins.app τ)) fun y=>some (run cx.fx cx.ks y nw)else none)
 |.test op a b t e,cx=>t.ok S run f alts (cx.test op a b true)&&e.ok S run f alts (cx.test op a b false)
 |.BI i n t e,cx=>t.ok S run f alts (cx.BI i n)&&e.ok S run f alts (cx.test .eql (.var i) (.lit n) false)
 |.sets i s t e,cx=>t.ok S run f alts (cx.sets i s)&&e.ok S run f alts {cx with fx:={cx.fx with strs:=(.svar i,.str s,false)::cx.fx.strs}}
 |.elem l j sh k,cx=>k.ok S run f alts {cx with fx:={cx.fx with elems:=(l,j,N1 sh cx.cnt)::cx.fx.elems,Br:=MK sh cx.cnt++cx.fx.Br},cnt:=cx.cnt.add (HB sh)}
 |.Br l t k,cx=>k.ok S run f alts {cx with fx:={cx.fx with Br:=(l,t)::cx.fx.Br}}
 |.BQ s lo hi k,cx=>k.ok S run f alts {cx with fx:={cx.fx with BQ:=(s,.var cx.cnt.n,lo,hi)::cx.fx.BQ},cnt:=cx.cnt.add {n:=1}}
 |.FC x y t e,cx=>x.isStr&&(y.isStr&&(t.ok S run f alts {cx with fx:={cx.fx with strs:=(x,y,true)::cx.fx.strs}}&&e.ok S run f alts {cx with fx:={cx.fx with strs:=(x,y,false)::cx.fx.strs}}))
 |.cat x y k,cx=>x.isStr&&(y.isStr&&k.ok S run f alts {cx with fx:={cx.fx with E4:=(x,y,.svar cx.cnt.s)::cx.fx.E4},cnt:=cx.cnt.add {s:=1}})
 |.JH ps _ k,cx=>Ca (AE.Cd cx.cnt) ps&&(Ca (AE.DZ cx.fx) ps&&k.ok S run f alts {cx with fx:={cx.fx with defs:=(cx.cnt.l,ps)::cx.fx.defs,Br:=(cx.cnt.l,.var cx.cnt.n)::cx.fx.Br},cnt:=cx.cnt.add {n:=1,l:=1}})
 |.look m key sh t e,cx=>key.isStr&&(t.ok S run f alts {cx with fx:={cx.fx with looks:=(m,key,some (N1 sh cx.cnt))::cx.fx.looks,Br:=MK sh cx.cnt++cx.fx.Br},cnt:=cx.cnt.add (HB sh)}&&e.ok S run f alts {cx with fx:={cx.fx with looks:=(m,key,none)::cx.fx.looks}})
 |.up m key cs _ k,cx=>key.isStr&&(Ca (Ab.Cd cx.cnt) cs&&(Ca (DZ cx.fx) cs&&k.ok S run f alts {cx with fx:={cx.fx with Ls:=(m,key,cs,cx.cnt.m)::cx.fx.Ls},cnt:=cx.cnt.add {m:=1}}))
 |.Kr es _ k,cx=>Ca (fun x:Ab×List Ab=>x.1.isStr&&(Ca (Ab.Cd cx.cnt) x.2&&Ca (DZ cx.fx) x.2)) es&&k.ok S run f alts {cx with fx:={cx.fx with C5:=(cx.cnt.m,es)::cx.fx.C5},cnt:=cx.cnt.add {m:=1}}
 |.bump t n k,cx=>k.ok S run f alts {cx with fx:={cx.fx with C7:=(t,n,.var cx.cnt.n)::cx.fx.C7},cnt:=cx.cnt.add {n:=1}}
 |.Oh z k,cx=>k.ok S run f alts {cx with fx:={cx.fx with Oh:=cx.fx.Oh++[z]}}
 |.call c alt τ o k e,cx=>Dh (A6 (cx.call S f c alt τ o) fun q=>some (k.ok S run f alts q))&&e.ok S run f alts cx
def NH (P:Program) (T:Nat->Option Obj) (f:Nat) (run:RC):Prop:=
 ∀Γ ks w j (ρ:Env),ρ.AJ=T->Γ.AB ρ->(∀x∈ks,Go.AM.Holds P ρ x.1 x.2)->(∀k∈Γ.loops,Cl P ρ f k)->run Γ ks w j=true->w.Holds P ρ f
def Good (P:Program) (T:Nat->Option Obj) (S:List (Nat×Spec)) (M:V0):Prop:=
 ∀c sp,ET c S=some sp->∀v a w,M c v=some (a,w)->v.cnt=sp.ins->∃A,sp.alts[a]?=some A/\w.cnt=A.outs/\A.w.Holds P ((v.app w).env T) sp.f
theorem Q3 {α:Type}:∀(l:List α) (i:Nat),Xz l i=l[i]?
 |[],_=>by simp [Xz]
 |a::r,0=>rfl
 |a::r,i+1=>by rw [Xz,Q3 r i];simp
section
variable {T:Nat->Option Obj} {vf:Aj}
theorem Ek (a:Ab):DV (vf.env T) a=DV vf.e a:=by cases a<;>rfl
theorem ZA (a:Ab):Bl (vf.env T) a=Bl vf.e a:=by unfold Bl;rw [Ek]
theorem Ga {ρ:Env} {a:Ab} (h:a.isStr=true):DV ρ a=some (Bl ρ a):=by
 cases a<;>simp only [Ab.isStr,Bool.false_eq_true]at h<;>rfl
theorem At.val {c:CH} {w:Aj} (h:At vf c w) (i:Nat) (j:i<w.n.length):vf.n.getD (c.n+i) 0=w.n.getD i 0:=by
 obtain ⟨v,r,rfl,rfl⟩:=h
 simp only [Aj.app,Aj.cnt,List.getD_eq_getElem?_getD,List.append_assoc]
 rw [List.getElem?_append_right (by omega),List.getElem?_append_left (by omega)]
 congr 2;omega
theorem At.str {c:CH} {w:Aj} (h:At vf c w) (i:Nat) (j:i<w.s.length):vf.s.getD (c.s+i) []=w.s.getD i []:=by
 obtain ⟨v,r,rfl,rfl⟩:=h
 simp only [Aj.app,Aj.cnt,List.getD_eq_getElem?_getD,List.append_assoc]
 rw [List.getElem?_append_right (by omega),List.getElem?_append_left (by omega)]
 congr 2;omega
theorem At.lst {c:CH} {w:Aj} (h:At vf c w) (i:Nat) (j:i<w.l.length):vf.l.getD (c.l+i) []=w.l.getD i []:=by
 obtain ⟨v,r,rfl,rfl⟩:=h
 simp only [Aj.app,Aj.cnt,List.getD_eq_getElem?_getD,List.append_assoc]
 rw [List.getElem?_append_right (by omega),List.getElem?_append_left (by omega)]
 congr 2;omega
theorem At.map {c:CH} {w:Aj} (h:At vf c w) (i:Nat) (j:i<w.m.length):vf.m.getD (c.m+i) []=w.m.getD i []:=by
 obtain ⟨v,r,rfl,rfl⟩:=h
 simp only [Aj.app,Aj.cnt,List.getD_eq_getElem?_getD,List.append_assoc]
 rw [List.getElem?_append_right (by omega),List.getElem?_append_left (by omega)]
 congr 2;omega
theorem At.left {c:CH} {a b:Aj} (h:At vf c (a.app b)):At vf c a:=by
 obtain ⟨v,r,hc,rfl⟩:=h
 exact ⟨v,b.app r,hc,by simp only [Aj.Be]⟩
theorem At.right {c:CH} {a b:Aj} (h:At vf c (a.app b)):At vf (c.add a.cnt) b:=by
 obtain ⟨v,r,rfl,rfl⟩:=h
 exact ⟨v.app a,r,by rw [Aj.Ci],by simp only [Aj.Be]⟩
theorem Ahs (b:Bool):Ev .neq (b01 b) 0=b:=by cases b<;>rfl
theorem CK.Aa9 {k:CK} {p:PV} {w:Aj} {c:CH} (h:k.read p=some w) (q:At vf c w):L0 (vf.env T) (k.val c) p/\(∀v,k=.list v->vf.n.getD c.n 0=((vf.l.getD c.l []).length:Int)):=by
 cases k<;>cases p<;>simp only [CK.read,reduceCtorEq,oI]at h
 case int.int k k' n=>
  obtain ⟨x,h⟩:=Ap h
  simp only [oI]at h
  subst h
  rw [Df.1 x]
  have j:vf.n.getD c.n 0=n:=q.val 0 (by simp)
  refine ⟨?_,fun _ e=>by cases e⟩
  show PV.int k' n=.int k' (vf.n.getD c.n 0)
  rw [j]
 case bool.bool b=>
  subst h
  have j:vf.n.getD c.n 0=b01 b:=q.val 0 (by simp)
  refine ⟨?_,fun _ e=>by cases e⟩
  show PV.bool b=.bool (Ev .neq (vf.n.getD c.n 0) 0)
  rw [j,Ahs]
 case str.str s=>
  subst h
  have j:vf.s.getD c.s []=s:=q.str 0 (by simp)
  refine ⟨?_,fun _ e=>by cases e⟩
  show PV.str s=.str (vf.s.getD c.s [])
  rw [j]
 case list.list v es' l=>
  obtain ⟨x,h⟩:=Ap h
  simp only [oI]at h
  subst h
  have e:=An.1 x
  subst e
  have j:vf.n.getD c.n 0=(l.length:Int):=q.val 0 (by simp)
  have hl:vf.l.getD c.l []=l:=q.lst 0 (by simp)
  refine ⟨⟨rfl,?_,?_⟩,fun _ _=>?_⟩
  ·show PV.list v l=.list v (vf.l.getD c.l [])
   rw [hl]
  ·show vf.n.getD c.n 0=((vf.l.getD c.l []).length:Int)
   rw [hl,j]
  ·rw [hl,j]
 case nilp.nilp=>exact ⟨rfl,fun _ e=>by cases e⟩
theorem Kh:∀{q:List CK} {ps:List PV} {w:Aj} {c:CH},CJ q ps=some w->At vf c w->Fw (vf.env T) (N1 q c) ps/\∀x∈MK q c,x.2.den vf.e=((vf.l.getD x.1 []).length:Int)
 |[],[],w,c,h,hat=>⟨rfl,fun x j=>by cases j⟩
 |k::q,p::ps,w,c,h,hat=>by
  simp only [CJ]at h
  split at h
  ·rename_i a ha
   split at h
   ·rename_i b hb
    simp only [oI]at h
    subst h
    obtain ⟨C,H⟩:=CK.Aa9 (T:=T) ha hat.left
    have z:=hat.right
    rw [CK.Sr ha]at z
    obtain ⟨B,v⟩:=Kh hb z
    refine ⟨⟨p,ps,rfl,C,B⟩,fun x j=>?_⟩
    simp only [MK]at j
    split at j
    ·rename_i A
     rcases List.mem_cons.1 j with rfl|j
     ·exact H A rfl
     ·exact v x j
    ·exact v x j
   ·cases h
  ·cases h
 |[],_::_,w,c,h,_=>by simp [CJ]at h
 |_::_,[],w,c,h,_=>by simp [CJ]at h
theorem XP {fx:Ao} (q:fx.AB (vf.env T)) {k:CK} {a:Ab} {p:PV} {c:CH} (hb:a.Cd c=true) (hl:DZ fx a=true) (h:GH vf.e k a=some p):V4 (vf.env T) a p:=by
 cases k<;>cases a<;>simp only [Ab.Cd,Bool.false_eq_true]at hb<;>simp only [GH,reduceCtorEq,oI]at h
 case int.int=>
  obtain ⟨j,h⟩:=Ap h
  simp only [oI]at h
  rw [Df.1 j]at h
  exact h.symm
 case bool.bool=>exact h.symm
 case str.str=>exact h.symm
 case str.svar=>exact h.symm
 case list.nilSlice es=>exact ⟨es,h.symm⟩
 case list.lst es f i es' n=>
  obtain ⟨j,h⟩:=Ap h
  simp only [oI]at h
  rw [An.1 j]at h
  simp only [aT,Bool.not_eq_true']at hb
  simp only [DZ]at hl
  split at hl
  ·rename_i u v
   refine ⟨hb.1,h.symm,?_⟩
   rw [<-ST.AV hl]
   exact q.Br _ (Cw v)
  ·cases hl
 case nilp.nilPtr=>exact h.symm
theorem Gw {fx:Ao} (j:fx.AB (vf.env T)) {c:CH}:∀{v:List CK} {as:List Ab} {ps:List PV},Ca (Ab.Cd c) as=true->Ca (DZ fx) as=true->Cu vf.e v as=some ps->C8 (vf.env T) as ps
 |[],[],ps,_,_,h=>by simp only [Cu,oI]at h;subst h;rfl
 |k::v,a::as,ps,hb,hl,h=>by
  simp only [Ca,aT]at hb hl
  simp only [Cu]at h
  split at h
  ·rename_i p x
   split at h
   ·rename_i q z
    simp only [oI]at h
    subst h
    exact ⟨p,q,rfl,XP j hb.1 hl.1 x,Gw j hb.2 hl.2 z⟩
   ·cases h
  ·cases h
 |[],_::_,_,_,_,h=>by simp [Cu]at h
 |_::_,[],_,_,_,h=>by simp [Cu]at h
theorem OE {fx:Ao} (j:fx.AB (vf.env T)) {c:CH} {x:List CK}:∀{as:List (List Ab)} {ps:List (List PV)},Ca (Ca (Ab.Cd c)) as=true->Ca (Ca (DZ fx)) as=true->GF vf.e x as=some ps->DT (vf.env T) as ps
 |[],ps,_,_,h=>by simp only [GF,oI]at h;subst h;rfl
 |a::as,ps,hb,hl,h=>by
  simp only [Ca,aT]at hb hl
  simp only [GF]at h
  split at h
  ·rename_i p v
   split at h
   ·rename_i q z
    simp only [oI]at h
    subst h
    exact ⟨p,q,rfl,Gw j hb.1 hl.1 v,OE j hb.2 hl.2 z⟩
   ·cases h
  ·cases h
theorem Xu {fx:Ao} (j:fx.AB (vf.env T)) {c:CH} {q:List CK} {p:AE} {l:List (List PV)} (hb:p.Cd c=true) (hl:p.DZ fx=true) (h:Dn vf.e q p=some l):Ft (vf.env T) p l:=by
 cases p<;>simp only [AE.Cd]at hb<;>simp only [AE.DZ]at hl<;>simp only [Dn,oI]at h
 case els es=>exact OE j hb hl h
 case all i=>exact h.symm
 case take i n=>
  split at h
  ·rename_i hc
   simp only [oI]at h
   exact ⟨hc.1,hc.2,h.symm⟩
  ·cases h
 case drop i n=>
  split at h
  ·rename_i hc
   simp only [oI]at h
   exact ⟨hc.1,hc.2,h.symm⟩
  ·cases h
theorem M5 {fx:Ao} (j:fx.AB (vf.env T)) {c:CH} {v:List CK}:∀{ps:List AE} {l:List (List PV)},Ca (AE.Cd c) ps=true->Ca (AE.DZ fx) ps=true->Cy vf.e v ps=some l->Bv (vf.env T) ps l
 |[],l,_,_,h=>by simp only [Cy,oI]at h;subst h;rfl
 |p::ps,l,hb,hl,h=>by
  simp only [Ca,aT]at hb hl
  simp only [Cy]at h
  split at h
  ·rename_i a ha
   split at h
   ·rename_i b q
    simp only [oI]at h
    subst h
    exact ⟨a,b,rfl,Xu j hb.1 hl.1 ha,M5 j hb.2 hl.2 q⟩
   ·cases h
  ·cases h
theorem JE {fx:Ao} (v:fx.AB (vf.env T)) {c:CH} {A:List CK}:∀{j:List (Ab×List Ab)} {l:List (List Nat×List PV)},Ca (fun x:Ab×List Ab=>x.1.isStr&&(Ca (Ab.Cd c) x.2&&Ca (DZ fx) x.2)) j=true->C6 vf.e A j=some l->Acf (vf.env T) j l
 |[],l,_,h=>by simp only [C6,oI]at h;subst h;rfl
 |x::j,l,hb,h=>by
  simp only [Ca,aT]at hb
  simp only [C6]at h
  split at h
  ·rename_i p z
   split at h
   ·rename_i q B
    simp only [oI]at h
    subst h
    refine ⟨Bl vf.e x.1,p,q,rfl,?_,Gw v hb.1.2.1 hb.1.2.2 z,JE v hb.2 B⟩
    rw [Ek];exact Ga hb.1.1
   ·cases h
  ·cases h
theorem IQ (op:BinOp) (x y:Int):Ev op x y=decide (LN op x y):=by
 cases op
 case neq=>by_cases h:x=y<;>simp [Ev,LN,bne,h]
 all_goals rfl
theorem HW {α β:Type} (f:α->β):∀l:List α,Hj f l=l.map f
 |[]=>rfl
 |a::r=>by simp [Hj,HW f r]
theorem ST.Cc {i:Nat} {n:Int} (h:vf.n.getD i 0=n):∀t:ST,(t.BI i n).den vf.e=t.den vf.e
 |.lit _=>rfl
 |.var j=>by
  simp only [ST.BI]
  rw [AA]
  split
  ·rename_i e;subst e;exact h.symm
  ·rfl
 |.bin o k a b=>by simp only [ST.BI,ST.den,ST.Cc h a,ST.Cc h b]
 |.conv k a=>by simp only [ST.BI,ST.den,ST.Cc h a]
theorem SB.Cc {i:Nat} {n:Int} (h:vf.n.getD i 0=n):∀t:SB,(t.BI i n).den vf.e=t.den vf.e
 |.lit _=>rfl
 |.cmp o a b=>by
  simp only [SB.BI]
  rw [Td]
  simp only [SB.den,ST.Cc h]
 |.no a=>by
  have ih:=SB.Cc h a
  simp only [SB.BI]
  split
  ·rename_i b hb
   rw [hb]at ih
   simp only [SB.den]at ih⊢
   rw [ih]
  ·simp only [SB.den,ih]
theorem Ab.Cc {i:Nat} {n:Int} (h:vf.n.getD i 0=n) {a:Ab} {p:PV} (ha:L0 (vf.env T) a p):L0 (vf.env T) (a.BI i n) p:=by
 cases a<;>simp only [Ab.BI]<;>first|exact ha|skip
 case bool b=>
  have ha:p=.bool (b.den vf.e):=ha
  show p=.bool ((b.BI i n).den vf.e)
  rw [SB.Cc h,ha]
 case int k t=>
  have ha:p=.int k (t.den vf.e):=ha
  show p=.int k ((t.BI i n).den vf.e)
  rw [ST.Cc h,ha]
 case lst f j es t=>
  obtain ⟨v,x,q⟩:=ha
  refine ⟨v,x,?_⟩
  show (t.BI i n).den vf.e=_
  rw [ST.Cc h];exact q
theorem Ab.Aas {i:Nat} {s:List Nat} (h:vf.s.getD i []=s) {a:Ab} {p:PV} (ha:L0 (vf.env T) a p):L0 (vf.env T) (a.sets i s) p:=by
 cases a<;>simp only [Ab.sets]<;>first|exact ha|skip
 rw [AA]
 split
 ·rename_i e
  subst e
  have ha:p=.str (vf.s.getD i []):=ha
  show p=.str s
  rw [ha,h]
 ·exact ha
theorem Fw.Hj {f:Ab->Ab} (hf:∀{a p},L0 (vf.env T) a p->L0 (vf.env T) (f a) p):∀{as:List Ab} {ps:List PV},Fw (vf.env T) as ps->Fw (vf.env T) (Hj f as) ps
 |[],ps,h=>h
 |a::as,ps,h=>by
  obtain ⟨p,rest,rfl,j,q⟩:=h
  exact ⟨p,rest,rfl,hf j,Fw.Hj hf q⟩
theorem Cx.Xl {cx:Cx} {i:Nat} {n:Int} (h:vf.n.getD i 0=n) (j:cx.fx.AB (vf.env T)):(cx.BI i n).fx.AB (vf.env T):=by
 refine ⟨j.DL,j.tests,j.strs,j.E4,j.BQ,fun x q=>?_,fun x q=>?_,j.defs,j.looks,j.Ls,j.C7,j.C5⟩
 ·rw [show (cx.BI i n).fx.Br=_ from HW _ _]at q
  obtain ⟨y,v,rfl⟩:=List.mem_map.1 q
  show (y.2.BI i n).den vf.e=_
  rw [ST.Cc h]
  exact j.Br y v
 ·rw [show (cx.BI i n).fx.elems=_ from HW _ _]at q
  obtain ⟨y,v,rfl⟩:=List.mem_map.1 q
  obtain ⟨ps,A,B,z⟩:=j.elems y v
  refine ⟨ps,?_,?_,Fw.Hj (Ab.Cc h) z⟩
  ·show 0<=(y.2.1.BI i n).den vf.e
   rw [ST.Cc h];exact A
  ·show _[((y.2.1.BI i n).den vf.e).toNat]?=_
   rw [ST.Cc h];exact B
theorem Cx.Xj {cx:Cx} {i:Nat} {s:List Nat} (h:vf.s.getD i []=s) (j:cx.fx.AB (vf.env T)):(cx.sets i s).fx.AB (vf.env T):=by
 refine ⟨j.DL,j.tests,j.strs,j.E4,j.BQ,j.Br,fun x q=>?_,j.defs,j.looks,j.Ls,j.C7,j.C5⟩
 rw [show (cx.sets i s).fx.elems=_ from HW _ _]at q
 obtain ⟨y,A,rfl⟩:=List.mem_map.1 q
 obtain ⟨ps,z,B,v⟩:=j.elems y A
 exact ⟨ps,z,B,Fw.Hj (Ab.Aas h) v⟩
theorem CD.Xk {τ:CD} {i:Nat} {n:Int} (h:vf.n.getD i 0=n):CD.vals {τ with n:=Hj (ST.BI i n) τ.n} vf.e=τ.vals vf.e:=by
 apply Aj.ext'<;>simp only [CD.vals]
 rw [HW,List.map_map]
 exact CT fun t _=>ST.Cc h t
theorem CD.Xi {τ:CD} {i:Nat} {s:List Nat} (h:vf.s.getD i []=s):CD.vals {τ with s:=Hj (Ab.sets i s) τ.s} vf.e=τ.vals vf.e:=by
 apply Aj.ext'<;>simp only [CD.vals]
 rw [HW,List.map_map]
 refine CT fun a _=>?_
 show Bl vf.e (a.sets i s)=Bl vf.e a
 cases a<;>simp only [Ab.sets]
 rename_i j
 rw [AA]
 split
 ·rename_i e;subst e;exact h.symm
 ·rfl
theorem Cx.JU {cx:Cx} {op:BinOp} {a b:ST} {v:Bool} (h:Ev op (a.den vf.e) (b.den vf.e)=v) (j:cx.fx.AB (vf.env T)):(cx.test op a b v).fx.AB (vf.env T):=by
 refine ⟨fun x q=>?_,Bh h j.tests,j.strs,j.E4,j.BQ,j.Br,j.elems,j.defs,j.looks,j.Ls,j.C7,j.C5⟩
 have q:x∈Uq op a b v cx.fx.DL:=q
 unfold Uq at q
 cases b with
 |lit n=>
  simp only at q
  cases e:(v&&NV op .eql||!v&&NV op .neq)with
  |false=>rw [e]at q;exact j.DL x q
  |true=>
   rw [e]at q
   rcases List.mem_cons.1 q with rfl|q
   ·show a.den vf.e=n
    simp only [Bool.or_eq_true,aT,Bool.not_eq_true']at e
    rcases e with ⟨rfl,e⟩|⟨rfl,e⟩
    ·rw [Hh.1 e]at h;simpa [Ev,ST.den]using h
    ·rw [Hh.1 e]at h;simpa [Ev,ST.den]using h
   ·exact j.DL x q
 |_=>exact j.DL x q
theorem FN {α β γ:Type} (f:Nat->α) (g:α->β) (l:List β) (d:β):∀(w:List β) (i:Nat),(∀j,j<w.length->g (f (i+j))=w.getD j d)->(MY f w.length i).map g=w
 |[],i,_=>rfl
 |x::w,i,h=>by
  simp only [lC,MY,List.map_cons]
  rw [show g (f i)=x by simpa using h 0 (by simp),FN (γ:=γ) f g l d w (i+1) fun j q=>by
   have:=h (j+1) (by simp;omega)
   rw [show i+(j+1)=i+1+j by omega]at this
   simpa using this]
theorem LF {c:CH} {w:Aj} (h:At vf c w):(LG c w.cnt).vals vf.e=w:=by
 apply Aj.ext'<;>simp only [CD.vals,LG,Aj.cnt]
 ·exact FN (γ:=Unit) _ _ w.n 0 w.n c.n fun j q=>h.val j q
 ·exact FN (γ:=Unit) _ _ w.s [] w.s c.s fun j q=>h.str j q
 ·exact FN (γ:=Unit) _ _ w.l [] w.l c.l fun j q=>h.lst j q
 ·exact FN (γ:=Unit) _ _ w.m [] w.m c.m fun j q=>h.map j q
theorem CD.Tn (a b:CD) (ρ:Env):(a.app b).vals ρ=(a.vals ρ).app (b.vals ρ):=by
 apply Aj.ext'<;>simp [CD.app,CD.vals,Aj.app]
theorem CD.RI (τ:CD) (ρ:Env):(τ.vals ρ).cnt=τ.cnt:=by simp [CD.vals,Aj.cnt,CD.cnt]
theorem VD (τ:CD):(vf.env T).sub τ=(τ.vals vf.e).env T:=by
 show Env.of T _ _ _ _=Env.of T _ _ _ _
 simp only [CD.vals]
 rw [CT (l:=τ.s) (f:=Bl (vf.env T)) fun a _=>ZA a]
 rfl
end
section
variable {P:Program} {T:Nat->Option Obj} {S:List (Nat×Spec)} {run:RC} {f:Nat} {alts:List Alt} {M:V0} {vf:Aj}
structure Cx.AB (P:Program) (T:Nat->Option Obj) (f:Nat) (vf ins:Aj) (cx:Cx):Prop where
 fx:cx.fx.AB (vf.env T)
 ks:∀x∈cx.ks,Go.AM.Holds P (vf.env T) x.1 x.2
 ls:∀k∈cx.fx.loops,Cl P (vf.env T) f k
 ins:cx.ins.vals vf.e=ins
theorem Cx.XR {ins:Aj} (X:Good P T S M) {cx q:Cx} (H:cx.AB P T f vf ins) {c x:Nat} {τ:CD} {o:CH} (hc:cx.call S f c x τ o=some q) {w:Aj} (Y:M c (τ.vals vf.e)=some (x,w)) (z:At vf cx.cnt (w.fit o)):q.AB P T f vf ins/\q.cnt=cx.cnt.add o:=by
 unfold Cx.call at hc
 obtain ⟨sp,J,R⟩:=Ac hc
 obtain ⟨A,C,q2⟩:=Ac R
 obtain ⟨I,Z⟩:=Ap q2
 obtain ⟨y,hy,j⟩:=Ac Z
 rw [aT]at I
 have U:=CH.eq_iff.1 I.1
 have O:=CH.eq_iff.1 I.2
 obtain ⟨A',L,v,V⟩:=X c sp J _ _ _ Y (by rw [CD.RI];exact U)
 rw [Q3,L]at C
 simp only [oI]at C
 subst C
 rw [O,Aj.Na v]at z
 have Q:(vf.env T).sub (τ.app (LG cx.cnt o))=((τ.vals vf.e).app w).env T:=by
  rw [VD,CD.Tn,O,<-v,LF z]
 have B:y.Holds P (vf.env T) sp.f:=JN.AgF hy (by rw [Q];exact V)
 unfold Cx.Aka at j
 split at j
 ·simp only [oI]at j
  subst j
  exact ⟨⟨H.fx,Bh B H.ks,H.ls,H.ins⟩,rfl⟩
 ·obtain ⟨hf,N⟩:=Ap j
  simp only [oI]at N
  subst N
  have hf:=An.1 hf
  subst hf
  exact ⟨⟨⟨H.fx.DL,H.fx.tests,H.fx.strs,H.fx.E4,H.fx.BQ,H.fx.Br,H.fx.elems,H.fx.defs,H.fx.looks,H.fx.Ls,H.fx.C7,H.fx.C5⟩,H.ks,Bh B H.ls,H.ins⟩,rfl⟩
theorem Bs {ins:Aj} (v:NH P T f run) (C:Good P T S M):∀(t:Tree) {cx:Cx} {o:Out},t.ok S run f alts cx=true->t.sem M vf cx.cnt o->cx.AB P T f vf ins->∃A,alts[o.1]?=some A/\o.2.cnt=A.outs/\A.w.Holds P ((ins.app o.2).env T) f
 |.fail,cx,o,_,hs,_=>hs.elim
 |.leaf alt nw τ,cx,o,q,hs,H=>by
  simp only [Tree.ok]at q
  obtain ⟨A,Y,q⟩:=Ac (Fk.1 q)
  obtain ⟨he,q⟩:=Ap q
  obtain ⟨y,N,q⟩:=Ac q
  simp only [oI]at q
  simp only [Tree.sem]at hs
  subst hs
  rw [Q3]at Y
  refine ⟨A,Y,by rw [CD.RI];exact CH.eq_iff.1 he,?_⟩
  have Q:=v cx.fx cx.ks y nw (vf.env T) rfl H.fx H.ks H.ls q
  have R:=JN.Ae4 N Q
  rw [VD,CD.Tn,H.ins]at R
  exact R
 |.test op a b t e,cx,o,q,hs,H=>by
  simp only [Tree.ok,aT]at q
  rcases hs with ⟨hc,hs⟩|⟨hc,hs⟩
  ·exact Bs v C t (cx:=cx.test op a b true) q.1 hs ⟨Cx.JU (by rw [IQ];exact decide_eq_true hc) H.fx,H.ks,H.ls,H.ins⟩
  ·exact Bs v C e (cx:=cx.test op a b false) q.2 hs ⟨Cx.JU (by rw [IQ];exact decide_eq_false hc) H.fx,H.ks,H.ls,H.ins⟩
 |.BI i n t e,cx,o,q,hs,H=>by
  simp only [Tree.ok,aT]at q
  rcases hs with ⟨hc,hs⟩|⟨hc,hs⟩
  ·exact Bs v C t (cx:=cx.BI i n) q.1 hs ⟨Cx.Xl hc H.fx,H.ks,H.ls,by rw [<-H.ins];exact CD.Xk hc⟩
  ·refine Bs v C e (cx:=cx.test .eql (.var i) (.lit n) false) q.2 hs ⟨Cx.JU ?_ H.fx,H.ks,H.ls,H.ins⟩
   rw [IQ];exact decide_eq_false hc
 |.sets i s t e,cx,o,q,hs,H=>by
  simp only [Tree.ok,aT]at q
  rcases hs with ⟨hc,hs⟩|⟨hc,hs⟩
  ·exact Bs v C t (cx:=cx.sets i s) q.1 hs ⟨Cx.Xj hc H.fx,H.ks,H.ls,by rw [<-H.ins];exact CD.Xi hc⟩
  ·refine Bs v C e (cx:={cx with fx:={cx.fx with strs:=(.svar i,.str s,false)::cx.fx.strs}}) q.2 hs ⟨⟨H.fx.DL,H.fx.tests,Bh ⟨vf.s.getD i [],s,rfl,rfl,(decide_eq_false hc).symm⟩ H.fx.strs,H.fx.E4,H.fx.BQ,H.fx.Br,H.fx.elems,H.fx.defs,H.fx.looks,H.fx.Ls,H.fx.C7,H.fx.C5⟩,H.ks,H.ls,H.ins⟩
 |.elem l j sh k,cx,o,q,hs,H=>by
  simp only [Tree.ok]at q
  obtain ⟨hj,ps,w,L,O,B,hs⟩:=hs
  obtain ⟨X,d2⟩:=Kh (T:=T) O B
  refine Bs v C k q hs ⟨⟨H.fx.DL,H.fx.tests,H.fx.strs,H.fx.E4,H.fx.BQ,fun x I=>?_,Bh ⟨ps,hj,L,X⟩ H.fx.elems,H.fx.defs,H.fx.looks,H.fx.Ls,H.fx.C7,H.fx.C5⟩,H.ks,H.ls,H.ins⟩
  rcases List.mem_append.1 I with I|I
  ·exact d2 x I
  ·exact H.fx.Br x I
 |.Br l t k,cx,o,q,hs,H=>by
  simp only [Tree.ok]at q
  exact Bs v C k q hs.2 ⟨⟨H.fx.DL,H.fx.tests,H.fx.strs,H.fx.E4,H.fx.BQ,Bh hs.1 H.fx.Br,H.fx.elems,H.fx.defs,H.fx.looks,H.fx.Ls,H.fx.C7,H.fx.C5⟩,H.ks,H.ls,H.ins⟩
 |.BQ s lo hi k,cx,o,q,hs,H=>by
  simp only [Tree.ok]at q
  obtain ⟨Q,R,B,hs⟩:=hs
  exact Bs v C k q hs ⟨⟨H.fx.DL,H.fx.tests,H.fx.strs,H.fx.E4,Bh ⟨B.val 0 (by simp),Q,R⟩ H.fx.BQ,H.fx.Br,H.fx.elems,H.fx.defs,H.fx.looks,H.fx.Ls,H.fx.C7,H.fx.C5⟩,H.ks,H.ls,H.ins⟩
 |.FC x y t e,cx,o,q,hs,H=>by
  simp only [Tree.ok,aT]at q
  have I:DV (vf.env T) x=some (Bl vf.e x):=by rw [Ek];exact Ga q.1
  have N:DV (vf.env T) y=some (Bl vf.e y):=by rw [Ek];exact Ga q.2.1
  rcases hs with ⟨hc,hs⟩|⟨hc,hs⟩
  ·exact Bs v C t (cx:={cx with fx:={cx.fx with strs:=(x,y,true)::cx.fx.strs}}) q.2.2.1 hs ⟨⟨H.fx.DL,H.fx.tests,Bh ⟨_,_,I,N,(decide_eq_true hc).symm⟩ H.fx.strs,H.fx.E4,H.fx.BQ,H.fx.Br,H.fx.elems,H.fx.defs,H.fx.looks,H.fx.Ls,H.fx.C7,H.fx.C5⟩,H.ks,H.ls,H.ins⟩
  ·exact Bs v C e (cx:={cx with fx:={cx.fx with strs:=(x,y,false)::cx.fx.strs}}) q.2.2.2 hs ⟨⟨H.fx.DL,H.fx.tests,Bh ⟨_,_,I,N,(decide_eq_false hc).symm⟩ H.fx.strs,H.fx.E4,H.fx.BQ,H.fx.Br,H.fx.elems,H.fx.defs,H.fx.looks,H.fx.Ls,H.fx.C7,H.fx.C5⟩,H.ks,H.ls,H.ins⟩
 |.cat x y k,cx,o,q,hs,H=>by
  simp only [Tree.ok,aT]at q
  obtain ⟨hl,B,hs⟩:=hs
  have I:DV (vf.env T) x=some (Bl vf.e x):=by rw [Ek];exact Ga q.1
  have N:DV (vf.env T) y=some (Bl vf.e y):=by rw [Ek];exact Ga q.2.1
  exact Bs v C k q.2.2 hs ⟨⟨H.fx.DL,H.fx.tests,H.fx.strs,Bh ⟨_,_,I,N,congrArg some (B.str 0 (by simp)),hl⟩ H.fx.E4,H.fx.BQ,H.fx.Br,H.fx.elems,H.fx.defs,H.fx.looks,H.fx.Ls,H.fx.C7,H.fx.C5⟩,H.ks,H.ls,H.ins⟩
 |.JH ps sh k,cx,o,q,hs,H=>by
  simp only [Tree.ok,aT]at q
  obtain ⟨l,hl,B,hs⟩:=hs
  have J:vf.l.getD cx.cnt.l []=l:=B.lst 0 (by simp)
  have e2:vf.n.getD cx.cnt.n 0=(l.length:Int):=B.val 0 (by simp)
  have d:=M5 H.fx q.1 q.2.1 hl
  refine Bs v C k q.2.2 hs ⟨⟨H.fx.DL,H.fx.tests,H.fx.strs,H.fx.E4,H.fx.BQ,Bh ?_ H.fx.Br,H.fx.elems,Bh ?_ H.fx.defs,H.fx.looks,H.fx.Ls,H.fx.C7,H.fx.C5⟩,H.ks,H.ls,H.ins⟩
  ·show vf.n.getD cx.cnt.n 0=((vf.l.getD cx.cnt.l []).length:Int)
   rw [J,e2]
  ·show Bv _ _ (vf.l.getD cx.cnt.l [])
   rw [J];exact d
 |.look m key sh t e,cx,o,q,hs,H=>by
  simp only [Tree.ok,aT]at q
  have I:DV (vf.env T) key=some (Bl vf.e key):=by rw [Ek];exact Ga q.1
  rcases hs with ⟨ps,w,L,O,B,hs⟩|⟨hn,hs⟩
  ·obtain ⟨X,d2⟩:=Kh (T:=T) O B
   refine Bs v C t (cx:={cx with fx:={cx.fx with looks:=(m,key,some (N1 sh cx.cnt))::cx.fx.looks,Br:=MK sh cx.cnt++cx.fx.Br},cnt:=cx.cnt.add (HB sh)}) q.2.1 hs ⟨⟨H.fx.DL,H.fx.tests,H.fx.strs,H.fx.E4,H.fx.BQ,fun x I=>?_,H.fx.elems,H.fx.defs,Bh ⟨_,I,ps,L,X⟩ H.fx.looks,H.fx.Ls,H.fx.C7,H.fx.C5⟩,H.ks,H.ls,H.ins⟩
   rcases List.mem_append.1 I with I|I
   ·exact d2 x I
   ·exact H.fx.Br x I
  ·exact Bs v C e (cx:={cx with fx:={cx.fx with looks:=(m,key,none)::cx.fx.looks}}) q.2.2 hs ⟨⟨H.fx.DL,H.fx.tests,H.fx.strs,H.fx.E4,H.fx.BQ,H.fx.Br,H.fx.elems,H.fx.defs,Bh ⟨_,I,hn⟩ H.fx.looks,H.fx.Ls,H.fx.C7,H.fx.C5⟩,H.ks,H.ls,H.ins⟩
 |.up m key cs sh k,cx,o,q,hs,H=>by
  simp only [Tree.ok,aT]at q
  obtain ⟨ps,L,B,hs⟩:=hs
  have I:DV (vf.env T) key=some (Bl vf.e key):=by rw [Ek];exact Ga q.1
  have J:vf.m.getD cx.cnt.m []=Bw (vf.m.getD m []) (Bl vf.e key) ps:=B.map 0 (by simp)
  exact Bs v C k q.2.2.2 hs ⟨⟨H.fx.DL,H.fx.tests,H.fx.strs,H.fx.E4,H.fx.BQ,H.fx.Br,H.fx.elems,H.fx.defs,H.fx.looks,Bh ⟨_,ps,I,Gw H.fx q.2.1 q.2.2.1 L,J⟩ H.fx.Ls,H.fx.C7,H.fx.C5⟩,H.ks,H.ls,H.ins⟩
 |.Kr es sh k,cx,o,q,hs,H=>by
  simp only [Tree.ok,aT]at q
  obtain ⟨l,hl,B,hs⟩:=hs
  have J:vf.m.getD cx.cnt.m []=l:=B.map 0 (by simp)
  have d:=JE H.fx q.1 hl
  refine Bs v C k q.2 hs ⟨⟨H.fx.DL,H.fx.tests,H.fx.strs,H.fx.E4,H.fx.BQ,H.fx.Br,H.fx.elems,H.fx.defs,H.fx.looks,H.fx.Ls,H.fx.C7,Bh ?_ H.fx.C5⟩,H.ks,H.ls,H.ins⟩
  show Acf _ _ (vf.m.getD cx.cnt.m [])
  rw [J];exact d
 |.bump t n k,cx,o,q,hs,H=>by
  simp only [Tree.ok]at q
  obtain ⟨Q,B,hs⟩:=hs
  have J:vf.n.getD cx.cnt.n 0=t.den vf.e+n:=B.val 0 (by simp)
  refine Bs v C k q hs ⟨⟨H.fx.DL,H.fx.tests,H.fx.strs,H.fx.E4,H.fx.BQ,H.fx.Br,H.fx.elems,H.fx.defs,H.fx.looks,H.fx.Ls,Bh ?_ H.fx.C7,H.fx.C5⟩,H.ks,H.ls,H.ins⟩
  show t.den vf.e+n<=vf.n.getD cx.cnt.n 0/\vf.n.getD cx.cnt.n 0<=1048576
  rw [J];exact ⟨Int.le_refl _,Q⟩
 |.Oh z k,cx,o,q,hs,H=>by
  simp only [Tree.ok]at q
  exact Bs v C k q hs ⟨⟨H.fx.DL,H.fx.tests,H.fx.strs,H.fx.E4,H.fx.BQ,H.fx.Br,H.fx.elems,H.fx.defs,H.fx.looks,H.fx.Ls,H.fx.C7,H.fx.C5⟩,H.ks,H.ls,H.ins⟩
 |.call c alt τ u k e,cx,o,q,hs,H=>by
  simp only [Tree.ok,aT]at q
  rcases hs with ⟨w,O,B,hs⟩|hs
  ·obtain ⟨ae,Z,U⟩:=Ac (Fk.1 q.1)
   simp only [oI]at U
   obtain ⟨H',V⟩:=Cx.XR C H Z O B
   exact Bs v C k U (by rw [V];exact hs) H'
  ·exact Bs v C e q.2 hs H
noncomputable def Spec.ok (S:List (Nat×Spec)) (run:RC) (sp:Spec) (t:Tree):Bool:=
 t.Cd sp.ins&&t.ok S run sp.f sp.alts ⟨sp.ins,{},[],LG {} sp.ins⟩
theorem At.zero (v r:Aj):At (v.app r) {} v:=⟨{},r,rfl,by
 apply Aj.ext'<;>simp [Aj.app]⟩
theorem T7 {sp:Spec} {t:Tree} (B:NH P T sp.f run) (H:Good P T S M) (j:sp.ok S run t=true) {v w:Aj} {a:Nat} (h:t.eval M v=some (a,w)) (q:v.cnt=sp.ins):∃A,sp.alts[a]?=some A/\w.cnt=A.outs/\A.w.Holds P ((v.app w).env T) sp.f:=by
 unfold Spec.ok at j
 rw [aT]at j
 obtain ⟨r,C⟩:=Bu t (by rw [q];exact j.1) h
 rw [q]at C
 refine Bs (vf:=v.app r) (ins:=v) B H t j.2 C ⟨Ao.AB.none _,fun x z=>(by cases z),fun x z=>(by cases z),?_⟩
 have:=LF (At.zero v r)
 rw [q]at this
 exact this
def Acy (P:Program) (T:Nat->Option Obj) (S:List (Nat×Spec)) (trees:Nat->Tree):Prop:=
 ∀c sp,ET c S=some sp->∃q run,(∀v j,ET v q=some j->ET v S=some j)/\NH P T sp.f run/\sp.ok q run (trees c)=true
theorem SC {trees:Nat->Tree} (h:Acy P T S trees):∀N,Good P T S (mir trees N)
 |0=>fun c sp _ v a w q _=>by cases q
 |N+1=>fun c sp z v a w q H=>by
  have ih:=SC h N
  obtain ⟨J,run,I,x,B⟩:=h c sp z
  exact T7 x (fun C j A=>ih C j (I C j A)) B q H
end
end
section
def Vh (P:Program) (pl:List Co) (i:Nat):Option Ex:=
 match P.funcs[i]? with
 |some fn=>bif fn.name== "runtime.NumGoroutine" then none else ED P pl fn
 |none=>none
theorem Tc {P:Program} {pl:List Co} {i:Nat} {F:Ex} (h:Vh P pl i=some F):∃fn,P.funcs[i]?=some fn/\ED P pl fn=some F/\(fn.name== "runtime.NumGoroutine")=false:=by
 unfold Vh at h
 split at h
 ·rename_i fn hf
  cases e:fn.name== "runtime.NumGoroutine" with
  |true=>rw [e]at h;cases h
  |false=>rw [e]at h;exact ⟨fn,hf,h,e⟩
 ·cases h
theorem all_cons {α:Type} {p:α->Prop} {x:α} {l:List α} (h:p x) (q:∀y∈l,p y):∀y∈x::l,p y:=fun y j=>by
 rcases List.mem_cons.1 j with rfl|j
 ·exact h
 ·exact q y j
theorem all_nil {α:Type} {p:α->Prop}:∀y∈([]:List α),p y:=fun y j=>by cases j
end
section
def St (g:Nat):List (Nat×By)->List By
 |[]=>[]
 |x::r=>bif Nat.beq x.1 g then x.2::St g r else St g r
noncomputable def Xw (ks:List (Nat×By)):List (Nat×By)->List (Nat×Bg)->List (Nat×Bg)
 |[],l=>l
 |x::r,l=>(x.1,JG (St x.1 ks))::Xw ks r l
noncomputable def DY (DE:FuncId->Option Ex) (fixed:Ao->List (Nat×Bg)) (fuel d q f:Nat):RC:=fun Γ ks w j=>
 match w with
 |.call x=>Aam Γ x j (Ae3 Γ (fun g=>Sv g (Xw ks ks (fixed Γ))) DE fuel d f x.args (AS x.pre (empty q Γ)))
 |.loop k=>match DE f with
  |some F=>Uc Γ k j (QA Γ (Ll Γ.bare (fun g=>Sv g (Xw ks ks (fixed Γ))) DE fuel d) fuel q F k)
  |none=>false
section
variable {P:Program} {pl:List Co} {T:Nat->Option Obj} {DE:FuncId->Option Ex} {fixed:Ao->List (Nat×Bg)}
theorem Kl {g:Nat} {x:By}:∀{l:List (Nat×By)},x∈St g l->(g,x)∈l
 |[],h=>by cases h
 |y::r,h=>by
  simp only [St]at h
  cases hc:Nat.beq y.1 g with
  |true=>
   rw [hc]at h
   simp only [cond_true,List.mem_cons]at h
   have e:=An.1 hc
   rcases h with rfl|h
   ·rw [<-e];exact List.mem_cons_self
   ·exact List.mem_cons_of_mem _ (Kl h)
  |false=>rw [hc]at h;exact List.mem_cons_of_mem _ (Kl h)
theorem M8 {ρ:Env} {ks:List (Nat×By)} (j:∀x∈ks,Go.AM.Holds P ρ x.1 x.2) {l:List (Nat×Bg)} (hl:∀x∈l,Cv P ρ x.1 x.2):∀(r:List (Nat×By)),∀x∈Xw ks r l,Cv P ρ x.1 x.2
 |[],x,hx=>hl x hx
 |y::r,x,hx=>by
  simp only [Xw,List.mem_cons]at hx
  rcases hx with rfl|hx
  ·exact H8 fun z q=>j _ (Kl q)
  ·exact M8 j hl r x hx
theorem OL (v:P.follows .mixedOrders=true) (B:Py P pl DE) (A:∀Γ (ρ:Env),ρ.AJ=T->Γ.AB ρ->∀x∈fixed Γ,Cv P ρ x.1 x.2) (fuel d I f:Nat):NH P T f (DY DE fixed fuel d I f):=by
 intro Γ ks w M ρ H hΓ C q j
 have z:∀g o,Sv g (Xw ks ks (fixed Γ))=some o->Cv P ρ g o:=fun g o J=>M8 C (A Γ ρ H hΓ) ks _ (OJ J)
 cases w with
 |call x=>exact QJ hΓ (T1 hΓ v B z d (U0 q)) j
 |loop k=>
  simp only [DY]at j
  split at j
  ·rename_i F L
   exact Oa hΓ (HF hΓ.bare rfl v B z d) v B L q j
  ·cases j
end
theorem Vm {r q:Option Out} (B:∀o,r=some o->q=some o) {j:Nat} {u:CH} {k v:Aj->Option Out} (z:∀w o,k w=some o->v w=some o) {e x:Option Out} (A:∀o,e=some o->x=some o) {o:Out} (h:Lm r j u k e=some o):Lm q j u v x=some o:=by
 unfold Lm at h⊢
 cases hr':r with
 |none=>rw [hr']at h;cases h
 |some w=>
  rw [hr']at h
  rw [B w hr']
  simp only at h⊢
  split at h
  ·rename_i ha;rw [if_pos ha];exact z _ _ h
  ·rename_i ha;rw [if_neg ha];exact A _ h
theorem Va {l:List (List PV)} {j:Int} {q:List CK} {k v:Aj->Option Out} (x:∀w o,k w=some o->v w=some o) {o:Out} (h:Ns l j q k=some o):Ns l j q v=some o:=by
 unfold Ns at h⊢
 split at h
 ·rename_i z
  rw [if_pos z]
  cases hg:l[j.toNat]? with
  |none=>rw [hg]at h;cases h
  |some ps=>
   rw [hg]at h
   simp only at h⊢
   cases hr:CJ q ps with
   |none=>rw [hr]at h;cases h
   |some w=>rw [hr]at h;exact x _ _ h
 ·cases h
theorem U4 {m:List (List Nat×List PV)} {s:List Nat} {j:List CK} {k q:Aj->Option Out} (x:∀w o,k w=some o->q w=some o) {e v:Option Out} (z:∀o,e=some o->v=some o) {o:Out} (h:IA m s j k e=some o):IA m s j q v=some o:=by
 unfold IA at h⊢
 cases hg:AR m s with
 |none=>rw [hg]at h;exact z _ h
 |some ps=>
  rw [hg]at h
  simp only at h⊢
  cases hr:CJ j ps with
  |none=>rw [hr]at h;cases h
  |some w=>rw [hr]at h;exact x _ _ h
theorem I4 {α:Type} {r:Option α} {k j:α->Option Out} (q:∀w o,k w=some o->j w=some o) {o:Out} (h:GY r k=some o):GY r j=some o:=by
 unfold GY at h⊢
 cases r with
 |none=>cases h
 |some a=>exact q _ _ h
theorem Et {c:Prop} [Decidable c] {a j b q:Option Out} (ha:∀o,a=some o->j=some o) (hb:∀o,b=some o->q=some o) {o:Out} (h:(if c then a else b)=some o):(if c then j else q)=some o:=by
 split at h
 ·rename_i hc;rw [if_pos hc];exact ha _ h
 ·rename_i hc;rw [if_neg hc];exact hb _ h
theorem AN {M M':V0} (j:∀c v o,M c v=some o->M' c v=some o):∀(t:Tree) (v:Aj) (o:Out),t.eval M v=some o->t.eval M' v=some o
 |.fail,_,_,h=>by cases h
 |.leaf _ _ _,_,_,h=>h
 |.test _ _ _ t e,v,_,h=>Et (AN j t v) (AN j e v) h
 |.BI _ _ t e,v,_,h=>Et (AN j t v) (AN j e v) h
 |.sets _ _ t e,v,_,h=>Et (AN j t v) (AN j e v) h
 |.elem _ _ _ k,v,_,h=>Va (fun w=>AN j k (v.app w)) h
 |.Br _ _ k,v,_,h=>Et (AN j k v) (fun _ h=>h) h
 |.BQ s _ _ k,v,_,h=>Et (AN j k (v.app {n:=[((v.s.getD s []).length:Int)]})) (fun _ h=>h) h
 |.FC _ _ t e,v,_,h=>Et (AN j t v) (AN j e v) h
 |.cat x y k,v,_,h=>Et (AN j k (v.app {s:=[Bl v.e x++Bl v.e y]})) (fun _ h=>h) h
 |.JH _ _ k,v,_,h=>I4 (fun l=>AN j k (v.app {n:=[(l.length:Int)],l:=[l]})) h
 |.look _ _ _ t e,v,_,h=>U4 (fun w=>AN j t (v.app w)) (AN j e v) h
 |.up m key _ _ k,v,_,h=>I4 (fun ps=>AN j k (v.app {m:=[Bw (v.m.getD m []) (Bl v.e key) ps]})) h
 |.Kr _ _ k,v,_,h=>I4 (fun l=>AN j k (v.app {m:=[l]})) h
 |.bump t n k,v,_,h=>Et (AN j k (v.app {n:=[t.den v.e+n]})) (fun _ h=>h) h
 |.Oh _ k,v,_,h=>AN j k v _ h
 |.call c _ τ _ k e,v,_,h=>Vm (j c (τ.vals v.e)) (fun w=>AN j k (v.app w)) (AN j e v) h
theorem S2 {trees:Nat->Tree}:∀(N c:Nat) (v:Aj) (o:Out),mir trees N c v=some o->mir trees (N+1) c v=some o
 |0,_,_,_,h=>by cases h
 |N+1,c,v,o,h=>AN (S2 N) (trees c) v o h
theorem Q7 {trees:Nat->Tree} {N j:Nat} (h:N<=j) {c:Nat} {v:Aj} {o:Out} (q:mir trees N c v=some o):mir trees j c v=some o:=by
 induction h with
 |refl=>exact q
 |step _ ih=>exact S2 _ _ _ _ ih
def Ef (trees:Nat->Tree) (c:Nat) (v:Aj) (Q:Out->Prop):Prop:=∃N o,mir trees N c v=some o/\Q o
abbrev Ah3:=Nat->Aj->(Out->Prop)->Prop
def WD (l:List (List PV)) (j:Int) (q:List CK) (k:Aj->Prop):Prop:=
 0<=j/\match l[j.toNat]? with
  |some ps=>(match CJ q ps with|some w=>k (w.fit (HB q)) |none=>False)
  |none=>False
def OO (m:List (List Nat×List PV)) (s:List Nat) (j:List CK) (k:Aj->Prop) (e:Prop):Prop:=
 match AR m s with
 |some ps=>(match CJ j ps with|some w=>k (w.fit (HB j)) |none=>False)
 |none=>e
def Jj {α:Type} (r:Option α) (k:α->Prop):Prop:=
 match r with
 |some a=>k a
 |none=>False
abbrev Akz (g:(Out->Prop)->Prop) (j:Nat) (u:CH) (k:Aj->Prop) (e:Prop):Prop:=g fun o=>if o.1=j then k (o.2.fit u)else e
def Tree.wp (G:Ah3) (Q:Out->Prop):Tree->Aj->Prop
 |.fail,_=>False
 |.leaf alt _ τ,v=>Q (alt,τ.vals v.e)
 |.test op a b t e,v=>if LN op (a.den v.e) (b.den v.e)then t.wp G Q v else e.wp G Q v
 |.BI i n t e,v=>if v.n.getD i 0=n then t.wp G Q v else e.wp G Q v
 |.sets i s t e,v=>if v.s.getD i []=s then t.wp G Q v else e.wp G Q v
 |.elem l j sh k,v=>WD (v.l.getD l []) (j.den v.e) sh fun w=>k.wp G Q (v.app w)
 |.Br l t k,v=>if t.den v.e=((v.l.getD l []).length:Int)then k.wp G Q v else False
 |.BQ s lo hi k,v=>if lo<=(v.s.getD s []).length/\(v.s.getD s []).length<=hi then k.wp G Q (v.app {n:=[((v.s.getD s []).length:Int)]})else False
 |.FC x y t e,v=>if Bl v.e x=Bl v.e y then t.wp G Q v else e.wp G Q v
 |.cat x y k,v=>if (Bl v.e x).length+(Bl v.e y).length<=1048576 then k.wp G Q (v.app {s:=[Bl v.e x++Bl v.e y]})else False
 |.JH ps sh k,v=>Jj (Cy v.e sh ps) fun l=>k.wp G Q (v.app {n:=[(l.length:Int)],l:=[l]})
 |.look m key sh t e,v=>OO (v.m.getD m []) (Bl v.e key) sh (fun w=>t.wp G Q (v.app w)) (e.wp G Q v)
 |.up m key cs sh k,v=>Jj (Cu v.e sh cs) fun ps=>k.wp G Q (v.app {m:=[Bw (v.m.getD m []) (Bl v.e key) ps]})
 |.Kr es sh k,v=>Jj (C6 v.e sh es) fun l=>k.wp G Q (v.app {m:=[l]})
 |.bump t n k,v=>if t.den v.e+n<=1048576 then k.wp G Q (v.app {n:=[t.den v.e+n]})else False
 |.Oh _ k,v=>k.wp G Q v
 |.call c alt τ u k e,v=>Akz (G c (τ.vals v.e)) alt u (fun w=>k.wp G Q (v.app w)) (e.wp G Q v)
theorem BA {trees:Nat->Tree} {Q:Out->Prop}:∀(t:Tree) (v:Aj),t.wp (Ef trees) Q v->∃N o,t.eval (mir trees N) v=some o/\Q o
 |.fail,_,h=>h.elim
 |.leaf alt _ τ,v,h=>⟨0,_,rfl,h⟩
 |.test op a b t e,v,h=>by
  simp only [Tree.wp]at h
  simp only [Tree.eval]
  split at h
  ·rename_i hc;simp only [if_pos hc];exact BA t v h
  ·rename_i hc;simp only [if_neg hc];exact BA e v h
 |.BI i n t e,v,h=>by
  simp only [Tree.wp]at h
  simp only [Tree.eval]
  split at h
  ·rename_i hc;simp only [if_pos hc];exact BA t v h
  ·rename_i hc;simp only [if_neg hc];exact BA e v h
 |.sets i s t e,v,h=>by
  simp only [Tree.wp]at h
  simp only [Tree.eval]
  split at h
  ·rename_i hc;simp only [if_pos hc];exact BA t v h
  ·rename_i hc;simp only [if_neg hc];exact BA e v h
 |.elem l j sh k,v,h=>by
  simp only [Tree.wp,WD]at h
  obtain ⟨I,h⟩:=h
  simp only [Tree.eval,Ns,if_pos I]
  cases hg:(v.l.getD l [])[(j.den v.e).toNat]? with
  |none=>rw [hg]at h;exact h.elim
  |some ps=>
   rw [hg]at h
   simp only at h⊢
   cases hr:CJ sh ps with
   |none=>rw [hr]at h;exact h.elim
   |some w=>rw [hr]at h;exact BA k _ h
 |.Br l t k,v,h=>by
  simp only [Tree.wp]at h
  simp only [Tree.eval]
  split at h
  ·rename_i hc;simp only [if_pos hc];exact BA k _ h
  ·exact h.elim
 |.BQ s lo hi k,v,h=>by
  simp only [Tree.wp]at h
  simp only [Tree.eval]
  split at h
  ·rename_i hc;simp only [if_pos hc];exact BA k _ h
  ·exact h.elim
 |.FC x y t e,v,h=>by
  simp only [Tree.wp]at h
  simp only [Tree.eval]
  split at h
  ·rename_i hc;simp only [if_pos hc];exact BA t v h
  ·rename_i hc;simp only [if_neg hc];exact BA e v h
 |.cat x y k,v,h=>by
  simp only [Tree.wp]at h
  simp only [Tree.eval]
  split at h
  ·rename_i hc;simp only [if_pos hc];exact BA k _ h
  ·exact h.elim
 |.JH ps sh k,v,h=>by
  simp only [Tree.wp,Jj]at h
  simp only [Tree.eval,GY]
  cases hg:Cy v.e sh ps with
  |none=>rw [hg]at h;exact h.elim
  |some l=>rw [hg]at h;exact BA k _ h
 |.look m key sh t e,v,h=>by
  simp only [Tree.wp,OO]at h
  simp only [Tree.eval,IA]
  cases hg:AR (v.m.getD m []) (Bl v.e key)with
  |none=>rw [hg]at h;exact BA e _ h
  |some ps=>
   rw [hg]at h
   simp only at h⊢
   cases hr:CJ sh ps with
   |none=>rw [hr]at h;exact h.elim
   |some w=>rw [hr]at h;exact BA t _ h
 |.up m key cs sh k,v,h=>by
  simp only [Tree.wp,Jj]at h
  simp only [Tree.eval,GY]
  cases hg:Cu v.e sh cs with
  |none=>rw [hg]at h;exact h.elim
  |some l=>rw [hg]at h;exact BA k _ h
 |.Kr es sh k,v,h=>by
  simp only [Tree.wp,Jj]at h
  simp only [Tree.eval,GY]
  cases hg:C6 v.e sh es with
  |none=>rw [hg]at h;exact h.elim
  |some l=>rw [hg]at h;exact BA k _ h
 |.bump t n k,v,h=>by
  simp only [Tree.wp]at h
  simp only [Tree.eval]
  split at h
  ·rename_i hc;simp only [if_pos hc];exact BA k _ h
  ·exact h.elim
 |.Oh _ k,v,h=>by
  simp only [Tree.wp]at h
  exact BA k v h
 |.call c alt τ u k e,v,h=>by
  simp only [Tree.wp]at h
  obtain ⟨N,o,H,C⟩:=h
  split at C
  ·rename_i ha
   obtain ⟨q,A,B,z⟩:=BA k _ C
   refine ⟨max N q,A,?_,z⟩
   simp only [Tree.eval,Lm,Q7 (Nat.le_max_left N q) H,if_pos ha]
   exact AN (fun _ _ _=>Q7 (Nat.le_max_right N q)) k _ _ B
  ·rename_i ha
   obtain ⟨q,A,B,z⟩:=BA e _ C
   refine ⟨max N q,A,?_,z⟩
   simp only [Tree.eval,Lm,Q7 (Nat.le_max_left N q) H,if_neg ha]
   exact AN (fun _ _ _=>Q7 (Nat.le_max_right N q)) e _ _ B
theorem SF {trees:Nat->Tree} {c:Nat} {v:Aj} {Q:Out->Prop} (h:(trees c).wp (Ef trees) Q v):Ef trees c v Q:=by
 obtain ⟨N,o,j,q⟩:=BA _ _ h
 exact ⟨N+1,o,j,q⟩
theorem Ef.elim {trees:Nat->Tree} {c:Nat} {v:Aj} {R:Out->Prop} (h:Ef trees c v R):∃o,R o/\∀Q:Out->Prop,Q o->Ef trees c v Q:=by
 obtain ⟨N,o,q,x⟩:=h
 exact ⟨o,x,fun Q j=>⟨N,o,q,j⟩⟩
def Y1 (c:Nat):List (Nat×Tree)->Tree
 |[]=>.fail
 |x::r=>bif Nat.beq x.1 c then x.2 else Y1 c r
def Ace (P:Program) (T:Nat->Option Obj) (S:List (Nat×Spec)) (sp:Spec) (t:Tree):Prop:=
 ∃q run,(∀v j,ET v q=some j->ET v S=some j)/\NH P T sp.f run/\sp.ok q run t=true
def Sub (v S:List (Nat×Spec)):Prop:=∀q j,ET q v=some j->ET q S=some j
theorem AcG {S:List (Nat×Spec)}:Sub [] S:=fun _ _ h=>by cases h
theorem Z5 {q S:List (Nat×Spec)} {c:Nat} {sp:Spec} (h:ET c S=some sp) (v:Sub q S):Sub ((c,sp)::q) S:=fun x z j=>by
 simp only [ET]at j
 cases e:Nat.beq c x with
 |true=>
  rw [e]at j
  simp only [cond_true,oI]at j
  rw [<-j,<-An.1 e];exact h
 |false=>rw [e]at j;exact v _ _ j
def Acz (P:Program) (T:Nat->Option Obj) (S:List (Nat×Spec)) (tr:Nat->Tree):List (Nat×Spec)->Prop
 |[]=>True
 |x::r=>Ace P T S x.2 (tr x.1)/\Acz P T S tr r
theorem Pf {c:Nat} {sp:Spec}:∀{l:List (Nat×Spec)},ET c l=some sp->(c,sp)∈l
 |[],h=>by cases h
 |x::r,h=>by
  simp only [ET]at h
  cases e:Nat.beq x.1 c with
  |true=>
   rw [e]at h
   simp only [cond_true,oI]at h
   rw [<-An.1 e,<-h];exact List.mem_cons_self
  |false=>rw [e]at h;exact List.mem_cons_of_mem _ (Pf h)
theorem Acz.mem {P:Program} {T:Nat->Option Obj} {S:List (Nat×Spec)} {tr:Nat->Tree}:∀{l:List (Nat×Spec)},Acz P T S tr l->∀x∈l,Ace P T S x.2 (tr x.1)
 |[],_,x,hx=>by cases hx
 |y::r,h,x,hx=>by
  rcases List.mem_cons.1 hx with rfl|hx
  ·exact h.1
  ·exact Acz.mem h.2 x hx
theorem AbQ {P:Program} {T:Nat->Option Obj} {S:List (Nat×Spec)} {tr:Nat->Tree} (h:Acz P T S tr S):Acy P T S tr:=fun c sp hc=>h.mem (c,sp) (Pf hc)
def Tree.parts:Nat->Tree->Cx->List (Tree×Cx)
 |d+1,.test op a b t e,cx=>t.parts d (cx.test op a b true)++e.parts d (cx.test op a b false)
 |_,t,cx=>[(t,cx)]
theorem Tree.M4 {S:List (Nat×Spec)} {run:RC} {f:Nat} {alts:List Alt}:∀(d:Nat) (t:Tree) (cx:Cx),(∀p∈t.parts d cx,p.1.ok S run f alts p.2=true)->t.ok S run f alts cx=true
 |0,t,cx,h=>by cases t<;>exact h _ List.mem_cons_self
 |d+1,t,cx,h=>by
  cases t with
  |test op a b t e=>
   simp only [Tree.parts,List.mem_append]at h
   simp only [Tree.ok,aT]
   exact ⟨Tree.M4 d t _ fun p j=>h p (.inl j),Tree.M4 d e _ fun p j=>h p (.inr j)⟩
  |_=>exact h _ List.mem_cons_self
noncomputable def Spec.I7 (S:List (Nat×Spec)) (run:RC) (sp:Spec) (t:Tree) (d n i:Nat):Bool:=
 Ca (fun p:Tree×Cx=>p.1.ok S run sp.f sp.alts p.2) (((t.parts d ⟨sp.ins,{},[],LG {} sp.ins⟩).drop (n*i)).take n)
theorem Spec.AaK {S:List (Nat×Spec)} {run:RC} {sp:Spec} {t:Tree} (d n k:Nat) (hb:t.Cd sp.ins=true) (hl:Nat.ble (t.parts d ⟨sp.ins,{},[],LG {} sp.ins⟩).length (n*k)=true) (h:∀i,i<k->sp.I7 S run t d n i=true):sp.ok S run t=true:=by
 unfold Spec.ok
 rw [aT]
 refine ⟨hb,Tree.M4 d t _ fun p A=>?_⟩
 obtain ⟨j,x⟩:=List.mem_iff_getElem?.1 A
 have B:=(List.getElem?_eq_some_iff.1 x).1
 have hl:=Nat.le_of_ble_eq_true hl
 have q:0<n:=by
  rcases Nat.eq_zero_or_pos n with e|e
  ·subst e;rw [Nat.zero_mul]at hl;omega
  ·exact e
 have v:=Nat.div_add_mod j n
 have z:=Nat.mod_lt j q
 refine FW (h (j/n) ?_) p (List.mem_iff_getElem?.2 ⟨j%n,?_⟩)
 ·exact (Nat.div_lt_iff_lt_mul q).2 (by rw [Nat.mul_comm];omega)
 ·rw [List.getElem?_take,if_pos z,List.getElem?_drop,v];exact x
end
section
namespace Dc
noncomputable section
def fc {α:Type} (n:Nat) (f:Nat->α):α:=Nat.casesOn (motive:=fun _=>α) n (f 0) fun m=>f (Nat.succ m)
def D (α:Type):=CH->Nat->α×CH×Nat
def rt {α:Type} (a:α):D α:=fun c N=>(a,c,N)
def bd {α β:Type} (p:D α) (f:α->D β):D β:=fun c N=>Prod.casesOn (motive:=fun _=>β×CH×Nat) (p c N) fun a r=>Prod.casesOn (motive:=fun _=>β×CH×Nat) r fun c N=>f a c N
def dg (k:Nat):D Nat:=fun c N=>fc (N%k) fun d=>fc (N/k) fun M=>(d,c,M)
def nt:D Nat:=bd (dg 32) fun d=>bif Nat.beq d 31 then bd (dg 128) fun e=>bif Nat.beq e 127 then dg 18446744073709551616 else fc (31+e) rt else rt d
def pk {α:Type} (d:α) (l:List α):Nat->α:=List.rec (motive:=fun _=>Nat->α) (fun _=>d) (fun x _ ih n=>Nat.casesOn (motive:=fun _=>α) n x ih) l
def ch {α:Type} (d:D α) (l:List (D α)):D α:=bd (dg l.length) (pk d l)
def li {α:Type} (p:D α) (n:Nat):D (List α):=Nat.rec (motive:=fun _=>D (List α)) (rt []) (fun _ ih=>bd p fun a=>bd ih fun l=>rt (a::l)) n
def ls {α:Type} (p:D α):D (List α):=bd nt (li p)
def pr {α β:Type} (p:D α) (q:D β):D (α×β):=bd p fun a=>bd q fun b=>rt (a,b)
def m1 {α β:Type} (f:α->β) (p:D α):D β:=bd p fun a=>rt (f a)
def m2 {α β γ:Type} (f:α->β->γ) (p:D α) (q:D β):D γ:=bd p fun a=>bd q fun b=>rt (f a b)
def m3 {α β γ δ:Type} (f:α->β->γ->δ) (p:D α) (q:D β) (r:D γ):D δ:=bd p fun a=>bd q fun b=>bd r fun c=>rt (f a b c)
def m4 {α β γ δ ε:Type} (f:α->β->γ->δ->ε) (p:D α) (q:D β) (r:D γ) (s:D δ):D ε:=bd p fun a=>bd q fun b=>bd r fun c=>bd s fun d=>rt (f a b c d)
def m5 {α β γ δ ε ζ:Type} (f:α->β->γ->δ->ε->ζ) (p:D α) (q:D β) (r:D γ) (s:D δ) (t:D ε):D ζ:=bd p fun a=>bd q fun b=>bd r fun c=>bd s fun d=>bd t fun e=>rt (f a b c d e)
def fn:D Nat:=fun c N=>CH.casesOn (motive:=fun _=>Nat×CH×Nat) c fun n s l m=>fc (Nat.succ n) fun x=>(n,⟨x,s,l,m⟩,N)
def fs:D Nat:=fun c N=>CH.casesOn (motive:=fun _=>Nat×CH×Nat) c fun n s l m=>fc (Nat.succ s) fun x=>(s,⟨n,x,l,m⟩,N)
def fl:D Nat:=fun c N=>CH.casesOn (motive:=fun _=>Nat×CH×Nat) c fun n s l m=>fc (Nat.succ l) fun x=>(l,⟨n,s,x,m⟩,N)
def fm:D Nat:=fun c N=>CH.casesOn (motive:=fun _=>Nat×CH×Nat) c fun n s l m=>fc (Nat.succ m) fun x=>(m,⟨n,s,l,x⟩,N)
def gc:D CH:=fun c N=>(c,c,N)
def sc (c:CH):D Unit:=fun _ N=>((),c,N)
def dK:D IntKind:=bd (dg 8) fun d=>rt (pk .i64 [.i64,.i32,.u8,.i8,.i16,.u16,.u32,.u64] d)
def dO:D BinOp:=bd (dg 17) fun d=>rt (pk .add [.add,.sub,.mul,.quo,.rem,.and,.or,.xor,.shl,.shr,.andNot,.eql,.neq,.lss,.leq,.gtr,.geq] d)
def dB:D Bool:=bd (dg 2) fun d=>rt (Nat.beq d 1)
def dI:D Int:=ch (rt 0) [m1 Int.ofNat nt,m1 Int.negSucc nt]
def dT (f:Nat):D ST:=Nat.rec (motive:=fun _=>D ST) (rt (.lit 0)) (fun _ r=>ch (rt (.lit 0)) [m1 .var nt,m1 (fun d=>.lit (.ofNat d)) nt,m4 .bin dO dK r r,ch (rt (.lit 0)) [m2 .conv dK r,m1 (fun d=>.lit (.negSucc d)) nt,rt (.lit (.negSucc 1099511627775))]]) f
def dS (f:Nat):D SB:=Nat.rec (motive:=fun _=>D SB) (rt (.lit true)) (fun _ r=>ch (rt (.lit true)) [m1 .lit dB,m3 .cmp dO (dT 50) (dT 50),m1 .no r]) f
def dA (f:Nat):D Ab:=Nat.rec (motive:=fun _=>D Ab) (rt .any) (fun _ r=>ch (rt .any) [
 rt .any,m1 .bool (dS 9),m2 .int dK (dT 50),m1 .str (ls nt),m2 .ptr nt nt,rt .nilPtr,m4 .slice nt nt nt nt,m4 .gslice nt nt nt nt,rt .nilSlice,m1 .map nt,rt .nilMap,m3 .func nt (ls r) (ls r),rt .nilFunc,m2 .iface nt r,rt .nilIface,
 m1 .agg (ls r),m1 .tuple (ls r),m1 .anyStr nt,m1 .gbytes nt,m1 .glen nt,m1 .svar nt,m4 .lst dB nt nt (dT 50),m3 .lptr nt (dT 50) nt,m3 .vec nt nt (dT 50),m4 .vptr nt nt (dT 50) nt,
 m1 (fun n=>.int .i64 (.var n)) fn,m2 (fun k n=>.int k (.var n)) dK fn,m1 (fun n=>.bool (.cmp .neq (.var n) (.lit (.ofNat 0)))) fn,m1 .svar fs,m4 (fun f e l n=>.lst f l e (.var n)) dB nt fl fn,m3 (fun b e n=>.vec b e (.var n)) nt nt fn,m1 (fun d=>.int .i64 (.lit (.ofNat d))) (dg 8)]) f
def dV:D Ab:=dA 50
def dBl:D Block:=ch (rt (.cells [])) [m1 .cells (ls dV),m2 (fun c e=>.map e c) nt (ls (m3 Entry.mk dV dV nt)),m2 .typed nt (ls dV),m2 .bytes nt nt,m2 .sbytes (dT 50) nt,m2 .list nt nt,m1 .smap nt,m2 .list fl nt,m1 .smap fm,m2 (fun n e=>.sbytes (.var n) e) fn nt]
def dNs (n:Nat):Nat->D (List ST):=Nat.rec (motive:=fun _=>Nat->D (List ST)) (fun _=>rt []) (fun _ ih p=>bd (dg 2) fun b=>bif Nat.beq b 0 then fc (Nat.succ p) fun q=>bd (ih q) fun l=>rt (.var p::l)else
 bd (dT 50) fun t=>bd (match t with|.var i=>fc (Nat.succ i) ih|_=>fc (Nat.succ p) ih) fun l=>rt (t::l)) n
def dLs (n:Nat):Nat->D (List Nat):=Nat.rec (motive:=fun _=>Nat->D (List Nat)) (fun _=>rt []) (fun _ ih p=>bd (dg 2) fun b=>bif Nat.beq b 0 then fc (Nat.succ p) fun q=>bd (ih q) fun l=>rt (p::l)else
 bd nt fun t=>fc (Nat.succ t) fun q=>bd (ih q) fun l=>rt (t::l)) n
def dSs (n:Nat):Nat->D (List Ab):=Nat.rec (motive:=fun _=>Nat->D (List Ab)) (fun _=>rt []) (fun _ ih p=>bd (dg 2) fun b=>bif Nat.beq b 0 then fc (Nat.succ p) fun q=>bd (ih q) fun l=>rt (.svar p::l)else
 bd (dA 3) fun t=>bd (match t with|.svar i=>fc (Nat.succ i) ih|_=>fc (Nat.succ p) ih) fun l=>rt (t::l)) n
def Aku:D CD:=m4 CD.mk (bd nt fun n=>dNs n 0) (bd (dg 8) fun n=>dSs n 0) (bd (dg 16) fun n=>dLs n 0) (bd (dg 4) fun n=>dLs n 0)
def Akv:D CH:=m4 CH.mk nt (dg 8) (dg 16) (dg 4)
def dP:D AE:=ch (rt (.all 0)) [m1 .els (ls (ls (dA 50))),m1 .all nt,m2 .take nt (dT 50),m2 .drop nt (dT 50)]
def dQ:D Nat:=bd nt fun k=>bd (dg 2) fun b=>bif Nat.beq b 0 then rt k else fc (k+1099511627776) rt
def dTr (H:List (List CK)) (f:Nat):D Tree:=Nat.rec (motive:=fun _=>D Tree) (rt .fail) (fun _ r=>ch (rt .fail) [
 rt .fail,m3 .leaf (dg 8) (ls dQ) Aku,m5 .test (bd (dg 6) fun d=>rt (pk .eql [.eql,.neq,.lss,.leq,.gtr,.geq] d)) (dT 50) (dT 50) r r,
 m4 .BI nt dI r r,m4 .sets nt (ls (dg 256)) r r,m4 .elem nt (dT 50) (m1 (pk [] H) nt) r,m3 .Br nt (dT 50) r,m4 .BQ nt nt nt r,m4 .FC (dA 3) (dA 3) r r,m3 .cat (dA 3) (dA 3) r,
 m3 .JH (ls dP) (m1 (pk [] H) nt) r,m5 .look nt (dA 3) (m1 (pk [] H) nt) r r,m5 .up nt (dA 3) (ls (dA 50)) (m1 (pk [] H) nt) r,
 m3 .Kr (ls (pr (dA 3) (ls (dA 50)))) (m1 (pk [] H) nt) r,m3 .bump (dT 50) nt r,bd dQ fun a=>m5 (fun b c d e k=>.Oh (a,b,c,d,e) k) nt nt nt nt r,
 bd (dg 256) fun c=>m5 (.call c) (dg 8) Aku Akv r r]) f
def tree (H:List (List CK)) (N:Nat):Tree:=(dTr H 5000 {} N).1
def iN (P:List Nat) (n:Nat):Nat:=bif Nat.ble 1099511627776 n then n-1099511627776+pk 0 P 0 else n
def iS (P:List Nat):ST->ST
 |.lit (.negSucc k)=>bif Nat.beq k 1099511627775 then .lit (.ofNat (pk 0 P 0))else .lit (.negSucc k)
 |.bin o k a b=>.bin o k (iS P a) (iS P b)
 |.conv k a=>.conv k (iS P a)
 |t=>t
def Akh (s:ST->ST) (t:CD):CD:=⟨t.n.map s,t.s,t.l,t.m⟩
def inst (s:ST->ST) (P:List Nat):Tree->Tree
 |.leaf a nw t=>.leaf a (nw.map (iN P)) (Akh s t)
 |.test o a b t e=>.test o (s a) (s b) (inst s P t) (inst s P e)
 |.BI i n t e=>.BI i n (inst s P t) (inst s P e)
 |.sets i n t e=>.sets i n (inst s P t) (inst s P e)
 |.elem l j sh k=>.elem l j sh (inst s P k)
 |.Br l t k=>.Br l t (inst s P k)
 |.BQ l a b k=>.BQ l a b (inst s P k)
 |.FC x y t e=>.FC x y (inst s P t) (inst s P e)
 |.cat x y k=>.cat x y (inst s P k)
 |.JH ps sh k=>.JH ps sh (inst s P k)
 |.look m y sh t e=>.look m y sh (inst s P t) (inst s P e)
 |.up m y cs sh k=>.up m y cs sh (inst s P k)
 |.Kr es sh k=>.Kr es sh (inst s P k)
 |.bump t n k=>.bump t n (inst s P k)
 |.Oh (a,r) k=>.Oh (iN P a,r) (inst s P k)
 |.call c a t o k e=>.call (bif Nat.ble 240 c then pk 0 P (c-239)else c) a (Akh s t) o (inst s P k) (inst s P e)
 |.fail=>.fail
def cn (c0:CH):D CH:=bd gc fun c=>bd (dg 2) fun b=>bif Nat.beq b 0 then rt ⟨c.n-c0.n,c.s-c0.s,c.l-c0.l,c.m-c0.m⟩else Akv
def dPo (pre:List Block) (n:Nat):Nat->D (List (Option Block)):=Nat.rec (motive:=fun _=>Nat->D (List (Option Block))) (fun _=>rt []) (fun _ ih i=>bd (ch (rt none) [rt none,rt (some (pk (.cells []) pre i)),m1 some dBl]) fun b=>fc (Nat.succ i) fun j=>bd (ih j) fun l=>rt (b::l)) n
def dPs (pre:List Block):D (List (Option Block)):=bd nt fun n=>dPo pre n 0
def dSp:D Spec:=bd (dg 1024) fun f=>ch (rt ⟨0,{},[]⟩) [
 bd (ls dV) fun a=>bd (ls dBl) fun p=>bd (cn {}) fun i=>bd gc fun c=>m1 (Spec.mk f i) (ls (bd (sc c) fun _=>bd dV fun r=>bd (dPs p) fun q=>bd (cn c) fun o=>rt ⟨o,.call ⟨a,p,r,q⟩⟩)),
 bd nt fun id=>bd (ls (pr nt dV)) fun t=>bd (ls dBl) fun p=>bd (ls (pr nt (ls dV))) fun df=>bd (cn {}) fun i=>bd gc fun c=>m1 (Spec.mk f i) (ls (bd (sc c) fun _=>bd (ls (pr nt dV)) fun t'=>bd (dPs p) fun q=>bd dB fun j=>bd (cn c) fun o=>rt ⟨o,.loop ⟨id,t,p,t',q,df,j⟩⟩))]
def spec (N:Nat):Spec:=(dSp {} N).1
end
end Dc
end
end Go.AM
