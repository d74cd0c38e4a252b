/- Part 1 of MeaningExpressions. -/
import Derived.Orders
import Derived.Laws.Entries
import Derived.Laws.Strings
import Derived.Laws.StructEq
import Derived.Laws.Slices
import Derived.Laws.Strings2
import Derived.Laws.Unary
import Derived.Laws.Build
import Derived.Laws.Pointers
import Derived.WideLaws
import Derived.LaidEql
set_option linter.all false
namespace Go.AM
section
theorem oI {α:Type} {a b:α}:(some a=some b)=(a=b):=Option.some.injEq a b
theorem lA {α:Type} {a b:List α}:(a++b).length=a.length+b.length:=List.length_append
theorem lC {α:Type} {a:α} {b:List α}:(a::b).length=b.length+1:=List.length_cons
theorem lN {α:Type}:([]:List α).length=0:=List.length_nil
theorem lT' {α:Type} {n:Nat} {a:List α}:(a.take n).length=min n a.length:=List.length_take
theorem aT {a b:Bool}:((a&&b)=true)=(a=true/\b=true):=Bool.and_eq_true a b
theorem mS {α β:Type} {f:α->β} {o:Option α} {b:β} (h:o.map f=some b):∃a,o=some a/\f a=b:=Option.map_eq_some_iff.1 h
theorem cL {α:Type} {a b:List α} (h:a=b):a.length=b.length:=congrArg List.length h
noncomputable section
def ile:Int->Int->Bool
 |.ofNat a,.ofNat b=>Nat.ble a b
 |.negSucc _,.ofNat _=>true
 |.ofNat _,.negSucc _=>false
 |.negSucc a,.negSucc b=>Nat.ble b a
def Ze:Int->Int->Bool
 |.ofNat a,.ofNat b=>Nat.beq a b
 |.negSucc a,.negSucc b=>Nat.beq a b
 |_,_=>false
def ilt (a b:Int):Bool:=!(ile b a)
def Vg:IntKind->Nat
 |.i8=>0|.i16=>1|.i32=>2|.i64=>3|.u8=>4|.u16=>5|.u32=>6|.u64=>7
def Vh (a b:IntKind):Bool:=Nat.beq (Vg a) (Vg b)
def modulus:IntKind->Nat
 |.i8=>256|.u8=>256
 |.i16=>65536|.u16=>65536
 |.i32=>4294967296|.u32=>4294967296
 |.i64=>18446744073709551616|.u64=>18446744073709551616
def Fo (n:Int) (m:Nat):Nat:=
 match n with
 |.ofNat a=>a%m
 |.negSucc a=>m-1-a%m
def Ij:IntKind->Bool
 |.i8=>true|.i16=>true|.i32=>true|.i64=>true
 |.u8=>false|.u16=>false|.u32=>false|.u64=>false
def back (k:IntKind) (m:Nat):Int:=
 bif Ij k&&Nat.ble (modulus k) (m+m)then .negSucc (modulus k-1-m)else .ofNat m
def Lc (k:IntKind) (n:Int):Int:=back k (Fo n (modulus k))
def WW (op:BinOp) (m a b:Nat):Nat:=
 match op with
 |.and=>Nat.land a b
 |.or=>Nat.lor a b
 |.xor=>Nat.xor a b
 |_=>Nat.land a (m-1-b)
def NF (op:BinOp) (k:IntKind) (x y:Int):Int:=
 back k (WW op (modulus k) (Fo x (modulus k)) (Fo y (modulus k)))
def XX:BinOp->Nat
 |.add=>0|.sub=>1|.mul=>2|.quo=>3|.rem=>4|.and=>5|.or=>6|.xor=>7|.shl=>8|.shr=>9|.andNot=>10
 |.eql=>11|.neq=>12|.lss=>13|.leq=>14|.gtr=>15|.geq=>16
def Od (a b:BinOp):Bool:=Nat.beq (XX a) (XX b)
def beq (a b:Bool):Bool:=bif a then b else !b
def AD {α β:Type} (o:Option α) (f:α->Option β):Option β:=
 Option.casesOn (motive:=fun _=>Option β) o none f
inductive ST where
 |lit (n:Int)
 |var (i:Nat)
 |bin (op:BinOp) (k:IntKind) (a b:ST)
 |conv (k:IntKind) (a:ST)
inductive SB where
 |lit (b:Bool)
 |cmp (op:BinOp) (a b:ST)
 |no (a:SB)
def ST.eq:ST->ST->Bool
 |.lit a,.lit b=>Ze a b
 |.var i,.var j=>Nat.beq i j
 |.bin o k a b,.bin o' k' a' b'=>Od o o'&&Vh k k'&&a.eq a'&&b.eq b'
 |.conv k a,.conv k' a'=>Vh k k'&&a.eq a'
 |_,_=>false
def SB.eq:SB->SB->Bool
 |.lit a,.lit b=>beq a b
 |.cmp o a b,.cmp o' a' b'=>Od o o'&&a.eq a'&&b.eq b'
 |.no a,.no b=>a.eq b
 |_,_=>false
inductive Aa where
 |any
 |bool (b:SB)
 |int (k:IntKind) (n:ST)
 |str (s:List Nat)
 |ptr (b off:Nat)
 |nilPtr
 |slice (b off len cap:Nat)
 |gslice (b off len es:Nat)
 |nilSlice
 |map (b:Nat)
 |nilMap
 |func (f:FuncId) (first captured:List Aa)
 |nilFunc
 |iface (t:TypeId) (v:Aa)
 |nilIface
 |agg (cells:List Aa)
 |tuple (vs:List Aa)
 |anyStr (n:Nat)
 |gbytes (b:Nat)
 |glen (b:Nat)
 |svar (i:Nat)
 |lst (full:Bool) (i es:Nat) (n:ST)
 |lptr (i:Nat) (j:ST) (off:Nat)
 |vec (b es:Nat) (n:ST)
 |vptr (b es:Nat) (j:ST) (off:Nat)
def Aa.single (v:Aa):Bool:=
 match v with
 |.agg _=>false
 |.tuple _=>false
 |.any=>false
 |_=>true
def Aa.cells (v:Aa):Option (List Aa):=
 match v with
 |.agg cs=>some cs
 |.tuple _=>none
 |.any=>none
 |v=>some [v]
def lit (k:IntKind) (n:Int):Aa:=.int k (.lit n)
def yes:Aa:=.bool (.lit true)
structure Entry where
 key:Aa
 val:Aa
 born:Nat
inductive Block where
 |cells (vs:List Aa)
 |map (es:List Entry) (clock:Nat)
 |typed (e:Nat) (vs:List Aa)
 |bytes (n e:Nat)
 |sbytes (n:ST) (e:Nat)
 |list (i es:Nat)
 |smap (i:Nat)
structure B7 where
 id:Nat
 X9:List (Nat×Aa)
 pre:List Block
 NY:List (Nat×Aa)
 post:List (Option Block)
 df:List (FuncId×List Aa):=[]
 out:Bool:=false
inductive AK where
 |els (es:List (List Aa))
 |all (i:Nat)
 |take (i:Nat) (n:ST)
 |drop (i:Nat) (n:ST)
structure Ao where
 DN:List (ST×Int):=[]
 tests:List (BinOp×ST×ST×Bool):=[]
 strs:List (Aa×Aa×Bool):=[]
 EA:List (Aa×Aa×Aa):=[]
 BT:List (Nat×ST×Nat×Nat):=[]
 Bs:List (Nat×ST):=[]
 elems:List (Nat×ST×List Aa):=[]
 defs:List (Nat×List AK):=[]
 looks:List (Nat×Aa×Option (List Aa)):=[]
 L8:List (Nat×Aa×List Aa×Nat):=[]
 CC:List (ST×Nat×ST):=[]
 CA:List (Nat×List (Aa×List Aa)):=[]
 Ou:List (Nat×Nat×Nat×Nat×Nat):=[]
 loops:List B7:=[]
def JD:List (ST×Int)->ST->Option Int
 |[],_=>none
 |(t,n)::r,x=>bif t.eq x then some n else JD r x
def BV:List (BinOp×ST×ST×Bool)->BinOp->ST->ST->Option Bool
 |[],_,_,_=>none
 |(o,s,t,v)::r,op,a,b=>bif Od o op&&s.eq a&&t.eq b then some v else BV r op a b
def numOf (Γ:Ao) (t:ST):ST:=
 match JD Γ.DN t with
 |some n=>.lit n
 |none=>t
def RZ (op:BinOp) (k:IntKind) (a b:Int):Option Int:=
 match op with
 |.add=>some (Lc k (a+b))
 |.sub=>some (Lc k (a-b))
 |.mul=>some (Lc k (a*b))
 |.quo=>bif Ze b 0 then none else some (Lc k (a.tdiv b))
 |.rem=>bif Ze b 0 then none else some (a.tmod b)
 |.and=>some (NF .and k a b)
 |.or=>some (NF .or k a b)
 |.xor=>some (NF .xor k a b)
 |.andNot=>some (NF .andNot k a b)
 |_=>none
def AcO (op:BinOp) (a b:Int):Option Bool:=
 match op with
 |.eql=>some (Ze a b)
 |.neq=>some (!(Ze a b))
 |.lss=>some (ilt a b)
 |.leq=>some (ile a b)
 |.gtr=>some (ilt b a)
 |.geq=>some (ile b a)
 |_=>none
def Mq (op:BinOp) (k:IntKind) (x:Int) (n:Nat):Option Int:=
 match op with
 |.shl=>some (Lc k (x*Int.ofNat (2^n)))
 |.shr=>some (x.fdiv (Int.ofNat (2^n)))
 |_=>none
def QD (op:BinOp) (k:IntKind) (x y:Int):Option Int:=
 match y with
 |.negSucc _=>none
 |.ofNat y=>Mq op k x (bif Nat.ble y k.bits then y else k.bits)
def total (op:BinOp) (b:ST):Bool:=
 match op with
 |.add=>true|.sub=>true|.mul=>true|.and=>true|.or=>true|.xor=>true|.andNot=>true
 |.quo=>(match b with|.lit n=>!(Ze n 0) |_=>false)
 |.rem=>(match b with|.lit n=>!(Ze n 0) |_=>false)
 |_=>false
def Xm (Γ:Ao) (op:BinOp) (b:ST):Bool:=
 match op with
 |.quo=>(match BV Γ.tests .eql b (.lit 0)with|some v=>!v|none=>false)
 |.rem=>(match BV Γ.tests .eql b (.lit 0)with|some v=>!v|none=>false)
 |_=>false
def VU (Γ:Ao) (op:BinOp) (k:IntKind) (a b:ST):Option ST:=
 bif total op b||Xm Γ op b then some (numOf Γ (.bin op k a b))else none
def arith (Γ:Ao) (op:BinOp) (k:IntKind) (a b:ST):Option ST:=
 match a,b with
 |.lit x,.lit y=>AD (RZ op k x y) fun n=>some (.lit n)
 |a,b=>VU Γ op k a b
def F3 (op:BinOp):Bool:=Nat.ble 11 (XX op)
def Nx (Γ:Ao) (op:BinOp) (a b:ST):Option SB:=
 bif F3 op then (match BV Γ.tests op a b with|some v=>some (.lit v) |none=>some (.cmp op a b))else none
def compare (Γ:Ao) (op:BinOp) (a b:ST):Option SB:=
 match a,b with
 |.lit x,.lit y=>AD (AcO op x y) fun v=>some (.lit v)
 |a,b=>Nx Γ op a b
def convert (Γ:Ao) (k:IntKind) (a:ST):ST:=
 match a with
 |.lit x=>.lit (Lc k x)
 |a=>numOf Γ (.conv k a)
inductive Tr (α:Type) where
 |nil
 |node (v:Option α) (l r:Tr α)
 |over (n:Nat) (v:Option α) (t:Tr α)
def Tr.get {α:Type} (t:Tr α):Nat->Option α:=
 Tr.rec (motive:=fun _=>Nat->Option α) (fun _=>none)
  (fun v _ _ j q n=>bif Nat.beq n 0 then v else bif Nat.beq (n%2) 1 then j (n/2)else q (n/2-1))
  (fun m v _ gt n=>bif Nat.beq n m then v else gt n) t
def Tr.set {α:Type} (t:Tr α):Nat->Option α->Tr α:=
 Tr.rec (motive:=fun _=>Nat->Option α->Tr α) (fun n x=>.over n x .nil)
  (fun v l r sl j n x=>bif Nat.beq n 0 then .node x l r else bif Nat.beq (n%2) 1 then .node v (sl (n/2) x) r else .node v l (j (n/2-1) x))
  (fun m v t q n x=>bif Nat.beq n m then .over m x t else .over m v (q n x)) t
def Tr.full (α:Type) (n:Nat):Tr α:=
 Nat.rec (motive:=fun _=>Tr α) .nil (fun _ ih=>.node none ih ih) n
structure Ak where
 DG:Tr Block
 next:Nat
 fx:Ao:={}
def Ak.get (h:Ak) (b:Nat):Option Block:=Tr.get h.DG b
def Ak.set (h:Ak) (b:Nat) (o:Option Block):Ak:=⟨Tr.set h.DG b o,h.next,h.fx⟩
def Ak.add (h:Ak) (B:Block):Ak:=⟨Tr.set h.DG h.next (some B),h.next+1,h.fx⟩
inductive Cu where
 |tmp (t:Nat)
 |con (v:Aa)
inductive LK where
 |bool
 |int
 |str
structure Cq where
 t:Nat
 agg:Bool
 Tb:List (Nat×LK)
inductive EqK where
 |plain (Tb:List (Nat×LK))
 |iface (nils:Bool) (ts:List Cq)
 |ptr
 |slice
 |map
 |func
 |bool
inductive POp where
 |mv (x:Cu)
 |pick (c a b:Cu)
 |build (zero:List Aa) (parts:List (Nat×Nat×Cu))
 |AhS (x:Cu)
 |bin (op:BinOp) (x y:Cu)
 |eqs (neg:Bool) (k:EqK) (x y:Cu)
 |un (op:UnOp) (x:Cu)
 |conv (k:IntKind) (x:Cu)
 |same (x:Cu)
 |iface (t:TypeId) (x:Cu)
 |func (f:FuncId) (first captured:List Cu)
 |subs (x:Cu) (lo hi:Option Cu)
 |reslice (size:Nat) (x:Cu) (lo hi mx:Option Cu)
 |V5 (off:Nat) (x:Cu)
 |field (off:Nat) (n:Option Nat) (x:Cu)
 |Aif (size:Nat) (x i:Cu)
 |Vj (len size:Nat) (x i:Cu)
 |idx (len size:Nat) (n:Option Nat) (x i:Cu)
 |Aie (x i:Cu)
 |ext (x:Cu) (i:Nat)
 |AhW (x:Cu)
 |AhX (x:Cu)
 |big (most:Bool) (xs:List Cu)
 |assert (t:TypeId) (zero:Option Aa) (x:Cu)
 |Abp (x:Cu)
inductive NV where
 |load (n:Option Nat) (x:Cu)
 |lookup (kk:LK) (zero:Aa) (ok:Bool) (x k:Cu)
 |lenM (x:Cu)
 |uptr (ok:List (Nat×Nat)) (x:Cu)
 |bstr (x:Cu)
inductive AOp where
 |box (t:Option Nat) (x:Cu)
 |zero (t:Option Nat) (cells:List Aa)
 |bslice (len:Nat) (zero:List Aa) (parts:List (Nat×Nat×Cu))
 |mkSlice (zero:List Aa) (l c:Cu)
 |mkMap
inductive MOp where
 |store (n:Nat) (a x:Cu)
 |call (f:Cu) (args:List Cu)
 |append (size:Nat) (u8:Option Nat) (bytes:Bool) (x y:Cu)
 |copy (size:Nat) (bytes:Bool) (x y:Cu)
 |mapUp (kk:LK) (m k v:Cu)
 |clone (x:Cu)
 |panic (x:Cu)
 |defer (f:Cu) (args:List Cu)
 |recover
 |Af3 (e:Nat) (p n:Cu)
 |AbZ (x:Cu)
inductive DF where
 |p (o:POp)
 |r (o:NV)
 |a (o:AOp)
 |m (o:MOp)
structure Step where
 dst:Option Nat
 guard:Option (Nat×Bool)
 op:DF
 back:Nat
inductive IC where
 |skip
 |region (draw:Bool) (steps:List Step)
 |seq (a b:IC)
 |cond (c:Cu) (t e:IC)
 |block (id:Nat) (b:IC)
 |loop (b:IC)
 |exit (id:Nat)
 |ret
inductive Sg where
 |tmp (t:Nat)
 |cell (t:Nat) (n:Option Nat)
structure E4 where
 depth:Nat
 results:List Sg
 body:IC
def CR (o:Option Bool):Bool:=
 match o with
 |some true=>true
 |_=>false
def Eu (o:Option Aa):Aa:=
 match o with
 |some v=>v
 |none=>.any
def ev (tm:Tr Aa) (x:Cu):Aa:=
 match x with
 |.tmp t=>Eu (Tr.get tm t)
 |.con v=>v
def Sj (tm:Tr Aa) (l:List Cu):List Aa:=
 List.rec (motive:=fun _=>List Aa) [] (fun x _ ih=>ev tm x::ih) l
def over (vs:List Aa):List Aa->Option (List Aa):=
 List.rec (motive:=fun _=>List Aa->Option (List Aa)) (fun j=>some j)
  (fun v _ ih j=>List.casesOn (motive:=fun _=>Option (List Aa)) j none (fun _ j=>AD (ih j) fun r=>some (v::r))) vs
def splice (vs:List Aa) (i:Nat):List Aa->Option (List Aa):=
 Nat.rec (motive:=fun _=>List Aa->Option (List Aa)) (fun j=>over vs j)
  (fun _ ih j=>List.casesOn (motive:=fun _=>Option (List Aa)) j none
   (fun x j=>AD (ih j) fun r=>some (x::r))) i
def taken (n:Nat):List Aa->Option (List Aa):=
 Nat.rec (motive:=fun _=>List Aa->Option (List Aa)) (fun _=>some [])
  (fun _ ih j=>List.casesOn (motive:=fun _=>Option (List Aa)) j none (fun x j=>AD (ih j) fun r=>some (x::r))) n
def dropped (n:Nat):List Aa->List Aa:=
 Nat.rec (motive:=fun _=>List Aa->List Aa) (fun j=>j) (fun _ ih j=>List.casesOn (motive:=fun _=>List Aa) j [] (fun _ j=>ih j)) n
def nth (l:List Aa):Nat->Option Aa:=
 List.rec (motive:=fun _=>Nat->Option Aa) (fun _=>none) (fun x _ ih n=>Nat.casesOn (motive:=fun _=>Option Aa) n (some x) (fun n=>ih n)) l
def Bs (l:List Aa):Nat:=
 List.rec (motive:=fun _=>Nat) 0 (fun _ _ ih=>ih+1) l
def rep (zero:List Aa) (n:Nat):List Aa:=
 Nat.rec (motive:=fun _=>List Aa) [] (fun _ ih=>zero++ih) n
def cut (j:List Aa) (i n:Nat):Option (List Aa):=taken n (dropped i j)
def F5 (cs:List Aa) (v:Aa) (j size:Nat):Option (List Aa):=
 AD v.cells fun vs=>bif Nat.beq (Bs vs) size then splice vs j cs else none
def HJ (tm:Tr Aa) (ps:List (Nat×Nat×Cu)):List Aa->Option (List Aa):=
 List.rec (motive:=fun _=>List Aa->Option (List Aa)) (fun cs=>some cs) (fun p _ ih cs=>AD (F5 cs (ev tm p.2.2) p.1 p.2.1) ih) ps
def O6 (x:List Nat):List Nat->Bool:=
 List.rec (motive:=fun _=>List Nat->Bool) (fun y=>List.casesOn (motive:=fun _=>Bool) y true (fun _ _=>false))
  (fun a _ ih y=>List.casesOn (motive:=fun _=>Bool) y false (fun b y=>Nat.beq a b&&ih y)) x
def ltL (x:List Nat):List Nat->Bool:=
 List.rec (motive:=fun _=>List Nat->Bool) (fun y=>List.casesOn (motive:=fun _=>Bool) y false (fun _ _=>true))
  (fun a _ ih y=>List.casesOn (motive:=fun _=>Bool) y false (fun b y=>Nat.blt a b||(Nat.beq a b&&ih y))) x
def I0 (l:List Nat):Nat:=
 List.rec (motive:=fun _=>Nat) 0 (fun _ _ ih=>ih+1) l
def Cb (l:List Nat):Nat->Option Nat:=
 List.rec (motive:=fun _=>Nat->Option Nat) (fun _=>none) (fun x _ ih n=>Nat.casesOn (motive:=fun _=>Option Nat) n (some x) (fun n=>ih n)) l
def UQ (n:Nat):List Nat->Option (List Nat):=
 Nat.rec (motive:=fun _=>List Nat->Option (List Nat)) (fun _=>some [])
  (fun _ ih j=>List.casesOn (motive:=fun _=>Option (List Nat)) j none (fun x j=>AD (ih j) fun r=>some (x::r))) n
def MD (n:Nat):List Nat->List Nat:=
 Nat.rec (motive:=fun _=>List Nat->List Nat) (fun j=>j) (fun _ ih j=>List.casesOn (motive:=fun _=>List Nat) j [] (fun _ j=>ih j)) n
def Aa.eqC (x y:Aa):Bool:=
 match x,y with
 |.bool a,.bool b=>a.eq b
 |.int k a,.int k' b=>Vh k k'&&a.eq b
 |.str a,.str b=>O6 a b
 |.ptr a b,.ptr c d=>Nat.beq a c&&Nat.beq b d
 |.nilPtr,.nilPtr=>true
 |.slice a b c d,.slice a' b' c' d'=>Nat.beq a a'&&Nat.beq b b'&&Nat.beq c c'&&Nat.beq d d'
 |.gslice a b c d,.gslice a' b' c' d'=>Nat.beq a a'&&Nat.beq b b'&&Nat.beq c c'&&Nat.beq d d'
 |.nilSlice,.nilSlice=>true
 |.map a,.map b=>Nat.beq a b
 |.nilMap,.nilMap=>true
 |.nilFunc,.nilFunc=>true
 |.nilIface,.nilIface=>true
 |.anyStr n,.anyStr n'=>Nat.beq n n'
 |.gbytes b,.gbytes b'=>Nat.beq b b'
 |.glen b,.glen b'=>Nat.beq b b'
 |.svar i,.svar j=>Nat.beq i j
 |.lst f i e n,.lst f' i' e' n'=>beq f f'&&(Nat.beq i i'&&(Nat.beq e e'&&n.eq n'))
 |.lptr i j o,.lptr i' j' o'=>Nat.beq i i'&&(j.eq j'&&Nat.beq o o')
 |.vec b e n,.vec b' e' n'=>Nat.beq b b'&&(Nat.beq e e'&&n.eq n')
 |.vptr b e j o,.vptr b' e' j' o'=>Nat.beq b b'&&(Nat.beq e e'&&(j.eq j'&&Nat.beq o o'))
 |_,_=>false
def Aa.Aev (x:List Aa):List Aa->Bool:=
 List.rec (motive:=fun _=>List Aa->Bool) (fun y=>List.casesOn (motive:=fun _=>Bool) y true (fun _ _=>false))
  (fun a _ ih y=>List.casesOn (motive:=fun _=>Bool) y false (fun b y=>a.eqC b&&ih y)) x
def Aa.eq (x y:Aa):Bool:=
 match x,y with
 |.func f a c,.func f' a' c'=>Nat.beq f f'&&(Aa.Aev a a'&&Aa.Aev c c')
 |x,y=>x.eqC y
def Aa.Px (x:List Aa):List Aa->Bool:=
 List.rec (motive:=fun _=>List Aa->Bool) (fun y=>List.casesOn (motive:=fun _=>Bool) y true (fun _ _=>false))
  (fun a _ ih y=>List.casesOn (motive:=fun _=>Bool) y false (fun b y=>a.eq b&&ih y)) x
def MH (x y:Aa) (l:List (Aa×Aa×Bool)):Option Bool:=
 List.rec (motive:=fun _=>Option Bool) none (fun e _ ih=>bif x.eq e.1&&y.eq e.2.1 then some e.2.2 else ih) l
def Acm (x y:Aa) (l:List (Aa×Aa×Aa)):Option Aa:=
 List.rec (motive:=fun _=>Option Aa) none (fun e _ ih=>bif x.eq e.1&&y.eq e.2.1 then some e.2.2 else ih) l
def WY (i:Nat) (l:List (Nat×ST×Nat×Nat)):Option (ST×Nat×Nat):=
 List.rec (motive:=fun _=>Option (ST×Nat×Nat)) none (fun e _ ih=>bif Nat.beq e.1 i then some e.2 else ih) l
def EH (i:Nat) (l:List (Nat×ST)):Option ST:=
 List.rec (motive:=fun _=>Option ST) none (fun e _ ih=>bif Nat.beq e.1 i then some e.2 else ih) l
def Pb (i:Nat) (t:ST) (l:List (Nat×ST×List Aa)):Option (List Aa):=
 List.rec (motive:=fun _=>Option (List Aa)) none (fun e _ ih=>bif Nat.beq e.1 i&&e.2.1.eq t then some e.2.2 else ih) l
def Ack (i:Nat) (k:Aa) (l:List (Nat×Aa×Option (List Aa))):Option (Option (List Aa)):=
 List.rec (motive:=fun _=>Option (Option (List Aa))) none (fun e _ ih=>bif Nat.beq e.1 i&&k.eq e.2.1 then some e.2.2 else ih) l
def Acj (i:Nat) (k:Aa) (cs:List Aa) (l:List (Nat×Aa×List Aa×Nat)):Option Nat:=
 List.rec (motive:=fun _=>Option Nat) none (fun e _ ih=>bif Nat.beq e.1 i&&(k.eq e.2.1&&Aa.Px cs e.2.2.1)then some e.2.2.2 else ih) l
def Acn (t:ST) (n:Nat) (l:List (ST×Nat×ST)):Option ST:=
 List.rec (motive:=fun _=>Option ST) none (fun e _ ih=>bif t.eq e.1&&Nat.ble n e.2.1 then some e.2.2 else ih) l
def Aim (x:List (List Aa)):List (List Aa)->Bool:=
 List.rec (motive:=fun _=>List (List Aa)->Bool) (fun y=>List.casesOn (motive:=fun _=>Bool) y true (fun _ _=>false))
  (fun a _ ih y=>List.casesOn (motive:=fun _=>Bool) y false (fun b y=>Aa.Px a b&&ih y)) x
def AK.eq (x y:AK):Bool:=
 match x,y with
 |.els a,.els b=>Aim a b
 |.all i,.all j=>Nat.beq i j
 |.take i n,.take j m=>Nat.beq i j&&n.eq m
 |.drop i n,.drop j m=>Nat.beq i j&&n.eq m
 |_,_=>false
def AK.Px (x:List AK):List AK->Bool:=
 List.rec (motive:=fun _=>List AK->Bool) (fun y=>List.casesOn (motive:=fun _=>Bool) y true (fun _ _=>false))
  (fun a _ ih y=>List.casesOn (motive:=fun _=>Bool) y false (fun b y=>a.eq b&&ih y)) x
def JE (p:List AK) (l:List (Nat×List AK)):Option Nat:=
 List.rec (motive:=fun _=>Option Nat) none (fun e _ ih=>bif AK.Px p e.2 then some e.1 else ih) l
def C4 (Γ:Ao) (op:BinOp) (a b:ST):Bool:=
 match compare Γ op a b with
 |some (.lit v)=>v
 |_=>false
def Uk (op:BinOp) (a b:List Nat):Option Aa:=
 match op with
 |.eql=>some (.bool (.lit (O6 a b)))
 |.neq=>some (.bool (.lit (!(O6 a b))))
 |.lss=>some (.bool (.lit (ltL a b)))
 |.leq=>some (.bool (.lit (ltL a b||O6 a b)))
 |.gtr=>some (.bool (.lit (!(ltL a b||O6 a b))))
 |.geq=>some (.bool (.lit (!(ltL a b))))
 |.add=>bif Nat.ble (I0 a+I0 b) 1048576 then some (.str (a++b))else none
 |_=>none
def DO (op:BinOp):Bool:=
 match op with
 |.shl=>true
 |.shr=>true
 |_=>false
def natural (Γ:Ao) (b:ST):Bool:=
 match b with
 |.lit n=>ile (.ofNat 0) n
 |b=>CR (BV Γ.tests .geq b (.lit (.ofNat 0)))
def Abf (Γ:Ao) (op:BinOp) (k:IntKind) (a b:ST):Option Aa:=
 bif natural Γ b then some (.int k (numOf Γ (.bin op k a b)))else none
def Abg (Γ:Ao) (op:BinOp) (k:IntKind) (a b:ST):Option Aa:=
 match a,b with
 |.lit a,.lit b=>AD (QD op k a b) fun n=>some (.int k (.lit n))
 |a,b=>Abf Γ op k a b
def AmJ (Γ:Ao) (op:BinOp) (k j:IntKind) (a b:ST):Option Aa:=
 bif DO op then Abg Γ op k a b
 else bif !(Vh k j)then none
 else bif F3 op then AD (compare Γ op a b) fun v=>some (.bool v)
 else AD (arith Γ op k a b) fun n=>some (.int k n)
def AcV (Γ:Ao) (op:BinOp) (x y:Aa):Option Aa:=
 match op with
 |.eql=>AD (MH x y Γ.strs) fun v=>some (.bool (.lit v))
 |.neq=>AD (MH x y Γ.strs) fun v=>some (.bool (.lit (!v)))
 |.add=>Acm x y Γ.EA
 |_=>none
def Aix (Γ:Ao) (op:BinOp) (x y:Aa):Option Aa:=
 match x,y with
 |.int k a,.int k' b=>AmJ Γ op k k' a b
 |.str a,.str b=>Uk op a b
 |.svar i,.str b=>AcV Γ op (.svar i) (.str b)
 |.str a,.svar j=>AcV Γ op (.str a) (.svar j)
 |.svar i,.svar j=>AcV Γ op (.svar i) (.svar j)
 |_,_=>none
def AhV (b:Option SB):Option Bool:=
 match b with
 |some (.lit v)=>some v
 |_=>none
def Jg (Γ:Ao) (k:LK) (x y:Aa):Option Bool:=
 match k,x,y with
 |.int,.int k a,.int k' b=>bif Vh k k' then AhV (compare Γ .eql a b)else none
 |.bool,.bool (.lit a),.bool (.lit b)=>some (beq a b)
 |.str,.str a,.str b=>some (O6 a b)
 |.str,.svar i,.str b=>MH (.svar i) (.str b) Γ.strs
 |.str,.str a,.svar j=>MH (.str a) (.svar j) Γ.strs
 |.str,.svar i,.svar j=>MH (.svar i) (.svar j) Γ.strs
 |_,_,_=>none
def TC (Γ:Ao) (x y:List Aa) (o:Nat×LK):Option Bool:=
 AD (nth x o.1) fun a=>AD (nth y o.1) fun b=>Jg Γ o.2 a b
def Da (Γ:Ao) (x y:List Aa) (l:List (Nat×LK)):Option Bool:=
 List.rec (motive:=fun _=>Option Bool) (some true) (fun o _ ih=>AD (TC Γ x y o) fun e=>bif e then ih else some false) l
def Acl (t:Nat) (l:List Cq):Option Cq:=
 List.rec (motive:=fun _=>Option Cq) none (fun a _ ih=>bif Nat.beq a.t t then some a else ih) l
def RH (Γ:Ao) (Tb:List (Nat×LK)) (x y:Aa):Option Bool:=
 match x,y with
 |.agg xs,.agg ys=>Da Γ xs ys Tb
 |_,_=>none
def KB (v:Aa):Bool:=
 match v with
 |.agg _=>true
 |_=>false
def Xj (Γ:Ao) (h:Cq) (a b:Aa):Option Bool:=
 bif beq (KB a) h.agg&&beq (KB b) h.agg then AD a.cells fun a=>AD b.cells fun b=>Da Γ a b h.Tb else none
def AcH (Γ:Ao) (ts:List Cq) (t u:Nat) (a b:Aa):Option Bool:=
 bif Nat.beq t u then (AD (Acl t ts) fun h=>Xj Γ h a b)else some false
def RK (Γ:Ao) (j:Bool) (ts:List Cq) (x y:Aa):Option Bool:=
 match x,y with
 |.iface t a,.iface u b=>AcH Γ ts t u a b
 |.nilIface,.nilIface=>bif j then some true else none
 |.nilIface,.iface _ _=>some false
 |.iface _ _,.nilIface=>some false
 |_,_=>none
def AcF (x y:Aa):Option Bool:=
 match x,y with
 |.nilPtr,.nilPtr=>some true
 |.nilPtr,.ptr _ _=>some false
 |.ptr _ _,.nilPtr=>some false
 |.ptr b o,.ptr b' o'=>bif Nat.beq b b'&&Nat.beq o o' then some true else none
 |_,_=>none
def RF (x y:Aa):Option Bool:=
 match x,y with
 |.nilSlice,.nilSlice=>some true
 |.slice _ _ _ _,.nilSlice=>some false
 |.nilSlice,.slice _ _ _ _=>some false
 |.gslice _ _ _ _,.nilSlice=>some false
 |.nilSlice,.gslice _ _ _ _=>some false
 |_,_=>none
def AcG (x y:Aa):Option Bool:=
 match x,y with
 |.nilMap,.nilMap=>some true
 |.map _,.nilMap=>some false
 |.nilMap,.map _=>some false
 |_,_=>none
def V8 (x y:Aa):Option Bool:=
 match x,y with
 |.nilFunc,.nilFunc=>some true
 |.func _ _ _,.nilFunc=>some false
 |.nilFunc,.func _ _ _=>some false
 |_,_=>none
def V9 (x y:Aa):Option Bool:=
 match x,y with
 |.bool (.lit a),.bool (.lit b)=>some (beq a b)
 |_,_=>none
def eqA (Γ:Ao) (k:EqK) (x y:Aa):Option Bool:=
 match k with
 |.plain Tb=>RH Γ Tb x y
 |.iface nils ts=>RK Γ nils ts x y
 |.ptr=>AcF x y
 |.slice=>RF x y
 |.map=>AcG x y
 |.func=>V8 x y
 |.bool=>V9 x y
def unA (Γ:Ao) (op:UnOp) (x:Aa):Option Aa:=
 match op,x with
 |.neg,.int k a=>AD (arith Γ .sub k (.lit (.ofNat 0)) a) fun n=>some (.int k n)
 |.xor,.int k a=>AD (arith Γ .xor k (.lit (bif Ij k then .negSucc 0 else .ofNat (modulus k-1))) a) fun n=>some (.int k n)
 |.not,.bool (.lit b)=>some (.bool (.lit (!b)))
 |.not,.bool b=>some (.bool (.no b))
 |_,_=>none
def C9 (x:Aa):Option Nat:=
 match x with
 |.int _ (.lit (.ofNat n))=>some n
 |_=>none
def Cg (tm:Tr Aa) (d:Nat) (x:Option Cu):Option Nat:=
 match x with
 |none=>some d
 |some x=>C9 (ev tm x)
def AdZ (tm:Tr Aa) (x:Option Cu):Option (Option Nat):=
 match x with
 |none=>none
 |some x=>some (C9 (ev tm x))
def VT (Γ:Ao) (most:Bool) (a b:Aa):Option Aa:=
 match a,b with
 |.int k a,.int k' b=>bif Vh k k' then (match (bif most then compare Γ .lss a b else compare Γ .lss b a)with|some (.lit c)=>some (.int k (bif c then b else a)) |_=>none)else none
 |_,_=>none
def Ae9 (Γ:Ao) (most:Bool) (l:List Aa):Aa->Option Aa:=
 List.rec (motive:=fun _=>Aa->Option Aa) (fun a=>some a) (fun b _ ih a=>AD (VT Γ most a b) ih) l
def AbB (c a b:Aa):Option Aa:=
 match c with
 |.bool (.lit v)=>some (bif v then a else b)
 |_=>none
def NA (cs:Option (List Aa)):Option Aa:=AD cs fun cs=>some (.agg cs)
def Aca (x:Aa):Option Aa:=
 match x with
 |.ptr b o=>some (.ptr b o)
 |.func f a c=>some (.func f a c)
 |.lptr i j o=>some (.lptr i j o)
 |.vptr b e j o=>some (.vptr b e j o)
 |_=>none
def Je (Γ:Ao) (j:Bool) (k:EqK) (x y:Aa):Option Aa:=
 AD (eqA Γ k x y) fun b=>some (.bool (.lit (bif j then !b else b)))
def AcM (Γ:Ao) (k:IntKind) (x:Aa):Option Aa:=
 match x with
 |.int _ n=>some (.int k (convert Γ k n))
 |_=>none
def Abq (x:Aa):Option Aa:=
 match x with
 |.str s=>some (.str s)
 |_=>none
def AeM (s:List Nat) (l h n:Nat):Option Aa:=
 bif Nat.ble l h&&Nat.ble h n then AD (UQ (h-l) (MD l s)) fun r=>some (.str r)else none
def Aat (x:Aa) (lo:Option Nat) (j:Nat->Option Nat):Option Aa:=
 match x with
 |.str s=>AD lo fun l=>AD (j (I0 s)) fun h=>AeM s l h (I0 s)
 |_=>none
def SK (size b j c l h:Nat):Option Aa:=
 bif Nat.ble l h&&Nat.ble h c then some (.slice b (bif Nat.beq c l then j else j+l*size) (h-l) (c-l))else none
def SI (size b j len q l h:Nat):Option Aa:=
 bif Nat.ble l h&&Nat.ble h len&&Nat.beq size q then
  (bif Nat.beq l 0 then some (.gslice b j h q)
   else bif Nat.blt l h then some (.gslice b (j+l*size) (h-l) q)else none)else none
def J5 (size b j len l h m:Nat):Option Aa:=
 bif Nat.ble l h&&Nat.ble h m&&Nat.ble m len then some (.slice b (bif Nat.beq m l then j else j+l*size) (h-l) (m-l))else none
def FR (size:Nat) (x:Aa) (lo:Option Nat) (j:Nat->Option Nat) (q:Option (Option Nat)):Option Aa:=
 match x,q with
 |.slice b off len c,none=>AD lo fun l=>AD (j len) fun h=>SK size b off c l h
 |.gslice b off len es,none=>AD lo fun l=>AD (j len) fun h=>SI size b off len es l h
 |.slice b off len _,some m=>AD lo fun l=>AD (j len) fun h=>AD m fun m=>J5 size b off len l h m
 |.gslice b off len _,some m=>AD lo fun l=>AD (j len) fun h=>AD m fun m=>J5 size b off len l h m
 |.nilSlice,none=>AD lo fun l=>AD (j 0) fun h=>bif Nat.beq l 0&&Nat.beq h 0 then some .nilSlice else none
 |_,_=>none
def RC (q:Nat) (x:Aa):Option Aa:=
 match x with
 |.ptr b o=>some (.ptr b (o+q))
 |.lptr i j o=>some (.lptr i j (o+q))
 |.vptr b e j o=>some (.vptr b e j (o+q))
 |_=>none
def J9 (cs:List Aa) (j:Nat) (n:Option Nat):Option Aa:=
 match n with
 |some n=>AD (cut cs j n) fun r=>some (.agg r)
 |none=>nth cs j
def V4 (j:Nat) (n:Option Nat) (x:Aa):Option Aa:=
 match x with
 |.agg cs=>J9 cs j n
 |_=>none
def Xd (size b j len:Nat) (i:Option Nat):Option Aa:=
 AD i fun i=>bif Nat.blt i len then some (.ptr b (j+i*size))else none
def AeY (Γ:Ao) (size i j:Nat) (n:ST) (v:Aa):Option Aa:=
 match v with
 |.int _ t=>bif Nat.beq size j&&(C4 Γ .geq t (.lit (.ofNat 0))&&C4 Γ .lss t n)then some (.lptr i t 0)else none
 |_=>none
def AeX (Γ:Ao) (size b j:Nat) (n:ST) (v:Aa):Option Aa:=
 match v with
 |.int _ t=>bif Nat.beq size j&&(C4 Γ .geq t (.lit (.ofNat 0))&&C4 Γ .lss t n)then some (.vptr b j t 0)else none
 |_=>none
def Acy (Γ:Ao) (size:Nat) (x v:Aa) (i:Option Nat):Option Aa:=
 match x with
 |.vec b es n=>AeX Γ size b es n v
 |.lst _ j es n=>AeY Γ size j es n v
 |.slice b off len _=>Xd size b off len i
 |.gslice b off len _=>Xd size b off len i
 |_=>none
def Rp (len size:Nat) (x:Aa) (i:Option Nat):Option Aa:=
 match x with
 |.ptr b off=>AD i fun i=>bif Nat.blt i len then some (.ptr b (off+i*size))else none
 |_=>none
def Aid (len size:Nat) (n:Option Nat) (x:Aa) (i:Option Nat):Option Aa:=
 match x with
 |.agg cs=>AD i fun i=>bif Nat.blt i len then J9 cs (i*size) n else none
 |_=>none
def Acx (x:Aa) (i:Option Nat):Option Aa:=
 match x with
 |.str s=>AD i fun i=>AD (Cb s i) fun c=>some (.int .u8 (.lit (.ofNat c)))
 |_=>none
def Aik (x:Aa) (i:Nat):Option Aa:=
 match x with
 |.tuple vs=>nth vs i
 |_=>none
def Aco (Γ:Ao) (x:Aa):Option Aa:=
 match x with
 |.svar i=>AD (WY i Γ.BT) fun r=>some (.int .i64 r.1)
 |.str s=>some (lit .i64 (.ofNat (I0 s)))
 |.anyStr _=>some .any
 |_=>none
def Acp (x:Aa):Option Aa:=
 match x with
 |.slice _ _ n _=>some (lit .i64 (.ofNat n))
 |.gslice _ _ n _=>some (lit .i64 (.ofNat n))
 |.nilSlice=>some (lit .i64 (.ofNat 0))
 |.gbytes b=>some (.glen b)
 |.lst _ _ _ n=>some (.int .i64 n)
 |.vec _ _ n=>some (.int .i64 n)
 |_=>none
def RX (t:TypeId) (zero:Option Aa) (x:Aa):Option Aa:=
 match x,zero with
 |.iface u v,none=>bif Nat.beq u t then some v else none
 |.iface u v,some z=>some (bif Nat.beq u t then .tuple [v,.bool (.lit true)]else .tuple [z,.bool (.lit false)])
 |.nilIface,some z=>some (.tuple [z,.bool (.lit false)])
 |_,_=>none
def UE (x:Aa):Option Aa:=
 match x with
 |.nilSlice=>some .nilPtr
 |.gbytes b=>some (.ptr b 0)
 |_=>none
def AmK (Γ:Ao) (most:Bool) (j:List Aa):Option Aa:=
 match j with
 |[]=>none
 |x::r=>Ae9 Γ most r x
def J6 (Γ:Ao) (i q:Nat) (n:ST) (lo v:Option Aa):Option Aa:=
 match lo,v with
 |none,some (.int _ t)=>AD (JE [.take i t] Γ.defs) fun j=>some (.lst false j q t)
 |some (.int _ (.lit (.ofNat 0))),some (.int _ t)=>AD (JE [.take i t] Γ.defs) fun j=>some (.lst false j q t)
 |some (.int _ t),none=>AD (JE [.drop i t] Γ.defs) fun j=>AD (EH j Γ.Bs) fun u=>some (.lst false j q u)
 |_,_=>none
def SJ (Γ:Ao) (f:Bool) (i j:Nat) (n:ST) (lo q:Option Aa):Option Aa:=
 match lo,q with
 |none,none=>some (.lst f i j n)
 |none,some (.int k t)=>bif t.eq n then some (.lst f i j n)else J6 Γ i j n none (some (.int k t))
 |lo,q=>J6 Γ i j n lo q
def SH (Γ:Ao) (b j:Nat) (n:ST) (lo q:Option Aa):Option Aa:=
 match lo,q with
 |none,none=>some (.vec b j n)
 |none,some (.int _ t)=>bif C4 Γ .geq t (.lit (.ofNat 0))&&C4 Γ .leq t n then some (.vec b j t)else none
 |_,_=>none
def Mw (Γ:Ao) (size:Nat) (x:Aa) (lo j:Option Aa):Option Aa:=
 match x with
 |.lst f i es n=>bif Nat.beq size es then SJ Γ f i es n lo j else none
 |.vec b es n=>bif Nat.beq size es then SH Γ b es n lo j else none
 |_=>none
def Alw (x:Aa):Bool:=
 match x with
 |.lst _ _ _ _=>true
 |.vec _ _ _=>true
 |_=>false
def LA (tm:Tr Aa) (x:Option Cu):Option Aa:=
 match x with
 |some x=>some (ev tm x)
 |none=>none
def FQ (Γ:Ao) (tm:Tr Aa) (size:Nat) (x:Aa) (lo q j:Option Cu):Option Aa:=
 match Alw x,j with
 |true,none=>Mw Γ size x (LA tm lo) (LA tm q)
 |_,_=>FR size x (Cg tm 0 lo) (fun d=>Cg tm d q) (AdZ tm j)
def I9 (Γ:Ao) (tm:Tr Aa) (o:POp):Option Aa:=
 match o with
 |.mv x=>some (ev tm x)
 |.pick c a b=>AbB (ev tm c) (ev tm a) (ev tm b)
 |.build zero parts=>NA (HJ tm parts zero)
 |.AhS x=>Aca (ev tm x)
 |.bin op x y=>Aix Γ op (ev tm x) (ev tm y)
 |.eqs neg k x y=>Je Γ neg k (ev tm x) (ev tm y)
 |.un op x=>unA Γ op (ev tm x)
 |.conv k x=>AcM Γ k (ev tm x)
 |.same x=>Abq (ev tm x)
 |.iface t x=>some (.iface t (ev tm x))
 |.func f a c=>some (.func f (Sj tm a) (Sj tm c))
 |.subs x lo hi=>Aat (ev tm x) (Cg tm 0 lo) (fun d=>Cg tm d hi)
 |.reslice size x lo hi mx=>FQ Γ tm size (ev tm x) lo hi mx
 |.V5 off x=>RC off (ev tm x)
 |.field off n x=>V4 off n (ev tm x)
 |.Aif size x i=>Acy Γ size (ev tm x) (ev tm i) (C9 (ev tm i))
 |.Vj len size x i=>Rp len size (ev tm x) (C9 (ev tm i))
 |.idx len size n x i=>Aid len size n (ev tm x) (C9 (ev tm i))
 |.Aie x i=>Acx (ev tm x) (C9 (ev tm i))
 |.ext x i=>Aik (ev tm x) i
 |.AhW x=>Aco Γ (ev tm x)
 |.AhX x=>Acp (ev tm x)
 |.big most xs=>AmK Γ most (Sj tm xs)
 |.assert t zero x=>RX t zero (ev tm x)
 |.Abp x=>UE (ev tm x)
def cellsOf (o:Option Block):Option (List Aa):=
 match o with
 |some (.cells vs)=>some vs
 |some (.typed _ vs)=>some vs
 |_=>none
def AeT (o:Option Block) (vs:List Aa):Block:=
 match o with
 |some (.typed e _)=>.typed e vs
 |_=>.cells vs
def bytesOf (o:Option Block):Option (Nat×Nat):=
 match o with
 |some (.bytes n e)=>some (n,e)
 |_=>none
def mapOf (o:Option Block):Option (List Entry×Nat):=
 match o with
 |some (.map es c)=>some (es,c)
 |_=>none
def ML (o:Option Block):Option (Nat×Nat):=
 match o with
 |some (.list i es)=>some (i,es)
 |_=>none
def elemV (Γ:Ao) (o:Option Block) (q:Nat) (j:ST):Option (List Aa):=
 AD (ML o) fun l=>bif Nat.beq l.2 q then Pb l.1 j Γ.elems else none
def MK (Γ:Ao) (h:Ak) (n:Option Nat) (x:Aa):Option Aa:=
 match x with
 |.vptr b es j off=>AD (elemV Γ (h.get b) es j) fun vs=>J9 vs off n
 |.lptr i j off=>AD (Pb i j Γ.elems) fun vs=>J9 vs off n
 |.ptr b off=>AD (cellsOf (h.get b)) fun vs=>J9 vs off n
 |_=>none
def Ph (kk:LK) (x y:Aa):Option Bool:=
 match kk,x,y with
 |.int,.int k (.lit a),.int k' (.lit b)=>bif Vh k k' then some (Ze a b)else none
 |.str,.str a,.str b=>some (O6 a b)
 |.bool,.bool (.lit a),.bool (.lit b)=>some (beq a b)
 |_,_,_=>none
def Ac8 (Γ:Ao) (kk:LK) (k:Aa) (j:List Entry):Option (Option Aa):=
 List.rec (motive:=fun _=>Option (Option Aa)) (some none) (fun e _ ih=>AD (Jg Γ kk k e.key) fun b=>bif b then some (some e.val)else ih) j
def Aew (j:List Entry):Nat:=
 List.rec (motive:=fun _=>Nat) 0 (fun _ _ ih=>ih+1) j
def Vx (ok:Bool) (v:Aa) (b:Bool):Aa:=bif ok then .tuple [v,.bool (.lit b)]else v
def Aly (ok:Bool) (zero:Aa) (r:Option Aa):Aa:=
 match r with
 |some v=>Vx ok v true
 |none=>Vx ok zero false
def IS (o:Option Block):Option Nat:=
 match o with
 |some (.smap i)=>some i
 |_=>none
def AeS (Γ:Ao) (i:Nat) (k zero:Aa) (ok:Bool):Option Aa:=
 AD (Ack i k Γ.looks) fun r=>match r with
  |some cs=>some (Vx ok (.agg cs) true)
  |none=>some (Vx ok zero false)
def PU (kk:LK) (k:Aa):Bool:=
 match kk,k with
 |.str,.str _=>true
 |.str,.svar _=>true
 |_,_=>false
def Vb (Γ:Ao) (h:Ak) (kk:LK) (b:Nat) (k zero:Aa) (ok:Bool):Option Aa:=
 match IS (h.get b)with
 |some i=>bif PU kk k then AeS Γ i k zero ok else none
 |none=>AD (mapOf (h.get b)) fun m=>AD (Ac8 Γ kk k m.1) fun r=>some (Aly ok zero r)
def WZ (Γ:Ao) (h:Ak) (kk:LK) (m k zero:Aa) (ok:Bool):Option Aa:=
 match m with
 |.nilMap=>some (Vx ok zero false)
 |.map b=>Vb Γ h kk b k zero ok
 |_=>none
def Xa (h:Ak) (x:Aa):Option Aa:=
 match x with
 |.nilMap=>some (lit .i64 (.ofNat 0))
 |.map b=>AD (mapOf (h.get b)) fun m=>some (lit .i64 (.ofNat (Aew m.1)))
 |_=>none
def Tm (e n:Nat) (l:List (Nat×Nat)):Bool:=
 List.rec (motive:=fun _=>Bool) false (fun x _ ih=>(Nat.beq x.1 e&&Nat.beq x.2 n) ||ih) l
def Zo (ok:List (Nat×Nat)) (b:Nat) (B:Option Block):Option Aa:=
 match B with
 |some (.typed e vs)=>bif Tm e (Bs vs) ok then some (.ptr b 0)else none
 |_=>none
def O8 (h:Ak) (ok:List (Nat×Nat)) (x:Aa):Option Aa:=
 match x with
 |.ptr b 0=>Zo ok b (h.get b)
 |_=>none
def u8A (v:Aa):Option Nat:=
 match v with
 |.int .u8 (.lit (.ofNat n))=>bif Nat.ble n 255 then some n else none
 |_=>none
def Af6 (l:List Aa):Option (List Nat):=
 List.rec (motive:=fun _=>Option (List Nat)) (some []) (fun v _ ih=>AD (u8A v) fun n=>AD ih fun l=>some (n::l)) l
def NC (h:Ak) (b j len:Nat):Option Aa:=
 bif Nat.beq len 0 then some (.str [])else AD (cellsOf (h.get b)) fun vs=>AD (cut vs j len) fun r=>AD (Af6 r) fun s=>some (.str s)
def Xy (h:Ak) (x:Aa):Option Aa:=
 match x with
 |.nilSlice=>some (.str [])
 |.slice b off len _=>NC h b off len
 |.gslice b off len _=>NC h b off len
 |_=>none
def Dp (Γ:Ao) (tm:Tr Aa) (h:Ak) (o:NV):Option Aa:=
 match o with
 |.load n x=>MK Γ h n (ev tm x)
 |.lookup kk zero ok x k=>WZ Γ h kk (ev tm x) (ev tm k) zero ok
 |.lenM x=>Xa h (ev tm x)
 |.uptr ok x=>O8 h ok (ev tm x)
 |.bstr x=>Xy h (ev tm x)
def MF (id:Nat) (zero:List Aa) (l c:Option Nat):Option (Block×Aa):=
 AD l fun l=>AD c fun c=>bif Nat.ble l c&&Nat.ble c 1048576 then some (.cells (rep zero c),.slice id 0 l c)else none
def KV (t:Option Nat) (cs:List Aa):Block:=
 match t with
 |some e=>.typed e cs
 |none=>.cells cs
def Yv (tm:Tr Aa) (id:Nat) (o:AOp):Option (Block×Aa):=
 match o with
 |.box t x=>AD (ev tm x).cells fun cs=>some (KV t cs,.ptr id 0)
 |.zero t cs=>some (KV t cs,.ptr id 0)
 |.bslice len zero parts=>AD (HJ tm parts zero) fun cs=>some (.cells cs,.slice id 0 len len)
 |.mkSlice zero l c=>MF id zero (C9 (ev tm l)) (C9 (ev tm c))
 |.mkMap=>some (.map [] 0,.map id)
inductive GY where
 |val (v:Aa) (h:Ak)
 |call (f:FuncId) (args:List Aa)
 |panic (v:Aa)
 |defer (f:FuncId) (args:List Aa)
def Ul (h:Ak) (n:Nat) (a x:Aa):Option Ak:=
 match a with
 |.ptr b off=>AD (cellsOf (h.get b)) fun vs=>AD (F5 vs x off n) fun j=>some (h.set b (some (AeT (h.get b) j)))
 |_=>none
def Mi (h:Ak) (size b j len:Nat):Option (Nat×List Aa):=
 bif Nat.beq len 0 then some (0,[])else AD (cellsOf (h.get b)) fun vs=>AD (cut vs j (len*size)) fun r=>some (len,r)
def byteCells (l:List Nat):List Aa:=
 List.rec (motive:=fun _=>List Aa) [] (fun c _ ih=>.int .u8 (.lit (.ofNat c))::ih) l
def JP (Γ:Ao) (i j n:Nat):Nat->Option (List Aa):=
 Nat.rec (motive:=fun _=>Nat->Option (List Aa)) (fun _=>some [])
  (fun _ ih k=>AD (Pb i (.lit (.ofNat k)) Γ.elems) fun cs=>bif Nat.beq (Bs cs) j then AD (ih (k+1)) fun r=>some (cs++r)else none) n
def Ag1 (Γ:Ao) (size i j:Nat) (n:ST):Option (Nat×List Aa):=
 match n with
 |.lit (.ofNat m)=>bif Nat.beq size j then AD (JP Γ i j m 0) fun cs=>some (m,cs)else none
 |_=>none
def Jx (h:Ak) (size:Nat) (bytes:Bool) (x:Aa):Option (Nat×List Aa):=
 match x,bytes with
 |.lst _ i es n,false=>Ag1 h.fx size i es n
 |.nilSlice,false=>some (0,[])
 |.slice b off len _,false=>Mi h size b off len
 |.gslice b off len _,false=>Mi h size b off len
 |.str s,true=>bif Nat.beq size 1 then some (I0 s,byteCells s)else none
 |_,_=>none
def TT (h:Ak) (size b j len c n:Nat) (new:List Aa):Option (Aa×Ak):=
 AD (cellsOf (h.get b)) fun vs=>AD (splice new (j+len*size) vs) fun q=>some (.slice b j (len+n) c,h.set b (some (.cells q)))
def Iw (h:Ak) (size len n:Nat) (old new:List Aa):Option (Aa×Ak):=
 bif Nat.ble (len+n) 1048576 then some (.gslice h.next 0 (len+n) size,h.add (.cells (old++new)))else none
def X1 (h:Ak) (size b j len q n:Nat) (new:List Aa):Option (Aa×Ak):=
 AD (cellsOf (h.get b)) fun vs=>bif Nat.beq size q&&Nat.ble (len+n) 1048576 then
  AD (cut vs j (len*size)) fun old=>some (.gslice h.next 0 (len+n) size,(h.set b none).add (.cells (old++new)))else none
def LO (x:Aa) (h:Ak):Option (Aa×Ak):=
 match x with
 |.lst f i es n=>some (.lst f i es n,h)
 |.vec b es n=>some (.vec b es n,h)
 |.nilSlice=>some (x,h)
 |.slice _ _ _ _=>some (x,h)
 |.gslice _ _ _ _=>some (x,h)
 |_=>none
def Apt (v:Aa):Bool:=
 match v with
 |.bool _=>true
 |.int _ _=>true
 |.str _=>true
 |.svar _=>true
 |.lst _ _ _ _=>true
 |.nilPtr=>true
 |.nilSlice=>true
 |_=>false
def loose (v:Aa):Aa:=
 match v with
 |.lst _ i es n=>.lst false i es n
 |v=>v
def CL (l:List Aa):List Aa:=List.rec (motive:=fun _=>List Aa) [] (fun v _ ih=>loose v::ih) l
def RT (l:List Aa):Bool:=List.rec (motive:=fun _=>Bool) true (fun v _ ih=>Apt v&&ih) l
def HS (size n:Nat):List Aa->Option (List (List Aa)):=
 Nat.rec (motive:=fun _=>List Aa->Option (List (List Aa))) (fun cs=>List.casesOn (motive:=fun _=>Option (List (List Aa))) cs (some []) (fun _ _=>none))
  (fun _ ih cs=>AD (taken size cs) fun c=>AD (ih (dropped size cs)) fun r=>some (c::r)) n
def Ix (h:Ak) (size:Nat) (part:AK) (n:Nat) (new:List Aa):Option (ST×Block):=
 bif RT new then AD (HS size n (CL new)) fun q=>AD (JE [part,.els q] h.fx.defs) fun j=>AD (EH j h.fx.Bs) fun t=>
  bif C4 h.fx .leq t (.lit (.ofNat 1048576))then some (t,.list j size)else none else none
def Xz (h:Ak) (size b j:Nat) (m:ST) (n:Nat) (new:List Aa):Option (Aa×Ak):=
 AD (ML (h.get b)) fun l=>bif Nat.beq size j&&Nat.beq l.2 j then
  AD (Ix h size (.take l.1 m) n new) fun r=>some (.vec h.next size r.1,(h.set b none).add r.2)else none
def X5 (h:Ak) (size i j n:Nat) (new:List Aa):Option (Aa×Ak):=
 bif Nat.beq size j then AD (Ix h size (.all i) n new) fun r=>some (.vec h.next size r.1,h.add r.2)else none
def PF (h:Ak) (size:Nat) (x:Aa):Option (List AK):=
 match x with
 |.nilSlice=>some []
 |.slice b off len c=>bif Nat.beq len c then (bif Nat.beq len 0 then some []else AD (Mi h size b off len) fun s=>bif RT s.2 then AD (HS size len (CL s.2)) fun j=>some [.els j]else none)else none
 |.lst true i j _=>bif Nat.beq size j then some [.all i]else none
 |.vec b j m=>AD (ML (h.get b)) fun l=>bif Nat.beq size j&&Nat.beq l.2 j then some [.take l.1 m]else none
 |_=>none
def Abo (p:List AK) (l:List (Nat×List AK)):Option Nat:=
 List.rec (motive:=fun _=>Option Nat) none (fun e _ ih=>bif AK.Px p e.2 then some e.1 else ih) l
def LQ (h:Ak) (size:Nat) (x:Aa) (n:Nat) (new:List Aa):Option (Aa×Ak):=
 bif RT new then AD (PF h size x) fun p=>AD (HS size n (CL new)) fun q=>AD (Abo (p++[.els q]) h.fx.defs) fun j=>AD (EH j h.fx.Bs) fun t=>
  bif C4 h.fx .leq t (.lit (.ofNat 1048576))then some (.vec h.next size t,h.add (.list j size))else none
 else none
def orR (a b:Option (Aa×Ak)):Option (Aa×Ak):=
 match a with
 |some r=>some r
 |none=>b
def X2 (h:Ak) (size:Nat) (x:Aa) (n:Nat) (new:List Aa):Option (Aa×Ak):=
 match x with
 |.vec b es m=>Xz h size b es m n new
 |.lst true i es _=>X5 h size i es n new
 |.nilSlice=>orR (LQ h size .nilSlice n new) (Iw h size 0 n [] new)
 |.slice b off len c=>
  bif Nat.ble (len+n) c then TT h size b off len c n new
  else orR (LQ h size (.slice b off len c) n new) (AD (Mi h size b off len) fun old=>Iw h size len n old.2 new)
 |.gslice b off len es=>X1 h size b off len es n new
 |_=>none
def GH (h:Ak) (size:Nat) (x:Aa) (n:Nat) (new:List Aa):Option (Aa×Ak):=
 bif Nat.beq n 0 then LO x h else X2 h size x n new
def Aer (v:Aa):Bool:=
 match v with
 |.int .u8 (.lit (.ofNat n))=>Nat.ble n 255
 |_=>false
def X6 (l:List Aa):Bool:=List.rec (motive:=fun _=>Bool) true (fun v _ ih=>Aer v&&ih) l
def AdN (h:Ak) (bytes:Bool) (y:Aa):Option (Nat×Nat):=
 match y,bytes with
 |.svar i,true=>AD (WY i h.fx.BT) fun r=>some r.2
 |.str s,true=>some (I0 s,I0 s)
 |.anyStr n,true=>some (1,n)
 |y,false=>AD (Jx h 1 false y) fun s=>bif X6 s.2 then some (s.1,s.1)else none
 |_,_=>none
def Hx (o:Option Block):Option (ST×Nat):=
 match o with
 |some (.sbytes t e)=>some (t,e)
 |_=>none
def X4 (h:Ak) (e b n:Nat):Option (Aa×Ak):=
 match Hx (h.get b)with
 |some m=>bif Nat.beq m.2 e then AD (Acn m.1 n h.fx.CC) fun t=>some (.gbytes h.next,(h.set b none).add (.sbytes t e))else none
 |none=>AD (bytesOf (h.get b)) fun m=>bif Nat.beq m.2 e&&Nat.ble (m.1+n) 1048576 then some (.gbytes h.next,(h.set b none).add (.bytes (m.1+n) e))else none
def Sb (h:Ak) (e:Nat) (x:Aa) (lo n:Nat):Option (Aa×Ak):=
 match x with
 |.nilSlice=>bif Nat.beq lo 0 then (bif Nat.beq n 0 then some (x,h)else none)else bif Nat.ble n 1048576 then some (.gbytes h.next,h.add (.bytes n e))else none
 |.gbytes b=>X4 h e b n
 |_=>none
def hidden (x:Aa):Bool:=
 match x with
 |.nilSlice=>true
 |.gbytes _=>true
 |_=>false
def Al9 (h:Ak) (x:Aa):Ak:=
 match x with
 |.vec b _ _=>h.set b none
 |_=>h
def LP (h:Ak) (size:Nat) (x:Aa) (i q:Nat) (n:ST):Option (Aa×Ak):=
 bif Nat.beq size q&&C4 h.fx .gtr n (.lit (.ofNat 0))then
  AD (PF h size x) fun p=>AD (JE (p++[.all i]) h.fx.defs) fun j=>AD (EH j h.fx.Bs) fun t=>
   bif C4 h.fx .leq t (.lit (.ofNat 1048576))then some (.vec h.next size t,(Al9 h x).add (.list j size))else none
 else bif Nat.beq size q&&C4 h.fx .leq n (.lit (.ofNat 0))then LO x h else none
def WS (y:Aa) (bytes:Bool):Option (Nat×Nat×ST):=
 match y,bytes with
 |.lst _ _ _ (.lit _),_=>none
 |.lst _ i es n,false=>some (i,es,n)
 |_,_=>none
def Vy (b q len x j:Nat) (v:Aa):Aa:=
 match v with
 |.slice b' off' len' c'=>bif Nat.beq b b'&&(Nat.beq q off'&&Nat.beq len len')then .lst (Nat.beq c' len) j x (.lit (.ofNat len))else v
 |.gslice b' off' len' _=>bif Nat.beq b b'&&(Nat.beq q off'&&Nat.beq len len')then .lst false j x (.lit (.ofNat len))else v
 |v=>v
def LB (b q len x j:Nat) (l:List Aa):List Aa:=
 List.rec (motive:=fun _=>List Aa) [] (fun v _ ih=>Vy b q len x j v::ih) l
def Tr.map {α:Type} (g:α->α) (t:Tr α):Tr α:=
 Tr.rec (motive:=fun _=>Tr α) .nil (fun v _ _ l r=>.node (v.map g) l r) (fun n v _ t=>.over n (v.map g) t) t
def Pp (Γ:Ao) (q len v j:Nat) (vs:List Aa):Bool:=
 CR (AD (cut vs q (len*v)) fun cs=>bif RT cs then AD (HS v len (CL cs)) fun c=>AD (JE [.els c] Γ.defs) fun j'=>some (Nat.beq j' j)else none)
def Fg (h:Ak) (z:Nat×Nat×Nat×Nat×Nat) (new:List Aa):Ak×List Aa:=
 match h.get z.1 with
 |some (.cells vs)=>bif Pp h.fx z.2.1 z.2.2.1 z.2.2.2.1 z.2.2.2.2 vs then (h.set z.1 none,LB z.1 z.2.1 z.2.2.1 z.2.2.2.1 z.2.2.2.2 new)else (h,new)
 |_=>(h,new)
def Ga (l:List (Nat×Nat×Nat×Nat×Nat)):Ak->List Aa->Ak×List Aa:=
 List.rec (motive:=fun _=>Ak->List Aa->Ak×List Aa) (fun h n=>(h,n)) (fun z _ ih h n=>ih (Fg h z n).1 (Fg h z n).2) l
def AeD (size:Nat) (x:Aa) (n:Nat) (r:Ak×List Aa):Option (Aa×Ak):=GH r.1 size x n r.2
def Sa (h:Ak) (size:Nat) (x:Aa) (n:Nat) (new:List Aa):Option (Aa×Ak):=
 match x with
 |.vec b es m=>bif RT new then GH h size (.vec b es m) n new else AeD size (.vec b es m) n (Ga h.fx.Ou h new)
 |x=>GH h size x n new
def X3 (h:Ak) (size:Nat) (bytes:Bool) (x y:Aa):Option (Aa×Ak):=
 match WS y bytes with
 |some l=>LP h size x l.1 l.2.1 l.2.2
 |none=>AD (Jx h size bytes y) fun s=>Sa h size x s.1 s.2
def TS (h:Ak) (size:Nat) (j:Option Nat) (bytes:Bool) (x y:Aa):Option (Aa×Ak):=
 match j,hidden x with
 |some e,true=>AD (AdN h bytes y) fun s=>Sb h e x s.1 s.2
 |_,_=>X3 h size bytes x y
def AeK (h:Ak) (b:Nat) (m:Nat×Nat) (e:Nat):Option GY:=
 bif Nat.beq m.2 e then some (.val (.anyStr m.1) (h.set b none))else none
def AeJ (h:Ak) (b e:Nat):Option GY:=
 match Hx (h.get b)with
 |some m=>bif Nat.beq m.2 e then some (.val (.anyStr 1048576) (h.set b none))else none
 |none=>AD (bytesOf (h.get b)) fun m=>AeK h b m e
def Zn (h:Ak) (e:Nat) (p n:Aa):Option GY:=
 match p,n with
 |.nilPtr,.int .i64 (.lit (.ofNat 0))=>some (.val (.str []) h)
 |.ptr b 0,.glen c=>bif Nat.beq b c then AeJ h b e else none
 |_,_=>none
def US (h:Ak) (x:Aa):Option GY:=some (.val x h)
def Xo (h:Ak) (size b j m:Nat) (src:List Aa):Option (Aa×Ak):=
 bif Nat.beq m 0 then some (lit .i64 (.ofNat 0),h)
 else AD (cellsOf (h.get b)) fun vs=>AD (taken (m*size) src) fun r=>AD (splice r j vs) fun q=>some (lit .i64 (.ofNat m),h.set b (some (.cells q)))
def AcL (h:Ak) (size:Nat) (x:Aa) (n:Nat) (src:List Aa):Option (Aa×Ak):=
 match x with
 |.nilSlice=>some (lit .i64 (.ofNat 0),h)
 |.slice b off len _=>Xo h size b off (bif Nat.ble n len then n else len) src
 |.gslice b off len _=>Xo h size b off (bif Nat.ble n len then n else len) src
 |_=>none
def Af4 (kk:LK) (k v:Aa) (j:Nat) (q:List Entry):Option (List Entry×Bool):=
 List.rec (motive:=fun _=>Option (List Entry×Bool)) (some ([⟨k,v,j⟩],true))
  (fun e q ih=>AD (Ph kk k e.key) fun b=>bif b then some (⟨k,v,e.born⟩::q,false)else AD ih fun r=>some (e::r.1,r.2)) q
def Ach (h:Ak) (b i:Nat) (k v:Aa):Option Ak:=
 match v with
 |.agg cs=>bif RT cs then AD (Acj i k (CL cs) h.fx.L8) fun j=>some (h.set b (some (.smap j)))else none
 |_=>none
def Aci (h:Ak) (kk:LK) (b:Nat) (k v:Aa):Option Ak:=
 match IS (h.get b)with
 |some i=>bif PU kk k then Ach h b i k v else none
 |none=>AD (mapOf (h.get b)) fun m=>bif k.single then AD (Af4 kk k v m.2 m.1) fun r=>
   some (h.set b (some (.map r.1 (bif r.2 then m.2+1 else m.2))))else none
def UW (h:Ak) (kk:LK) (m k v:Aa):Option Ak:=
 match m with
 |.map b=>Aci h kk b k v
 |_=>none
def N7 (f:Aa) (args:List Aa):Option (FuncId×List Aa):=
 match f with
 |.func g first cap=>some (g,first++(args++cap))
 |_=>none
def AcP (h:Ak) (t:TypeId) (b:Nat):Option GY:=
 match IS (h.get b)with
 |some i=>some (.val (.iface t (.map h.next)) (h.add (.smap i)))
 |none=>AD (mapOf (h.get b)) fun m=>some (.val (.iface t (.map h.next)) (h.add (.map m.1 m.2)))
def VK (h:Ak) (x:Aa):Option GY:=
 match x with
 |.iface t (.map b)=>AcP h t b
 |_=>none
def UM (x:Aa):Option GY:=
 match x with
 |.iface t v=>some (.panic (.iface t v))
 |_=>none
def Ky (tm:Tr Aa) (h:Ak) (o:MOp):Option GY:=
 match o with
 |.store n a x=>AD (Ul h n (ev tm a) (ev tm x)) fun j=>some (.val .any j)
 |.call f args=>AD (N7 (ev tm f) (Sj tm args)) fun r=>some (.call r.1 r.2)
 |.append size u8 bytes x y=>AD (TS h size u8 bytes (ev tm x) (ev tm y)) fun r=>some (.val r.1 r.2)
 |.copy size bytes x y=>AD (Jx h size bytes (ev tm y)) fun s=>AD (AcL h size (ev tm x) s.1 s.2) fun r=>some (.val r.1 r.2)
 |.mapUp kk m k v=>AD (UW h kk (ev tm m) (ev tm k) (ev tm v)) fun j=>some (.val .any j)
 |.clone x=>VK h (ev tm x)
 |.panic x=>UM (ev tm x)
 |.defer f args=>AD (N7 (ev tm f) (Sj tm args)) fun r=>some (.defer r.1 r.2)
 |.recover=>none
 |.Af3 e p n=>Zn h e (ev tm p) (ev tm n)
 |.AbZ x=>US h (ev tm x)
structure BR where
 args:List Aa
 pre:List Block
 res:Aa
 post:List (Option Block)
def Afm (v:Aa):Option Nat:=
 match v with
 |.ptr b _=>some b
 |.slice b _ _ _=>some b
 |.gslice b _ _ _=>some b
 |.map b=>some b
 |.vec b _ _=>some b
 |.vptr b _ _ _=>some b
 |.gbytes b=>some b
 |_=>none
def Xh (v:Aa):List Aa:=
 match v with
 |.agg cs=>cs
 |v=>[v]
def Aqi (p a:Aa) (σ:List Nat):List Nat:=
 match Afm p,Afm a with
 |some i,some j=>bif Nat.ble (I0 σ) i then σ++[j]else σ
 |_,_=>σ
def Ae3 (h:Ak) (b:Option Nat):List Aa:=
 match b with
 |some b=>(match h.get b with|some (.cells us)=>us|some (.typed _ us)=>us|_=>[])
 |none=>[]
def Aip (B:Block):List Aa:=
 match B with
 |.cells vs=>vs
 |.typed _ vs=>vs
 |_=>[]
def Ab1 (σ:List Nat) (v:Aa):Option Aa:=
 match v with
 |.ptr b o=>AD (Cb σ b) fun c=>some (.ptr c o)
 |.slice b o l c=>AD (Cb σ b) fun d=>some (.slice d o l c)
 |.gslice b o l e=>AD (Cb σ b) fun d=>some (.gslice d o l e)
 |.map b=>AD (Cb σ b) fun d=>some (.map d)
 |.vec b e n=>AD (Cb σ b) fun d=>some (.vec d e n)
 |.vptr b e j o=>AD (Cb σ b) fun d=>some (.vptr d e j o)
 |.anyStr n=>some (.anyStr n)
 |.gbytes b=>AD (Cb σ b) fun d=>some (.gbytes d)
 |.bool b=>some (.bool b)
 |.int k n=>some (.int k n)
 |.str s=>some (.str s)
 |.svar i=>some (.svar i)
 |.lst f i e n=>some (.lst f i e n)
 |.lptr i j o=>some (.lptr i j o)
 |.nilPtr=>some .nilPtr
 |.nilSlice=>some .nilSlice
 |.nilMap=>some .nilMap
 |.nilFunc=>some .nilFunc
 |.nilIface=>some .nilIface
 |_=>none
def WM (σ:List Nat) (l:List Aa):Option (List Aa):=
 List.rec (motive:=fun _=>Option (List Aa)) (some []) (fun v _ ih=>AD (Ab1 σ v) fun u=>AD ih fun us=>some (u::us)) l
def J7 (σ:List Nat) (v:Aa):Option Aa:=
 match v with
 |.func f a c=>AD (WM σ a) fun a=>AD (WM σ c) fun c=>some (.func f a c)
 |v=>Ab1 σ v
def AcI (Γ:Ao) (j:Nat):Bool:=
 match EH j Γ.Bs with
 |some (.lit (.ofNat 0))=>true
 |_=>false
def Acw (a:Aa):Bool:=
 match a with
 |.nilSlice=>true
 |_=>false
def HM (Γ:Ao) (σ:List Nat) (p a:Aa):Bool:=
 match J7 σ p with
 |some v=>v.eq a||v.eq (loose a) ||(match v with|.lst false j _ n=>Acw a&&(AcI Γ j&&n.eq (.lit (.ofNat 0))) |_=>false)
 |none=>false
def AdG (ps:List Aa):List Aa->List Nat->List Nat:=
 List.rec (motive:=fun _=>List Aa->List Nat->List Nat) (fun _ σ=>σ) (fun p _ ih as σ=>List.casesOn (motive:=fun _=>List Nat) as σ (fun a as=>ih as (Aqi p a σ))) ps
def Wf (ps:List Aa):List Aa->List Nat->List Nat:=
 List.rec (motive:=fun _=>List Aa->List Nat->List Nat) (fun _ σ=>σ) (fun p _ ih as σ=>List.casesOn (motive:=fun _=>List Nat) as σ (fun a as=>ih as (AdG (Xh p) (Xh a) σ))) ps
def So (h:Ak) (l:List Block):Nat->List Nat->List Nat:=
 List.rec (motive:=fun _=>Nat->List Nat->List Nat) (fun _ σ=>σ) (fun B _ ih i σ=>ih (i+1) (AdG (Aip B) (Ae3 h (Cb σ i)) σ)) l
def Gx (Γ:Ao) (σ:List Nat) (ps:List Aa):List Aa->Bool:=
 List.rec (motive:=fun _=>List Aa->Bool) (fun as=>List.casesOn (motive:=fun _=>Bool) as true (fun _ _=>false))
  (fun p _ ih as=>List.casesOn (motive:=fun _=>Bool) as false (fun a as=>HM Γ σ p a&&ih as)) ps
def Ace (n:Nat) (l:List Nat):Bool:=List.rec (motive:=fun _=>Bool) false (fun m _ ih=>Nat.beq m n||ih) l
def IV (l:List Nat):Bool:=List.rec (motive:=fun _=>Bool) true (fun n r ih=>!(Ace n r)&&ih) l
def GG (l:List Block):Nat:=List.rec (motive:=fun _=>Nat) 0 (fun _ _ ih=>ih+1) l
def Mz (σ:List Nat) (l:List Aa):Option (List Aa):=
 List.rec (motive:=fun _=>Option (List Aa)) (some []) (fun v _ ih=>AD (J7 σ v) fun u=>AD ih fun us=>some (u::us)) l
def Ain (l:List Entry):List (Aa×List Aa)->Bool:=
 List.rec (motive:=fun _=>List (Aa×List Aa)->Bool) (fun y=>List.casesOn (motive:=fun _=>Bool) y true (fun _ _=>false))
  (fun e _ ih y=>List.casesOn (motive:=fun _=>Bool) y false (fun x y=>e.key.eq x.1&&((match e.val with|.agg cs=>RT cs&&Aa.Px (CL cs) x.2|_=>false)&&ih y))) l
def Va (i:Nat) (l:List (Nat×List (Aa×List Aa))):Option (List (Aa×List Aa)):=
 List.rec (motive:=fun _=>Option (List (Aa×List Aa))) none (fun e _ ih=>bif Nat.beq e.1 i then some e.2 else ih) l
def Ab8 (i j:Nat) (l:List (Nat×List AK)):Bool:=
 List.rec (motive:=fun _=>Bool) false (fun e _ ih=>(Nat.beq e.1 i&&(match e.2 with|[.take k _]=>Nat.beq k j|_=>false)) ||ih) l
def Ns (Γ:Ao) (σ:List Nat) (p a:Aa):Bool:=
 match p,a with
 |.agg ps,.agg as=>Gx Γ σ ps as
 |p,a=>HM Γ σ p a
def RG (Γ:Ao) (σ:List Nat) (ps:List Entry):List Entry->Bool:=
 List.rec (motive:=fun _=>List Entry->Bool) (fun as=>List.casesOn (motive:=fun _=>Bool) as true (fun _ _=>false))
  (fun p _ ih as=>List.casesOn (motive:=fun _=>Bool) as false (fun a as=>HM Γ σ p.key a.key&&(HM Γ σ p.val a.val&&(Nat.beq p.born a.born&&ih as)))) ps
def Nr (Γ:Ao) (σ:List Nat) (B A:Block):Bool:=
 match B,A with
 |.cells ps,.cells as=>Gx Γ σ ps as
 |.typed e ps,.typed e' as=>Nat.beq e e'&&Gx Γ σ ps as
 |.list i es,.list j es'=>(Nat.beq i j||Ab8 i j Γ.defs)&&Nat.beq es es'
 |.smap i,.smap j=>Nat.beq i j
 |.map ps c,.map as d=>Nat.beq c d&&RG Γ σ ps as
 |.smap i,.map es _=>CR (AD (Va i Γ.CA) fun l=>some (Ain es l))
 |.sbytes t e,.sbytes t' e'=>t.eq t'&&Nat.beq e e'
 |.sbytes t e,.bytes n e'=>t.eq (.lit (.ofNat n))&&Nat.beq e e'
 |.bytes n e,.bytes n' e'=>Nat.beq n n'&&Nat.beq e e'
 |_,_=>false
def eqB (Γ:Ao) (h:Ak) (σ:List Nat) (i:Nat) (B:Block):Bool:=
 match Cb σ i with
 |some b=>(match h.get b with|some A=>Nr Γ σ B A|none=>false)
 |none=>false
def AdU (σ:List Nat) (v:Aa):Option Aa:=
 match v with
 |.agg cs=>AD (Mz σ cs) fun cs=>some (.agg cs)
 |v=>J7 σ v
def Aby (σ:List Nat) (l:List Aa):Option (List Aa):=
 List.rec (motive:=fun _=>Option (List Aa)) (some []) (fun v _ ih=>AD (AdU σ v) fun u=>AD ih fun us=>some (u::us)) l
def UJ (σ:List Nat) (v:Aa):Option Aa:=
 match v with
 |.agg cs=>AD (Mz σ cs) fun cs=>some (.agg cs)
 |.tuple cs=>AD (Aby σ cs) fun cs=>some (.tuple cs)
 |v=>J7 σ v
def Abz (σ:List Nat) (l:List Entry):Option (List Entry):=
 List.rec (motive:=fun _=>Option (List Entry)) (some []) (fun e _ ih=>AD (J7 σ e.key) fun k=>AD (J7 σ e.val) fun v=>AD ih fun j=>some (⟨k,v,e.born⟩::j)) l
def XM (σ:List Nat) (B:Block):Option Block:=
 match B with
 |.cells vs=>AD (Mz σ vs) fun vs=>some (.cells vs)
 |.typed e vs=>AD (Mz σ vs) fun vs=>some (.typed e vs)
 |.list i j=>some (.list i j)
 |.smap i=>some (.smap i)
 |.sbytes t e=>some (.sbytes t e)
 |.bytes n e=>some (.bytes n e)
 |.map j c=>AD (Abz σ j) fun j=>some (.map j c)
def AdX (σ:List Nat) (i:Nat) (B:Option Block) (h:Ak):Option Ak:=
 AD (Cb σ i) fun b=>match B with
  |some B=>AD (XM σ B) fun B=>some (h.set b (some B))
  |none=>some (h.set b none)
def KQ (Γ:Ao) (σ:List Nat) (ps:List Aa):List Aa->Bool:=
 List.rec (motive:=fun _=>List Aa->Bool) (fun as=>List.casesOn (motive:=fun _=>Bool) as true (fun _ _=>false))
  (fun p _ ih as=>List.casesOn (motive:=fun _=>Bool) as false (fun a as=>Ns Γ σ p a&&ih as)) ps
def YE (Γ:Ao) (h:Ak) (σ:List Nat) (l:List Block):Nat->Bool:=
 List.rec (motive:=fun _=>Nat->Bool) (fun _=>true) (fun B _ ih i=>eqB Γ h σ i B&&ih (i+1)) l
def AY (l:List Block):Ak->Ak:=
 List.rec (motive:=fun _=>Ak->Ak) (fun h=>h) (fun B _ ih h=>ih (h.add B)) l
def Cv (l:List (Option Block)):Ak->Ak:=
 List.rec (motive:=fun _=>Ak->Ak) (fun h=>h) (fun B _ ih h=>ih ⟨Tr.set h.DG h.next B,h.next+1,h.fx⟩) l
def OR (σ:List Nat) (l:List (Option Block)):Nat->Ak->Option Ak:=
 List.rec (motive:=fun _=>Nat->Ak->Option Ak) (fun _ h=>some h) (fun B _ ih i h=>AD (AdX σ i B h) fun j=>ih (i+1) j) l
def Ll (l:List (Option Block)):Nat->Nat->List Nat:=
 List.rec (motive:=fun _=>Nat->Nat->List Nat) (fun _ _=>[]) (fun _ _ ih k n=>Nat.casesOn (motive:=fun _=>List Nat) k (n::ih 0 (n+1)) (fun k=>ih k n)) l
def Ta (l:List (Option Block)):Nat:=List.rec (motive:=fun _=>Nat) 0 (fun _ _ ih=>ih+1) l
def Afa (x:BR) (args:List Aa) (h:Ak) (σ:List Nat):Bool:=
 Nat.beq (I0 σ) (GG x.pre)&&(Nat.ble (GG x.pre) (Ta x.post)&&(IV σ&&(KQ h.fx σ x.args args&&YE h.fx h σ x.pre 0)))
inductive NT where
 |ret (v:Aa)
 |panic (v:Aa)
abbrev Co:=FuncId->List Aa->Ak->Option (NT×Ak)
structure Fr where
 tm:Tr Aa
 h:Ak
 df:List (FuncId×List Aa)
def DM (tm:Tr Aa) (d:Option Nat) (v:Aa):Tr Aa:=
 match d with
 |some d=>Tr.set tm d (some v)
 |none=>tm
def IJ:Aa:=.tuple []
def Wg (j:Bool) (v:Option Aa):Option Bool:=
 match v with
 |some (.bool (.lit b))=>some (beq j b)
 |some (.tuple [])=>some false
 |_=>none
def De (tm:Tr Aa) (g:Option (Nat×Bool)):Option Bool:=
 match g with
 |none=>some true
 |some g=>Wg g.2 (Tr.get tm g.1)
inductive Cc where
 |go (f:Fr)
 |panic (v:Aa) (f:Fr)
def Y5 (f:Fr) (d:Option Nat) (v:Aa):Cc:=.go ⟨DM f.tm d v,f.h,f.df⟩
def KI (f:Fr) (d:Option Nat) (v:Aa) (h:Ak):Cc:=.go ⟨DM f.tm d v,h,f.df⟩
def Ae4 (f:Fr) (d:Option Nat) (r:NT) (h:Ak):Cc:=
 match r with
 |.ret v=>KI f d v h
 |.panic v=>.panic v ⟨f.tm,h,f.df⟩
def AhU (call:Co) (f:Fr) (d:Option Nat) (r:GY):Option Cc:=
 match r with
 |.val v h=>some (KI f d v h)
 |.call g args=>AD (call g args f.h) fun r=>some (Ae4 f d r.1 r.2)
 |.panic v=>some (.panic v f)
 |.defer g args=>some (.go ⟨DM f.tm d .any,f.h,(g,args)::f.df⟩)
def WJ (Γ:Ao) (call:Co) (d:Option Nat) (f:Fr) (o:DF):Option Cc:=
 match o with
 |.p o=>AD (I9 Γ f.tm o) fun v=>some (Y5 f d v)
 |.r o=>AD (Dp Γ f.tm f.h o) fun v=>some (Y5 f d v)
 |.a o=>AD (Yv f.tm f.h.next o) fun r=>some (KI f d r.2 (f.h.add r.1))
 |.m o=>AD (Ky f.tm f.h o) fun r=>AhU call f d r
def I6 (Γ:Ao) (call:Co) (s:Step) (f:Fr):Option Cc:=
 AD (De f.tm s.guard) fun w=>bif w then WJ Γ call s.dst f s.op else some (Y5 f s.dst IJ)
def goes (r:Cc) (k:Fr->Option Cc):Option Cc:=
 match r with
 |.go f=>k f
 |.panic v f=>some (.panic v f)
def UD (Γ:Ao) (call:Co) (l:List Step):Fr->Option Cc:=
 List.rec (motive:=fun _=>Fr->Option Cc) (fun f=>some (.go f)) (fun s _ ih f=>AD (I6 Γ call s f) fun x=>goes x ih) l
def Aa.eqs (x y:Aa):Bool:=
 match x,y with
 |.agg a,.agg b=>Aa.Px a b
 |.tuple a,.tuple b=>Aa.Px a b
 |x,y=>x.eq y
def Abr (v:Aa) (o:Option Aa):Bool:=
 match o with
 |some u=>v.eqs u
 |none=>false
def VW (Γ:Ao) (tm:Tr Aa) (o:NV) (v:Aa) (n:Nat):List Ak->Bool:=
 Nat.rec (motive:=fun _=>List Ak->Bool) (fun _=>true)
  (fun _ ih hs=>List.casesOn (motive:=fun _=>Bool) hs false (fun h hs=>Abr v (Dp Γ tm h o)&&ih hs)) n
def forget (l:List Step):Tr Aa->Tr Aa:=
 List.rec (motive:=fun _=>Tr Aa->Tr Aa) (fun t=>t) (fun s _ ih t=>ih (match s.dst with|some d=>Tr.set t d none|none=>t)) l
def BN (o:DF):Bool:=
 match o with
 |.m _=>true
 |_=>false
def Wj (Γ:Ao) (f:Fr) (o:NV) (back:Nat) (hs:List Ak) (w:Option Bool):Bool:=
 match w with
 |some true=>(match Dp Γ f.tm f.h o with
  |some v=>VW Γ f.tm o v back hs
  |none=>false)
 |some false=>true
 |none=>false
def LH (Γ:Ao) (s:Step) (f:Fr) (hs:List Ak):Bool:=
 match s.op,s.back with
 |.r o,n+1=>Wj Γ f o (n+1) hs (De f.tm s.guard)
 |_,_=>true
def V3 (Γ:Ao) (tm:Tr Aa) (h:Ak) (id:Nat) (o:DF):Option (Aa×Option Block):=
 match o with
 |.p o=>AD (I9 Γ tm o) fun v=>some (v,none)
 |.r o=>AD (Dp Γ tm h o) fun v=>some (v,none)
 |.a o=>AD (Yv tm id o) fun r=>some (r.2,some r.1)
 |.m _=>none
def HF (Γ:Ao) (tm:Tr Aa) (h:Ak) (id:Nat) (s:Step):Option (Aa×Option Block):=
 AD (De tm s.guard) fun w=>bif w then V3 Γ tm h id s.op else some (IJ,none)
def Gk (h:Ak) (id:Nat) (b:Option Block):Ak:=
 match b with
 |some B=>⟨Tr.set h.DG id (some B),h.next,h.fx⟩
 |none=>h
def Aes (f:Fr) (d:Option Nat) (id:Nat) (r:Aa×Option Block):Cc:=.go ⟨DM f.tm d r.1,Gk f.h id r.2,f.df⟩
def I5 (Γ:Ao) (call:Co) (s:Step) (id:Nat) (f:Fr):Option Cc:=
 bif BN s.op then I6 Γ call s f else AD (HF Γ f.tm f.h id s) fun r=>some (Aes f s.dst id r)
def KU (l:List Step):Nat->Bool:=
 List.rec (motive:=fun _=>Nat->Bool) (fun _=>true) (fun s _ ih k=>bif BN s.op then ih (k+1)else Nat.ble s.back k&&ih k) l
def To (all rest:List Step) (r:Cc) (k:Fr->Option Cc):Option Cc:=
 match r with
 |.go f=>k f
 |.panic v f=>bif KU rest 0 then some (.panic v ⟨forget all f.tm,f.h,f.df⟩)else none
def AmN (id:Nat) (B:Block) (l:List Ak):List Ak:=
 List.rec (motive:=fun _=>List Ak) [] (fun h _ ih=>⟨Tr.set h.DG id (some B),h.next,h.fx⟩::ih) l
def Lm (h j:Ak) (id:Nat):Option Block:=
 match h.get id with
 |none=>j.get id
 |some _=>none
def Ms (id:Nat) (B:Option Block) (hs:List Ak):List Ak:=
 match B with
 |some B=>AmN id B hs
 |none=>hs
def Lu (Γ:Ao) (call:Co) (all l:List Step):Nat->Fr->List Ak->Option Cc:=
 List.rec (motive:=fun _=>Nat->Fr->List Ak->Option Cc) (fun _ f _=>some (.go f))
  (fun s r ih id f hs=>bif LH Γ s f hs then AD (I5 Γ call s id f) fun x=>To all r x fun j=>ih (id+1) j (bif BN s.op then f.h::hs else Ms id (Lm f.h j.h id) hs)else none) l
def BT (l:List Step):Nat:=List.rec (motive:=fun _=>Nat) 0 (fun _ _ ih=>ih+1) l
def Hy (n:Nat) (f:Fr):Fr:=⟨f.tm,⟨f.h.DG,f.h.next+n,f.h.fx⟩,f.df⟩
inductive Bc where
 |normal
 |exit (id:Nat)
 |ret
 |panic (v:Aa)
def FH (r:Cc):Bc×Fr:=
 match r with
 |.go f=>(.normal,f)
 |.panic v f=>(.panic v,f)
def Aii (b q len x j:Nat) (v:Aa):Aa:=
 match v with
 |.agg cs=>.agg (LB b q len x j cs)
 |.tuple cs=>.tuple (LB b q len x j cs)
 |v=>Vy b q len x j v
def Al1 (b q len v j:Nat) (B:Block):Block:=
 match B with
 |.cells vs=>.cells (LB b q len v j vs)
 |.typed e vs=>.typed e (LB b q len v j vs)
 |B=>B
def R3 (b i j:Nat) (t:ST) (v:Aa):Aa:=
 match v with
 |.vec b' es' n=>bif Nat.beq b b'&&(Nat.beq j es'&&n.eq t)then .lst false i j t else v
 |v=>v
def HC (b i j:Nat) (t:ST) (l:List Aa):List Aa:=
 List.rec (motive:=fun _=>List Aa) [] (fun v _ ih=>R3 b i j t v::ih) l
def AeZ (b i j:Nat) (t:ST) (v:Aa):Aa:=
 match v with
 |.agg cs=>.agg (HC b i j t cs)
 |.tuple cs=>.tuple (HC b i j t cs)
 |v=>R3 b i j t v
def Al0 (b i j:Nat) (t:ST) (B:Block):Block:=
 match B with
 |.cells vs=>.cells (HC b i j t vs)
 |.typed e vs=>.typed e (HC b i j t vs)
 |B=>B
def R5 (Γ:Ao) (z:Nat×Nat×Nat×Nat×Nat) (f:Fr):Fr:=
 match f.h.get z.1 with
 |some (.cells vs)=>bif Pp Γ z.2.1 z.2.2.1 z.2.2.2.1 z.2.2.2.2 vs then
   ⟨Tr.map (Aii z.1 z.2.1 z.2.2.1 z.2.2.2.1 z.2.2.2.2) f.tm,⟨Tr.map (Al1 z.1 z.2.1 z.2.2.1 z.2.2.2.1 z.2.2.2.2) (Tr.set f.h.DG z.1 none),f.h.next,f.h.fx⟩,f.df⟩else f
 |some (.list i es)=>bif Nat.beq i z.2.2.2.2 then (match EH i Γ.Bs with
  |some t=>⟨Tr.map (AeZ z.1 i es t) f.tm,⟨Tr.map (Al0 z.1 i es t) (Tr.set f.h.DG z.1 none),f.h.next,f.h.fx⟩,f.df⟩
  |none=>f)else f
 |_=>f
def Vz (Γ:Ao) (l:List (Nat×Nat×Nat×Nat×Nat)):Fr->Fr:=
 List.rec (motive:=fun _=>Fr->Fr) (fun f=>f) (fun z _ ih f=>ih (R5 Γ z f)) l
def QF (Γ:Ao) (r:Bc×Fr):Bc×Fr:=
 match r.1,Γ.Ou with
 |.normal,z::l=>(.normal,Vz Γ (z::l) r.2)
 |_,_=>r
def QK (Γ:Ao) (call:Co) (q:Bool) (j:List Step) (f:Fr):Option (Bc×Fr):=
 AD (bif q then Lu Γ call j j f.h.next (Hy (BT j) f) []else UD Γ call j f) fun r=>some (QF Γ (FH r))
def andThen (r:Bc×Fr) (k:Fr->Option (Bc×Fr)):Option (Bc×Fr):=
 match r.1 with
 |.normal=>k r.2
 |_=>some r
def AcN (v:Aa) (t e:Option (Bc×Fr)):Option (Bc×Fr):=
 match v with
 |.bool (.lit b)=>bif b then t else e
 |_=>none
def Gs (id:Nat) (r:Bc×Fr):Bc×Fr:=
 match r.1 with
 |.exit i=>(bif Nat.beq i id then .normal else .exit i,r.2)
 |_=>r
def Uc (tm:Tr Aa) (l:List (Nat×Aa)):List Nat->List Nat:=
 List.rec (motive:=fun _=>List Nat->List Nat) (fun σ=>σ) (fun p _ ih σ=>ih (AdG (Xh p.2) (Xh (Eu (Tr.get tm p.1))) σ)) l
def Xi (Γ:Ao) (σ:List Nat) (tm:Tr Aa) (l:List (Nat×Aa)):Bool:=
 List.rec (motive:=fun _=>Bool) true (fun p _ ih=>Ns Γ σ p.2 (Eu (Tr.get tm p.1))&&ih) l
def UI (σ:List Nat) (l:List (Nat×Aa)):Tr Aa->Option (Tr Aa):=
 List.rec (motive:=fun _=>Tr Aa->Option (Tr Aa)) (fun t=>some t) (fun p _ ih t=>AD (UJ σ p.2) fun v=>ih (Tr.set t p.1 (some v))) l
def O9 (l:List (Nat×Aa)):Tr Aa->Tr Aa:=
 List.rec (motive:=fun _=>Tr Aa->Tr Aa) (fun t=>t) (fun p _ ih t=>ih (Tr.set t p.1 (some p.2))) l
def Aeu (Γ:Ao) (σ:List Nat) (p a:List (FuncId×List Aa)):Bool:=
 match p,a with
 |[],[]=>true
 |[p],[a]=>Nat.beq p.1 a.1&&KQ Γ σ p.2 a.2
 |_,_=>false
def Zg (p a:List (FuncId×List Aa)) (σ:List Nat):List Nat:=
 match p,a with
 |[p],[a]=>AdG p.2 a.2 σ
 |_,_=>σ
def Ab0 (σ:List Nat) (p:List (FuncId×List Aa)):Option (List (FuncId×List Aa)):=
 match p with
 |[]=>some []
 |[p]=>AD (Mz σ p.2) fun l=>some [(p.1,l)]
 |_=>none
def Afb (Γ:Ao) (k:B7) (f:Fr) (σ:List Nat):Bool:=
 Aeu Γ σ k.df f.df&&(Nat.beq (I0 σ) (GG k.pre)&&(Nat.ble (GG k.pre) (Ta k.post)&&(IV σ&&(Xi Γ σ f.tm k.X9&&YE Γ f.h σ k.pre 0))))
def B7.Nh (k:B7):Bc:=bif k.out then .ret else .exit k.id
def AcY (k:B7) (h:Ak) (σ:List Nat):Option (Bc×Fr):=
 AD (OR σ k.post 0 ⟨h.DG,h.next+(Ta k.post-GG k.pre),h.fx⟩) fun j=>AD (UI σ k.NY .nil) fun tm=>AD (Ab0 σ k.df) fun df=>some (k.Nh,⟨tm,j,df⟩)
def LM (Γ:Ao) (k:B7) (f:Fr):Option (Bc×Fr):=
 bif Afb Γ k f (So f.h k.pre 0 (Zg k.df f.df (Uc f.tm k.X9 [])))then AcY k f.h (So f.h k.pre 0 (Zg k.df f.df (Uc f.tm k.X9 []))++Ll k.post (GG k.pre) f.h.next)else none
def IA (Γ:Ao) (cur:Nat) (f:Fr) (l:List B7):Option (Bc×Fr):=
 List.rec (motive:=fun _=>Option (Bc×Fr)) none (fun k _ ih=>bif Nat.beq k.id cur then (match LM Γ k f with|some x=>some x|none=>ih)else ih) l
def iter (o body:Fr->Option (Bc×Fr)) (n:Nat):Fr->Option (Bc×Fr):=
 Nat.rec (motive:=fun _=>Fr->Option (Bc×Fr)) (fun _=>none) (fun _ ih f=>match o f with
  |some r=>some r
  |none=>AD (body f) fun r=>andThen r ih) n
def F6 (Γ:Ao) (call:Co) (fuel:Nat) (c:IC):Nat->Fr->Option (Bc×Fr):=
 IC.rec (motive:=fun _=>Nat->Fr->Option (Bc×Fr))
  (fun _ f=>some (.normal,f))
  (fun d j _ f=>QK Γ call d j f)
  (fun _ _ a b k f=>AD (a k f) fun r=>andThen r fun q=>b k q)
  (fun c _ _ t e k f=>AcN (ev f.tm c) (t k f) (e k f))
  (fun id _ b _ f=>AD (b id f) fun r=>some (Gs id r))
  (fun _ b k f=>iter (fun f=>IA Γ k f Γ.loops) (fun f=>b k f) fuel f)
  (fun id _ f=>some (.exit id,f))
  (fun _ f=>some (.ret,f)) c
def NM (l:List Aa):Nat->Tr Aa->Tr Aa:=
 List.rec (motive:=fun _=>Nat->Tr Aa->Tr Aa) (fun _ t=>t) (fun v _ ih i t=>ih (i+1) (Tr.set t i (some v))) l
def exec (Γ:Ao) (call:Co) (fuel:Nat) (c:IC) (f:Fr):Option (Bc×Fr):=F6 Γ call fuel c 0 f
def QI (tm:Tr Aa) (h:Ak) (r:Sg):Option Aa:=
 match r with
 |.tmp t=>some (Eu (Tr.get tm t))
 |.cell t n=>MK h.fx h n (Eu (Tr.get tm t))
def Abv (tm:Tr Aa) (h:Ak) (l:List Sg):Option (List Aa):=
 List.rec (motive:=fun _=>Option (List Aa)) (some []) (fun x _ ih=>AD (QI tm h x) fun v=>AD ih fun vs=>some (v::vs)) l
def oneOf (vs:List Aa):Aa:=
 match vs with
 |[v]=>v
 |vs=>.tuple vs
inductive CE where
 |returning
 |panicking (v:Aa)
abbrev Sh:=FuncId->List Aa->CE->Ak->Option (CE×Ak)
def Rg (j:Sh) (l:List (FuncId×List Aa)):CE->Ak->Option (CE×Ak):=
 List.rec (motive:=fun _=>CE->Ak->Option (CE×Ak)) (fun m h=>some (m,h)) (fun d _ ih m h=>AD (j d.1 d.2 m h) fun r=>ih r.1 r.2) l
def AeU (F:E4) (tm:Tr Aa) (r:CE×Ak):Option (NT×Ak):=
 match r.1 with
 |.returning=>AD (Abv tm r.2 F.results) fun vs=>some (.ret (oneOf vs),r.2)
 |.panicking v=>some (.panic v,r.2)
def Ra (e:Bc):Option CE:=
 match e with
 |.normal=>some .returning
 |.ret=>some .returning
 |.panic v=>some (.panicking v)
 |.exit _=>none
def Hr (F:E4) (args:List Aa) (h:Ak):Fr:=⟨NM args 0 (Tr.full Aa F.depth),h,[]⟩
def PE (Γ:Ao) (call:Co) (j:Sh) (fuel:Nat) (F:E4) (args:List Aa) (h:Ak):Option (NT×Ak):=
 AD (exec Γ call fuel F.body (Hr F args h)) fun r=>AD (Ra r.1) fun m=>AD (Rg j r.2.df m r.2.h) fun x=>AeU F r.2.tm x
def FZ (m:CE) (r:Bc×Fr):Option (CE×Ak):=
 match r.1,r.2.df with
 |.normal,[]=>some (m,r.2.h)
 |.ret,[]=>some (m,r.2.h)
 |_,_=>none
def recovered (m:CE):Aa:=
 match m with
 |.panicking v=>v
 |.returning=>.nilIface
def KT (Γ:Ao) (call:Co) (fuel:Nat) (F:E4) (args:List Aa) (m:CE) (h:Ak):Option (CE×Ak):=
 match F.body,F.results with
 |.seq (.region false (⟨dst,none,.m .recover,_⟩::steps)) rest,[]=>
  AD (UD Γ call steps ⟨DM (Hr F args h).tm dst (recovered m),h,[]⟩) fun r=>AD (andThen (FH r) fun f=>exec Γ call fuel rest f) fun r=>FZ .returning r
 |body,[]=>AD (exec Γ call fuel body (Hr F args h)) fun r=>FZ m r
 |_,_=>none
abbrev Bm:=List Aa->Ak->Option (NT×Ak)
def QU (o:Option Bm) (args:List Aa) (h:Ak) (k:Unit->Option (NT×Ak)):Option (NT×Ak):=
 match o with
 |some f=>(match f args h with|some r=>some r|none=>k ())
 |none=>k ()
def Ly (Γ:Ao) (j:FuncId->Option Bm) (DG:FuncId->Option E4) (fuel d:Nat):Co:=
 Nat.rec (motive:=fun _=>Co) (fun _ _ _=>none)
  (fun _ ih f args h=>QU (j f) args h (fun _=>AD (DG f) fun F=>PE Γ ih (fun f args m h=>AD (DG f) fun F=>KT Γ ih fuel F args m h) fuel F args h)) d
def Ao.bare (Γ:Ao):Ao:={Γ with loops:=[]}
def Af7 (Γ:Ao) (j:FuncId->Option Bm) (DG:FuncId->Option E4) (fuel d:Nat):Co:=fun f args h=>
 AD (DG f) fun F=>PE Γ (Ly Γ.bare j DG fuel d) (fun f args m h=>AD (DG f) fun F=>KT Γ.bare (Ly Γ.bare j DG fuel d) fuel F args m h) fuel F args h
def inK (k:IntKind) (t:ST):Bool:=
 match t with
 |.lit n=>bif Ij k then ile (.negSucc (modulus k/2-1)) n&&ile n (.ofNat (modulus k/2-1))else ile (.ofNat 0) n&&ile n (.ofNat (modulus k-1))
 |_=>false
def Xc (Γ:Ao) (t:ST):Bool:=
 match t with
 |.lit n=>inK .i64 (.lit n)
 |.conv k _=>Vh k .i64
 |.bin .add k _ _=>Vh k .i64
 |t=>CR (BV Γ.tests .geq t (.lit (.negSucc 9223372036854775807)))&&CR (BV Γ.tests .leq t (.lit (.ofNat 9223372036854775807)))
def MP (Γ:Ao):Bm:=fun args h=>
 match args with
 |[.int .i64 n,.int .i64 (.lit (.ofNat 10))]=>bif Xc Γ n then some (.ret (.anyStr 21),h)else none
 |_=>none
def MQ (Γ:Ao):Bm:=fun args h=>
 match args with
 |[.int .i64 n]=>bif Xc Γ n then some (.ret (.anyStr 21),h)else none
 |_=>none
def SX (f:Nat) (l:List (Nat×Bm)):Option Bm:=
 List.rec (motive:=fun _=>Option Bm) none (fun x _ ih=>bif Nat.beq x.1 f then some x.2 else ih) l
def AcZ (x:BR) (h:Ak) (σ:List Nat):Option (NT×Ak):=
 AD (OR σ x.post 0 ⟨h.DG,h.next+(Ta x.post-GG x.pre),h.fx⟩) fun j=>AD (UJ σ x.res) fun v=>some (.ret v,j)
def RN (x:BR):Bm:=fun args h=>
 let σ:=So h x.pre 0 (Wf x.args args [])
 bif Afa x args h σ then AcZ x h (σ++Ll x.post (GG x.pre) h.next)else none
def JW (l:List BR):Bm:=
 List.rec (motive:=fun _=>Bm) (fun _ _=>none) (fun x _ ih args h=>match RN x args h with|some y=>some y|none=>ih args h) l
def Zr:Bm:=fun args h=>
 match args with
 |[]=>some (.ret yes,h)
 |_=>none
end
end
section
def strOf (s:ByteArray):List Nat:=s.data.toList.map (·.toNat)
mutual
def GI:Value->Aa
 |.bool b=>.bool (.lit b)
 |.int k n=>.int k (.lit n)
 |.string s=>.str (strOf s)
 |.pointer none=>.nilPtr
 |.slice none 0 0=>.nilSlice
 |.map none=>.nilMap
 |.nilFunc=>.nilFunc
 |.nilIface=>.nilIface
 |.agg ⟨cs⟩=>if (TY cs).all (·.single)then .agg (TY cs)else .any
 |_=>.any
def TY:List Value->List Aa
 |[]=>[]
 |v::r=>GI v::TY r
end
def AF:Operand->Cu
 |.tmp t=>.tmp t
 |.const v=>.con (GI v)
 |.func f=>.con (.func f [] [])
 |.global _=>.con .any
def BW (l:List Operand):List Cu:=l.map AF
def AZ (P:Program) (t:TypeId):Option Nat:=(P.info? t).map (·.size)
def DT (P:Program) (t:TypeId):Option (Option Nat):=
 match P.underlying t,P.info? t with
 |some (.struct _),some i|some (.array _ _),some i=>some (some i.size)
 |some _,some _=>some none
 |_,_=>none
def Hg (P:Program) (t:TypeId):Option (List Aa):=
 match P.info? t with
 |some i=>i.zero.bind fun v=>(GI v).cells.bind fun cs=>if cs.all (·.single)then some cs else none
 |none=>none
def D6 {α:Type}:List (Option (List α))->Option (List α)
 |[]=>some []
 |some a::r=>(D6 r).map (a++·)
 |none::_=>none
def LK.no:LK->Nat
 |.bool=>0
 |.int=>1
 |.str=>2
def Cs (k:Nat) (l:List (Nat×LK)):List (Nat×LK):=l.map fun x=>(k+x.1,x.2)
def below (n:Nat) (l:List (Nat×LK)):Bool:=l.all fun x=>Nat.blt x.1 n
def leaves (P:Program):Nat->TypeId->Option (List (Nat×LK))
 |0,_=>none
 |d+1,t=>match P.underlying t with
  |some .bool=>some [(0,.bool)]
  |some (.int _)=>some [(0,.int)]
  |some .string=>some [(0,.str)]
  |some (.struct fs)=>if P.stoodInHeld t then none else D6 (fs.toList.map fun f=>if f.name= "_" then none else
    match leaves P d f.type,AZ P f.type with
    |some l,some n=>if below n l&&Nat.ble (f.offset+n) (P.cellsOf t)then some (Cs f.offset l)else none
    |_,_=>none)
  |some (.array k e)=>match leaves P d e,AZ P e with
   |some l,some n=>if below n l&&Nat.ble (k*n) (P.cellsOf t)then some ((List.range k).flatMap fun i=>Cs (i*n) l)else none
   |_,_=>none
  |_=>none
def Ea:List (Nat×LK)->List (Nat×LK)->Bool
 |[],[]=>true
 |a::x,b::y=>Nat.beq a.1 b.1&&Nat.beq a.2.no b.2.no&&Ea x y
 |_,_=>false
def KH (P:Program) (t:TypeId):Bool:=
 match DT P t with
 |some (some _)=>true
 |_=>false
def Rr (P:Program) (pl:List Cq):Bool:=
 pl.all fun x=>(match leaves P 6 x.t with|some l=>Ea l x.Tb|none=>false)&&((P.info? x.t).map (·.comparable)).getD false&&beq (KH P x.t) x.agg
def Y2 (P:Program) (t:TypeId):Option LK:=
 match P.underlying t with
 |some .bool=>some .bool
 |some (.int _)=>some .int
 |some .string=>some .str
 |_=>none
def Ee:Operand->Bool
 |.const .nilIface=>true
 |_=>false
def partsOf (j:Nat->Option (Nat×Nat)):List (Nat×Operand)->Option (List (Nat×Nat×Cu))
 |[]=>some []
 |(i,x)::r=>match j i,partsOf j r with
  |some (off,size),some ps=>some ((off,size,AF x)::ps)
  |_,_=>none
def RU (P:Program) (pl:List Cq) (j:Bool) (t:TypeId) (x y:Operand):Option POp:=
 match P.underlying t with
 |some .bool=>some (.eqs j .bool (AF x) (AF y))
 |some (.pointer e)=>(AZ P e).bind fun _=>some (.eqs j .ptr (AF x) (AF y))
 |some (.slice _)=>some (.eqs j .slice (AF x) (AF y))
 |some (.map _ _)=>some (.eqs j .map (AF x) (AF y))
 |some (.func _ _ _)=>some (.eqs j .func (AF x) (AF y))
 |some (.struct _) |some (.array _ _)=>match leaves P 6 t with
  |some l=>if P.eqGuardType P.depth t then none else some (.eqs j (.plain l) (AF x) (AF y))
  |none=>none
 |some (.interface ms)=>if Rr P pl then some (.eqs j (.iface (ms.isEmpty||Ee x||Ee y) pl) (AF x) (AF y))else none
 |_=>none
def Xp (P:Program) (pl:List Cq) (op:BinOp) (t:TypeId) (x y:Operand):Option POp:=
 match P.underlying t,op with
 |some (.int _),_=>some (.bin op (AF x) (AF y))
 |some .string,_=>some (.bin op (AF x) (AF y))
 |some _,.eql=>RU P pl false t x y
 |some _,.neq=>RU P pl true t x y
 |_,_=>none
def u8T (P:Program) (e:TypeId) (size:Nat):Option Nat:=
 match P.underlying e,P.info? e with
 |some (.int .u8),some i=>(match i.zero with|some (.int .u8 (.ofNat 0))=>if Nat.beq size 1 then some e else none|_=>none)
 |_,_=>none
def EK (P:Program) (e:TypeId) (bytes:Bool) (x y:Operand):Option DF:=
 match P.info? e with
 |some i=>if i.bytes<=1048576&&(i.zero.map fun v=>Nat.beq v.cells.size i.size).getD false then some (.m (.append i.size (u8T P e i.size) bytes (AF x) (AF y)))else none
 |none=>none
def fieldsOf (P:Program) (t:TypeId):List Field:=
 match P.underlying t with
 |some (.struct fs)=>fs.toList
 |_=>[]
def AbD (P:Program) (t:TypeId):Bool:=
 match fieldsOf P t with
 |f::_=>(match P.underlying f.type with|some (.pointer u)=>Nat.beq u t|_=>false)
 |[]=>false
def Acb (P:Program) (t:TypeId):Bool:=
 AbD P t||(match fieldsOf P t with|f::_=>AbD P f.type|[]=>false)
def St (P:Program) (t:TypeId):Option Nat:=if Acb P t then some t else none
def Ho (P:Program) (p:TypeId->Nat->Bool):List (Nat×Nat):=
 (List.range P.types.size).filterMap fun e=>if Acb P e then (match P.info? e with|some i=>if Nat.ble 1 i.size&&p e i.size then some (e,i.size)else none|none=>none)else none
def Nz (P:Program) (s d:TypeId) (x:Operand):Option DF:=
 match P.underlying s,P.underlying d with
 |some (.int _),some (.int k)=>some (.p (.conv k (AF x)))
 |some .string,some .string=>some (.p (.same (AF x)))
 |some (.slice e),some .string=>(match P.underlying e with|some (.int .u8)=>some (.r (.bstr (AF x))) |_=>none)
 |some (.pointer t),some .unsafePointer=>(match AZ P t with|some (_+1)=>some (.r (.uptr (Ho P fun _ _=>true) (AF x))) |_=>none)
 |some .unsafePointer,some (.pointer u)=>(AZ P u).map fun _=>.r (.uptr (Ho P fun e n=>liesAt P P.depth e (n/P.cellsOf e) 0 u 1) (AF x))
 |_,_=>none
def Ji (P:Program) (t:TypeId) (ok:Bool) (x:Operand):Option DF:=
 match P.underlying t,P.info? t with
 |some (.interface _),_=>none
 |some _,some i=>if ok then i.zero.map fun z=>.p (.assert t (some (GI z)) (AF x))else some (.p (.assert t none (AF x)))
 |_,_=>none
def Ff (P:Program) (c:Call):Option DF:=
 match c.callee with
 |.value (.func f)=>match P.funcs[f]? with
  |some fn=>if fn.body.isSome then some (.m (.call (AF (.func f)) (BW c.args.toList)))
   else if fn.name== "maps.clone" &&fn.origin== "" then (match c.args.toList with|[x]=>some (.m (.clone (AF x))) |_=>none)
   else if fn.name== "internal/abi.NoEscape" &&fn.origin== "" then (match c.args.toList with|[x]=>some (.m (.AbZ (AF x))) |_=>none)
   else none
  |none=>none
 |.value f=>some (.m (.call (AF f) (BW c.args.toList)))
 |.invoke _ _=>none
 |.builtin b=>match b,c.args.toList,c.argTypes.toList with
  |.len,[x],[t]=>match P.underlying t with
   |some .string=>some (.p (.AhW (AF x)))
   |some (.slice _)=>some (.p (.AhX (AF x)))
   |some (.array n _)=>some (.p (.mv (.con (lit .i64 (.ofNat n)))))
   |some (.map _ _)=>some (.r (.lenM (AF x)))
   |_=>none
  |.append,[x,y],[t,u]=>match P.underlying t,P.underlying u with
   |some (.slice e),some (.slice _)=>EK P e false x y
   |some (.slice e),some .string=>EK P e true x y
   |_,_=>none
  |.copy,[x,y],[t,u]=>match P.underlying t,P.underlying u with
   |some (.slice e),some (.slice _)=>(AZ P e).map fun n=>.m (.copy n false (AF x) (AF y))
   |some (.slice e),some .string=>(AZ P e).map fun n=>.m (.copy n true (AF x) (AF y))
   |_,_=>none
  |.max,xs,_=>some (.p (.big true (BW xs)))
  |.min,xs,_=>some (.p (.big false (BW xs)))
  |.recover,[],_=>some (.m .recover)
  |.unsafeSliceData,[x],_=>some (.p (.Abp (AF x)))
  |.unsafeString,[p,n],[pt,_]=>match P.underlying pt with
   |some (.pointer e)=>if Nat.beq (P.cellsOf e) 1 then some (.m (.Af3 e (AF p) (AF n)))else none
   |_=>none
  |_,_,_=>none
def Ds (P:Program) (pl:List Cq) (o:Oper):Option DF:=
 match o.op with
 |.move x|.assign x=>some (.p (.mv (AF x)))
 |.pick c a b=>some (.p (.pick (AF c) (AF a) (AF b)))
 |.alloc t=>(Hg P t).map fun z=>.a (.zero (St P t) z)
 |.box t x=>some (.a (.box (St P t) (AF x)))
 |.build t parts=>match P.underlying t,Hg P t with
  |some (.struct fs),some z=>if fs.all fun f=>(P.info? f.type).isSome then (partsOf (fun i=>(fs[i]?).bind fun f=>(AZ P f.type).map fun n=>(f.offset,n)) parts.toList).map fun ps=>.p (.build z ps)else none
  |some (.array _ e),some z=>(AZ P e).bind fun n=>(partsOf (fun i=>some (i*n,n)) parts.toList).map fun ps=>.p (.build z ps)
  |_,_=>none
 |.buildSlice t len parts=>match P.underlying t with
  |some (.slice e)=>match AZ P e,Hg P e with
   |some n,some z=>if len*n<=65536&&z.length==n then (partsOf (fun i=>some (i*n,n)) parts.toList).map fun ps=>.a (.bslice len (List.replicate len z).flatten ps)else none
   |_,_=>none
  |_=>none
 |.insert t m k v|.mapUpdate t m k v=>match P.underlying t with
  |some (.map kt _)=>(Y2 P kt).map fun kk=>.m (.mapUp kk (AF m) (AF k) (AF v))
  |_=>none
 |.load t x=>(DT P t).map fun n=>.r (.load n (AF x))
 |.store t a x=>(AZ P t).map fun n=>.m (.store n (AF a) (AF x))
 |.nilCheck x=>some (.p (.AhS (AF x)))
 |.binOp op t x y _=>(Xp P pl op t x y).map .p
 |.unOp op _ x=>some (.p (.un op (AF x)))
 |.convert s d x=>Nz P s d x
 |.typeAssert x _ t ok=>Ji P t ok x
 |.makeInterface t x=>match P.underlying t with
  |some (.interface _)=>none
  |some _=>some (.p (.iface t (AF x)))
  |none=>none
 |.makeFunc (.func f) a c=>some (.p (.func f (BW a.toList) (BW c.toList)))
 |.makeMap t r=>match P.underlying t,r with
  |some (.map _ _),none|some (.map _ _),some (.const (.int _ _))=>some (.a .mkMap)
  |_,_=>none
 |.makeSlice t l c=>match P.underlying t with
  |some (.slice e)=>match P.info? e,Hg P e with
   |some i,some z=>if i.bytes<=1048576&&z.length==i.size then some (.a (.mkSlice z (AF l) (AF c)))else none
   |_,_=>none
  |_=>none
 |.slice t x lo hi mx=>match P.underlying t,mx with
  |some .string,none=>some (.p (.subs (AF x) (lo.map AF) (hi.map AF)))
  |some (.slice e),none=>(AZ P e).map fun n=>.p (.reslice n (AF x) (lo.map AF) (hi.map AF) none)
  |some (.slice e),some m=>if hi.isSome then (AZ P e).map fun n=>.p (.reslice n (AF x) (lo.map AF) (hi.map AF) (some (AF m)))else none
  |_,_=>none
 |.fieldAddr t x f=>match P.underlying t with
  |some (.struct fs)=>(fs[f]?).bind fun g=>match AZ P g.type with
   |some (_+1)=>some (.p (.V5 g.offset (AF x)))
   |_=>none
  |_=>none
 |.field t x f=>match P.underlying t with
  |some (.struct fs)=>(fs[f]?).bind fun g=>(DT P g.type).map fun n=>.p (.field g.offset n (AF x))
  |_=>none
 |.indexAddr t x i=>match P.underlying t with
  |some (.slice e)=>(AZ P e).map fun n=>.p (.Aif n (AF x) (AF i))
  |some (.array len e)=>(AZ P e).map fun n=>.p (.Vj len n (AF x) (AF i))
  |_=>none
 |.index t x i=>match P.underlying t with
  |some (.array len e)=>match AZ P e,DT P e with
   |some n,some a=>some (.p (.idx len n a (AF x) (AF i)))
   |_,_=>none
  |some .string=>some (.p (.Aie (AF x) (AF i)))
  |_=>none
 |.lookup t x k ok=>match P.underlying t with
  |some (.map kt e)=>match P.info? e,Y2 P kt with
   |some i,some kk=>i.zero.map fun z=>.r (.lookup kk (GI z) ok (AF x) (AF k))
   |_,_=>none
  |_=>none
 |.extract x i=>some (.p (.ext (AF x) i))
 |.panic x=>some (.m (.panic (AF x)))
 |.call c=>Ff P c
 |.defer {callee:=.value f,args,.. }=>some (.m (.defer (AF f) (BW args.toList)))
 |_=>none
def guardOf (q:Array Oper):Option (Nat×Bool)->Option (Option (Nat×Bool))
 |none=>some none
 |some (j,want)=>match (q[j]?).bind (·.dst)with
  |some d=>some (some (d,want))
  |none=>none
def stepOf (P:Program) (pl:List Cq) (nt:Nat) (j:Array Oper) (o:Oper) (back:Nat):Option Step:=
 match Ds P pl o,guardOf j o.guard with
 |some op,some g=>if (o.dst.all fun d=>Nat.blt d nt)&&(g.all fun x=>Nat.blt x.1 nt)then some ⟨o.dst,g,op,back⟩else none
 |_,_=>none
def B6 {α:Type}:List (Option α)->Option (List α)
 |[]=>some []
 |some a::r=>(B6 r).map (a::·)
 |none::_=>none
def QT (before:Array Nat) (n:Nat):List Nat->List Nat->List Nat
 |[],done=>done++(List.range n).filter fun i=>!done.contains i
 |m::ms,done=>QT before n ms (done++(List.range n).filter fun i=>!done.contains i&&(i==m||(before.getD m 0).testBit i))
def Cu.names:Cu->List Nat
 |.tmp t=>[t]
 |.con _=>[]
def POp.BW:POp->List Cu
 |.mv x|.AhS x|.un _ x|.conv _ x|.same x|.iface _ x|.V5 _ x|.field _ _ x|.ext x _|.AhW x|.AhX x|.assert _ _ x|.Abp x=>[x]
 |.pick c a b=>[c,a,b]
 |.build _ ps=>ps.map (·.2.2)
 |.bin _ x y|.eqs _ _ x y|.Aif _ x y|.Vj _ _ x y|.idx _ _ _ x y|.Aie x y=>[x,y]
 |.func _ a c=>a++c
 |.subs x lo hi=>x::(lo.toList++hi.toList)
 |.reslice _ x lo hi mx=>x::(lo.toList++(hi.toList++mx.toList))
 |.big _ xs=>xs
def NV.BW:NV->List Cu
 |.load _ x|.lenM x|.uptr _ x|.bstr x=>[x]
 |.lookup _ _ _ x k=>[x,k]
def AOp.BW:AOp->List Cu
 |.box _ x=>[x]
 |.zero _ _|.mkMap=>[]
 |.bslice _ _ ps=>ps.map (·.2.2)
 |.mkSlice _ l c=>[l,c]
def MOp.BW:MOp->List Cu
 |.store _ a x|.append _ _ _ a x|.copy _ _ a x|.Af3 _ a x=>[a,x]
 |.call f args|.defer f args=>f::args
 |.mapUp _ m k v=>[m,k,v]
 |.clone x|.panic x|.AbZ x=>[x]
 |.recover=>[]
def DF.BW:DF->List Cu
 |.p o=>o.BW
 |.r o=>o.BW
 |.a o=>o.BW
 |.m o=>o.BW
def Step.names (s:Step):List Nat:=
 match s.guard with
 |some g=>g.1::s.op.BW.flatMap Cu.names
 |none=>s.op.BW.flatMap Cu.names
def VV (W:Nat->Nat->Bool) (x y:Nat×Step):Bool:=
 !(Nat.beq x.1 y.1)&&(!BN y.2.op||W x.1 y.1)&&
 (match x.2.dst with
  |some d=>(match y.2.dst with|some e=>!(Nat.beq e d) |none=>true)&&(!(y.2.names.any (Nat.beq d)) ||W x.1 y.1)
  |none=>true)&&
 (match y.2.dst with
  |some d=>!(x.2.names.any (Nat.beq d)) ||W x.1 y.1
  |none=>true)
def NK (W:Nat->Nat->Bool) (x:Nat):List (Nat×Step)->Nat->Bool
 |[],_=>true
 |y::r,k=>if BN y.2.op then NK W x r (k+1)else (Nat.blt k y.2.back||W x y.1)&&NK W x r k
def AeN (s:Step):Bool:=
 match s.dst with
 |some d=>!(s.names.any (Nat.beq d))
 |none=>true
def okD (W:Nat->Nat->Bool):List (Nat×Step)->Bool
 |[]=>true
 |x::r=>AeN x.2&&(r.all (VV W x)&&((!BN x.2.op||NK W x.1 r 0)&&okD W r))
def CS (j:Array Oper) (i:Nat):List Nat:=
 match j[i]? with
 |some o=>(o.after.toList.filter (Region.binds .any)).map (·.on)
 |none=>[]
def Y1 (j:Array Oper):List Nat->Bool
 |[]=>true
 |i::r=>(CS j i).all (fun e=>Nat.blt e i&&!(r.any (Nat.beq e)))&&Y1 j r
def waits (before:List Nat) (i j:Nat):Bool:=(before.getD j 0).testBit i
def IG (q:Array Oper) (before:List Nat):Bool:=
 (List.range q.size).all fun j=>(List.range q.size).all fun i=>!(waits before i j) ||
  (CS q j).any fun e=>Nat.blt e j&&(Nat.beq e i||waits before i e)
def AcW (before:Array Nat) (muts j:List Nat) (i:Nat):Nat:=
 let seen:=(j.takeWhile (·!=i)).filter muts.contains
 (seen.filter fun m=>!(before.getD i 0).testBit m).length
def AcJ (q:Array Oper) (before j:List Nat) (v:List Step):Bool:=
 Nat.beq j.length v.length&&Nat.beq j.length q.size&&((List.range q.size).all (fun i=>j.any (Nat.beq i))&&(j.all (fun i=>Nat.blt i q.size)&&(Y1 q j&&(IG q before&&okD (waits before) (j.zip v)))))
def Ny (P:Program) (pl:List Cq) (nt:Nat) (j:Array Oper):Option (List Step):=
 let before:=Region.before j
 match B6 (j.toList.map (Ds P pl))with
 |none=>none
 |some iops=>
  let muts:=(List.range j.size).filter fun i=>(iops[i]?.map BN).getD false
  let q:=QT before j.size muts []
  match B6 (q.map fun i=>(j[i]?).bind fun o=>stepOf P pl nt j o (AcW before muts q i))with
  |some steps=>if AcJ j before.toList q steps then some steps else none
  |none=>none
def GA (P:Program) (pl:List Cq) (nt:Nat) (j:Array Oper) (q:Bool):Option (List Step):=
 if q then Ny P pl nt j else B6 (j.toList.map fun o=>stepOf P pl nt j o 0)
def AV (P:Program) (pl:List Cq) (nt:Nat):Code->Option IC
 |.skip=>some .skip
 |.region _ ops draw=>(GA P pl nt ops draw).map (.region draw)
 |.seq a b=>match AV P pl nt a,AV P pl nt b with
  |some a,some b=>some (.seq a b)
  |_,_=>none
 |.cond c a b=>match AV P pl nt a,AV P pl nt b with
  |some a,some b=>some (.cond (AF c) a b)
  |_,_=>none
 |.block id b=>(AV P pl nt b).map (.block id)
 |.loop b=>(AV P pl nt b).map .loop
 |.exit id=>some (.exit id)
 |.ret=>some .ret
 |.refuse _=>some (.cond (.con .any) .skip .skip)
 |_=>none
def G0 (P:Program):ResultVar->Option Sg
 |.tmp t=>some (.tmp t)
 |.cell a t=>(DT P t).map (.cell a)
def Aex (n:Nat):Nat:=Nat.log2 (n+1)+1
def EJ (P:Program) (pl:List Cq) (fn:Func):Option E4:=
 match fn.body with
 |none=>none
 |some c=>match AV P pl fn.ntmps c,B6 (fn.results.toList.map (G0 P))with
  |some body,some results=>some {depth:=Aex fn.ntmps,results,body}
  |_,_=>none
end
section
inductive PV where
 |bool (b:Bool)
 |int (k:IntKind) (n:Int)
 |str (s:List Nat)
 |list (es:Nat) (l:List (List PV))
 |nilp
structure Env where
 val:Nat->Int
 AQ:Nat->Option Obj:=fun _=>none
 str:Nat->List Nat:=fun _=>[]
 lst:Nat->List (List PV):=fun _=>[]
 map:Nat->List (List Nat×List PV):=fun _=>[]
instance:Coe Env (Nat->Int):=⟨Env.val⟩
theorem Rm (a b:Int):ile a b=decide (a<=b):=by
 rw [Bool.eq_iff_iff]
 cases a<;>cases b<;>simp [ile]<;>omega
theorem Ro (a b:Int):Ze a b=(a==b):=by
 rw [Bool.eq_iff_iff]
 cases a<;>cases b<;>simp [Ze]<;>omega
theorem Rn {a b:Int}:Ze a b=true↔a=b:=by rw [Ro];simp
theorem Aic (a b:Int):ilt a b=decide (a<b):=by
 unfold ilt;rw [Rm,Bool.eq_iff_iff];simp
theorem Dj {a b:IntKind}:Vh a b=true↔a=b:=by
 cases a<;>cases b<;>simp [Vh,Vg]
theorem Hz {a b:BinOp}:Od a b=true↔a=b:=by
 cases a<;>cases b<;>simp [Od,XX]
theorem beq_eq (a b:Bool):beq a b=(a==b):=by cases a<;>cases b<;>rfl
theorem LI (n:Int) (m:Nat) (j:0<m):(Fo n m:Int)=n%(m:Int):=by
 cases n with
 |ofNat a=>simp [Fo]
 |negSucc a=>
  have h:=Nat.mod_lt a j
  simp only [Fo]
  rw [Int.negSucc_emod a (by omega:(0:Int)<(m:Int))]
  omega
theorem Aej (n:Int) (m:Nat) (j:0<m):Fo n m<m:=by
 cases n with
 |ofNat a=>exact Nat.mod_lt _ j
 |negSucc a=>simp only [Fo];have h:=Nat.mod_lt a j;omega
theorem H7 (k:IntKind):0<modulus k:=by cases k<;>decide
theorem IW (k:IntKind):(2:Int)^k.bits=(modulus k:Int):=by cases k<;>rfl
theorem QZ (k:IntKind):(2:Int)^(k.bits-1)*2=(modulus k:Int):=by cases k<;>rfl
theorem UA (k:IntKind):Ij k=k.signed:=by cases k<;>rfl
theorem Gc (k:IntKind) (n:Int) (m:Nat) (h:n%(2^k.bits:Int)=(m:Int)) (v:m<modulus k):k.wrap n=back k m:=by
 have x:=QZ k
 unfold IntKind.wrap back
 simp only [h]
 rw [IW,UA]
 cases hs:k.signed with
 |false=>simp
 |true=>
  simp only [Bool.true_and]
  by_cases hc:modulus k<=m+m
  ·have q:Nat.ble (modulus k) (m+m)=true:=by simpa using hc
   have j:decide ((m:Int)>=2^(k.bits-1))=true:=by simp;omega
   rw [if_pos (by simpa using j),q]
   simp only [cond_true]
   omega
  ·have q:Nat.ble (modulus k) (m+m)=false:=by
    cases h':Nat.ble (modulus k) (m+m)with
    |false=>rfl
    |true=>exact absurd (Nat.le_of_ble_eq_true h') hc
   have j:¬((m:Int)>=2^(k.bits-1)):=by omega
   rw [if_neg (by simpa using j),q]
   rfl
theorem Hi (k:IntKind) (n:Int):Lc k n=k.wrap n:=by
 unfold Lc
 exact (Gc k n _ (by rw [IW,LI _ _ (H7 k)]) (Aej _ _ (H7 k))).symm
theorem WV (k:IntKind) (x:Int):Fo x (modulus k)=(BitVec.ofInt k.bits x).toNat:=by
 rw [BitVec.toNat_ofInt]
 have h:=LI x (modulus k) (H7 k)
 have e:((2^k.bits:Nat):Int)=(modulus k:Int):=by cases k<;>rfl
 rw [e,<-h]
 exact (Int.toNat_natCast _).symm
theorem Jt (k:IntKind):2^k.bits=modulus k:=by cases k<;>rfl
theorem HW (op:BinOp) (k:IntKind) (x y:Int) (h:op=.and∨op=.or∨op=.xor∨op=.andNot):NF op k x y=bits op k x y:=by
 unfold NF bits
 rw [WV,WV]
 generalize BitVec.ofInt k.bits x=a
 generalize BitVec.ofInt k.bits y=b
 have hb:∀r:BitVec k.bits,back k r.toNat=k.wrap (r.toNat:Int):=fun r=>by
  have j:r.toNat<modulus k:=by rw [<-Jt];exact r.isLt
  exact (Gc k _ _ (by rw [IW];exact Int.emod_eq_of_lt (by omega) (by omega)) j).symm
 rcases h with rfl|rfl|rfl|rfl<;>simp only [WW]<;>rw [<-hb]
 ·rw [BitVec.toNat_and];rfl
 ·rw [BitVec.toNat_or];rfl
 ·rw [BitVec.toNat_xor];rfl
 ·rw [BitVec.toNat_and,BitVec.toNat_not,Jt];rfl
def Ag (op:BinOp) (k:IntKind) (x y:Int):Int:=
 match op with
 |.add=>k.wrap (x+y)
 |.sub=>k.wrap (x-y)
 |.mul=>k.wrap (x*y)
 |.quo=>k.wrap (x.tdiv y)
 |.rem=>x.tmod y
 |.shl=>k.wrap (x*2^min y.toNat k.bits)
 |.shr=>x.fdiv (2^min y.toNat k.bits)
 |op=>bits op k x y
def E3 (op:BinOp) (x y:Int):Bool:=
 match op with
 |.eql=>x==y
 |.neq=>x !=y
 |.lss=>decide (x<y)
 |.leq=>decide (x<=y)
 |.gtr=>decide (x>y)
 |_=>decide (x>=y)
def ST.den (ρ:Nat->Int):ST->Int
 |.lit n=>n
 |.var i=>ρ i
 |.bin op k a b=>Ag op k (a.den ρ) (b.den ρ)
 |.conv k a=>k.wrap (a.den ρ)
def SB.den (ρ:Nat->Int):SB->Bool
 |.lit b=>b
 |.cmp op a b=>E3 op (a.den ρ) (b.den ρ)
 |.no a=>!(a.den ρ)
theorem ST.Ba:∀{a b:ST},a.eq b=true->a=b
 |.lit a,.lit b,h=>by simp only [ST.eq]at h;rw [Rn.1 h]
 |.var i,.var j,h=>by simp only [ST.eq]at h;rw [Nat.eq_of_beq_eq_true h]
 |.bin o k a b,.bin o' k' a' b',h=>by
  simp only [ST.eq,aT]at h
  obtain ⟨⟨⟨q,x⟩,v⟩,z⟩:=h
  rw [Hz.1 q,Dj.1 x,ST.Ba v,ST.Ba z]
 |.conv k a,.conv k' a',h=>by
  simp only [ST.eq,aT]at h
  rw [Dj.1 h.1,ST.Ba h.2]
 |.lit _,.var _,h|.lit _,.bin ..,h|.lit _,.conv ..,h|.var _,.lit _,h|.var _,.bin ..,h|.var _,.conv ..,h
 |.bin ..,.lit _,h|.bin ..,.var _,h|.bin ..,.conv ..,h|.conv ..,.lit _,h|.conv ..,.var _,h|.conv ..,.bin ..,h=>by simp [ST.eq]at h
theorem SB.Ba:∀{a b:SB},a.eq b=true->a=b
 |.lit a,.lit b,h=>by simp only [SB.eq,beq_eq]at h;simp at h;rw [h]
 |.cmp o a b,.cmp o' a' b',h=>by
  simp only [SB.eq,aT]at h
  rw [Hz.1 h.1.1,ST.Ba h.1.2,ST.Ba h.2]
 |.no a,.no b,h=>by simp only [SB.eq]at h;rw [SB.Ba h]
 |.lit _,.cmp ..,h|.lit _,.no _,h|.cmp ..,.lit _,h|.cmp ..,.no _,h|.no _,.lit _,h|.no _,.cmp ..,h=>by simp [SB.eq]at h
def DZ (ρ:Env):Aa->Option (List Nat)
 |.str s=>some s
 |.svar i=>some (ρ.str i)
 |_=>none
def LF (ρ:Env):Aa->PV->Prop
 |.bool b,p=>p=.bool (b.den ρ)
 |.int k n,p=>p=.int k (n.den ρ)
 |.str s,p=>p=.str s
 |.svar i,p=>p=.str (ρ.str i)
 |.lst f i es n,p=>f=false/\p=.list es (ρ.lst i)/\n.den ρ=((ρ.lst i).length:Int)
 |.nilPtr,p=>p=.nilp
 |_,_=>False
def FA (ρ:Env):List Aa->List PV->Prop
 |[],ps=>ps=[]
 |a::as,ps=>∃p rest,ps=p::rest/\LF ρ a p/\FA ρ as rest
def We (ρ:Env) (a:Aa) (p:PV):Prop:=
 match a with
 |.nilSlice=>∃j,p=.list j []
 |a=>LF ρ a p
def CD (ρ:Env):List Aa->List PV->Prop
 |[],ps=>ps=[]
 |a::as,ps=>∃p rest,ps=p::rest/\We ρ a p/\CD ρ as rest
def DV (ρ:Env):List (List Aa)->List (List PV)->Prop
 |[],ps=>ps=[]
 |a::as,ps=>∃p rest,ps=p::rest/\CD ρ a p/\DV ρ as rest
def F8 (ρ:Env):AK->List (List PV)->Prop
 |.els es,l=>DV ρ es l
 |.all i,l=>l=ρ.lst i
 |.take i n,l=>0<=n.den ρ/\n.den ρ<=((ρ.lst i).length:Int)/\l=(ρ.lst i).take (n.den ρ).toNat
 |.drop i n,l=>0<=n.den ρ/\n.den ρ<=((ρ.lst i).length:Int)/\l=(ρ.lst i).drop (n.den ρ).toNat
def Bx (ρ:Env):List AK->List (List PV)->Prop
 |[],l=>l=[]
 |p::ps,l=>∃a b,l=a++b/\F8 ρ p a/\Bx ρ ps b
def Adq (ρ:Env):List (Aa×List Aa)->List (List Nat×List PV)->Prop
 |[],l=>l=[]
 |x::r,l=>∃s ps rest,l=(s,ps)::rest/\DZ ρ x.1=some s/\CD ρ x.2 ps/\Adq ρ r rest
def Bj:List (List Nat×List PV)->List Nat->Option (List PV)
 |[],_=>none
 |e::r,k=>if e.1=k then some e.2 else Bj r k
def By:List (List Nat×List PV)->List Nat->List PV->List (List Nat×List PV)
 |[],k,v=>[(k,v)]
 |e::r,k,v=>if e.1=k then (k,v)::r else e::By r k v
structure Ao.AI (Γ:Ao) (ρ:Env):Prop where
 DN:∀x∈Γ.DN,x.1.den ρ=x.2
 tests:∀x∈Γ.tests,E3 x.1 (x.2.1.den ρ) (x.2.2.1.den ρ)=x.2.2.2
 strs:∀x∈Γ.strs,∃s t,DZ ρ x.1=some s/\DZ ρ x.2.1=some t/\x.2.2=decide (s=t):=by intro _ h;cases h
 EA:∀x∈Γ.EA,∃s t,DZ ρ x.1=some s/\DZ ρ x.2.1=some t/\DZ ρ x.2.2=some (s++t)/\s.length+t.length<=1048576:=by intro _ h;cases h
 BT:∀x∈Γ.BT,x.2.1.den ρ=((ρ.str x.1).length:Int)/\x.2.2.1<=(ρ.str x.1).length/\(ρ.str x.1).length<=x.2.2.2:=by intro _ h;cases h
 Bs:∀x∈Γ.Bs,x.2.den ρ=((ρ.lst x.1).length:Int):=by intro _ h;cases h
 elems:∀x∈Γ.elems,∃ps,0<=x.2.1.den ρ/\(ρ.lst x.1)[(x.2.1.den ρ).toNat]?=some ps/\FA ρ x.2.2 ps:=by intro _ h;cases h
 defs:∀x∈Γ.defs,Bx ρ x.2 (ρ.lst x.1):=by intro _ h;cases h
 looks:∀x∈Γ.looks,∃s,DZ ρ x.2.1=some s/\(match x.2.2 with
  |some cs=>∃ps,Bj (ρ.map x.1) s=some ps/\FA ρ cs ps
  |none=>Bj (ρ.map x.1) s=none):=by intro _ h;cases h
 L8:∀x∈Γ.L8,∃s ps,DZ ρ x.2.1=some s/\CD ρ x.2.2.1 ps/\ρ.map x.2.2.2=By (ρ.map x.1) s ps:=by intro _ h;cases h
 CC:∀x∈Γ.CC,x.1.den ρ+x.2.1<=x.2.2.den ρ/\x.2.2.den ρ<=1048576:=by intro _ h;cases h
 CA:∀x∈Γ.CA,Adq ρ x.2 (ρ.map x.1):=by intro _ h;cases h
theorem Ao.AI.none (ρ:Env):({}:Ao).AI ρ where
 DN:=fun _ h=>(by cases h)
 tests:=fun _ h=>(by cases h)
theorem Lo:∀{l:List (ST×Int)} {t:ST} {n:Int},JD l t=some n->(t,n)∈l
 |[],_,_,h=>by simp [JD]at h
 |(s,m)::r,t,n,h=>by
  simp only [JD]at h
  cases e:s.eq t with
  |true=>
   rw [e]at h
   simp only [cond_true,oI]at h
   rw [ST.Ba e,h]
   exact List.mem_cons_self
  |false=>rw [e]at h;exact List.mem_cons_of_mem _ (Lo h)
theorem Di:∀{l:List (BinOp×ST×ST×Bool)} {op:BinOp} {a b:ST} {v:Bool},BV l op a b=some v->(op,a,b,v)∈l
 |[],_,_,_,_,h=>by simp [BV]at h
 |(o,s,t,u)::r,op,a,b,v,h=>by
  simp only [BV]at h
  cases e:Od o op&&s.eq a&&t.eq b with
  |true=>
   rw [e]at h
   simp only [cond_true,oI]at h
   simp only [aT]at e
   rw [Hz.1 e.1.1,ST.Ba e.1.2,ST.Ba e.2,h]
   exact List.mem_cons_self
  |false=>rw [e]at h;exact List.mem_cons_of_mem _ (Di h)
section
variable {Γ:Ao} {ρ:Env} (hΓ:Γ.AI ρ)
include hΓ
theorem K1 (t:ST):(numOf Γ t).den ρ=t.den ρ:=by
 unfold numOf
 split
 ·rename_i n h;exact (hΓ.DN _ (Lo h)).symm
 ·rfl
omit hΓ in
theorem RY {op:BinOp} {k:IntKind} {a b n:Int} (h:RZ op k a b=some n):
  n=Ag op k a b/\(op=.quo∨op=.rem->b≠0)/\F3 op=false/\DO op=false:=by
 cases op<;>simp only [RZ,oI,reduceCtorEq]at h
 case add|sub|mul=>exact ⟨by rw [<-h,Hi];rfl,by simp,rfl,rfl⟩
 case quo|rem=>
  cases e:Ze b 0 with
  |true=>rw [e]at h;simp at h
  |false=>
   rw [e]at h
   simp only [cond_false,oI]at h
   refine ⟨by rw [<-h];first|(rw [Hi];rfl) |rfl,fun _ hb=>?_,rfl,rfl⟩
   rw [Rn.2 hb]at e;cases e
 case and|or|xor|andNot=>exact ⟨by rw [<-h,HW _ _ _ _ (by simp)];rfl,by simp,rfl,rfl⟩
theorem HX {op:BinOp} {k:IntKind} {a b t:ST} (h:arith Γ op k a b=some t):
  t.den ρ=Ag op k (a.den ρ) (b.den ρ)/\(op=.quo∨op=.rem->b.den ρ≠0)/\F3 op=false/\DO op=false:=by
 have z:∀{t},VU Γ op k a b=some t->t.den ρ=Ag op k (a.den ρ) (b.den ρ)/\(op=.quo∨op=.rem->b.den ρ≠0)/\F3 op=false/\DO op=false:=fun {t} h=>by
  unfold VU at h
  cases e:total op b||Xm Γ op b with
  |false=>rw [e]at h;simp at h
  |true=>
   rw [e]at h
   simp only [cond_true,oI]at h
   rw [Bool.or_eq_true]at e
   refine ⟨by rw [<-h,K1 hΓ];rfl,fun q=>?_,?_,?_⟩
   ·rcases e with e|e
    ·rcases q with rfl|rfl<;>cases b<;>simp [total,Ro]at e<;>simpa [ST.den]using e
    ·have key:BV Γ.tests .eql b (.lit 0)=some false:=by
      have j:(match BV Γ.tests .eql b (.lit 0)with|some v=>!v|none=>false)=true:=by rcases q with rfl|rfl<;>exact e
      cases hv:BV Γ.tests .eql b (.lit 0)with
      |none=>rw [hv]at j;cases j
      |some v=>
       rw [hv]at j
       cases v with
       |false=>rfl
       |true=>cases j
     have A:E3 .eql (b.den ρ) ((ST.lit 0).den ρ)=false:=hΓ.tests _ (Di key)
     simpa [E3,ST.den]using A
   ·rcases e with e|e<;>cases op<;>first|rfl|(simp [total]at e) |(simp [Xm]at e)
   ·rcases e with e|e<;>cases op<;>first|rfl|(simp [total]at e) |(simp [Xm]at e)
 unfold arith at h
 split at h
 ·rename_i x y
  cases e:RZ op k x y with
  |none=>rw [e]at h;simp [AD]at h
  |some n=>
   rw [e]at h
   simp only [AD,oI]at h
   rw [<-h]
   exact RY e
 ·exact z h
omit hΓ in
theorem N0 {op:BinOp} {a b:Int} {v:Bool} (h:AcO op a b=some v):v=E3 op a b/\F3 op=true:=by
 cases op<;>simp only [AcO,oI,reduceCtorEq]at h<;>subst h<;>refine ⟨?_,rfl⟩<;>simp [E3,Ro,Rm,Aic,bne]<;>rfl
theorem CG {op:BinOp} {a b:ST} {s:SB} (h:compare Γ op a b=some s):s.den ρ=E3 op (a.den ρ) (b.den ρ)/\F3 op=true:=by
 have q:∀{s},Nx Γ op a b=some s->s.den ρ=E3 op (a.den ρ) (b.den ρ)/\F3 op=true:=fun {s} h=>by
  unfold Nx at h
  cases e:F3 op with
  |false=>rw [e]at h;simp at h
  |true=>
   rw [e]at h
   simp only [cond_true]at h
   split at h
   ·rename_i v j
    simp only [oI]at h
    subst h
    exact ⟨(hΓ.tests _ (Di j)).symm,rfl⟩
   ·simp only [oI]at h
    subst h
    exact ⟨rfl,rfl⟩
 unfold compare at h
 split at h
 ·rename_i x y
  cases e:AcO op x y with
  |none=>rw [e]at h;simp [AD]at h
  |some v=>
   rw [e]at h
   simp only [AD,oI]at h
   rw [<-h]
   exact N0 e
 ·exact q h
theorem O3 (k:IntKind) (a:ST):(convert Γ k a).den ρ=k.wrap (a.den ρ):=by
 unfold convert
 split
 ·simp [ST.den,Hi]
 ·rw [K1 hΓ];rfl
theorem Of {b:ST} (h:natural Γ b=true):0<=b.den ρ:=by
 unfold natural at h
 split at h
 ·rw [Rm]at h;simpa [ST.den]using h
 ·rename_i hb
  cases e:BV Γ.tests .geq b (.lit (.ofNat 0))with
  |none=>rw [e]at h;cases h
  |some v=>
   rw [e]at h
   cases v with
   |false=>cases h
   |true=>
    have:=hΓ.tests _ (Di e)
    simpa [E3,ST.den]using this
end
theorem J0 {op:BinOp} {k yk:IntKind} {x y n:Int} (h:QD op k x y=some n):Op.shift op k x yk y=pure (.int k n):=by
 cases y with
 |negSucc y=>simp [QD]at h
 |ofNat y=>
  simp only [QD]at h
  have q:(bif Nat.ble y k.bits then y else k.bits)=min y k.bits:=by
   cases e:Nat.ble y k.bits with
   |true=>simp only [cond_true];have:=Nat.le_of_ble_eq_true e;omega
   |false=>
         simp only [cond_false];have:¬y<=k.bits:=fun h=>by rw [Nat.ble_eq_true_of_le h]at e;cases e
         omega
  rw [q]at h
  have j:Int.ofNat (2^min y k.bits)=(2:Int)^min y k.bits:=by simp
  unfold Op.shift
  rw [if_neg (by simp)]
  cases op<;>simp only [Mq,oI,reduceCtorEq]at h
  ·rw [<-h,Hi,j];rfl
  ·rw [<-h,j];rfl
theorem SF {op:BinOp} {k yk:IntKind} {x y:Int} (hs:DO op=true) (v:0<=y):Op.shift op k x yk y=pure (.int k (Ag op k x y)):=by
 obtain ⟨n,rfl⟩:=Int.eq_ofNat_of_zero_le v
 refine J0 ?_
 have q:(bif Nat.ble n k.bits then n else k.bits)=min n k.bits:=by
  cases e:Nat.ble n k.bits with
  |true=>simp only [cond_true];have:=Nat.le_of_ble_eq_true e;omega
  |false=>
        simp only [cond_false];have:¬n<=k.bits:=fun h=>by rw [Nat.ble_eq_true_of_le h]at e;cases e
        omega
 have j:Int.ofNat (2^min n k.bits)=(2:Int)^min n k.bits:=by simp
 show Mq op k x (bif Nat.ble n k.bits then n else k.bits)=_
 rw [q]
 cases op<;>simp only [DO,Bool.false_eq_true]at hs
 ·simp only [Mq,Ag,Hi,j,Int.toNat_natCast]
 ·simp only [Mq,Ag,j,Int.toNat_natCast]
theorem TQ {op:BinOp} {t:TypeId} {k:IntKind} {x y:Int} (h:op=.quo∨op=.rem->y≠0) (hc:F3 op=false) (hs:DO op=false):
  binOp op t (.int k x) (.int k y)=pure (.int k (Ag op k x y)):=by
 cases op<;>first|(simp [F3,XX]at hc;done) |(simp [DO]at hs;done) |skip
 case add|sub|mul=>simp [binOp,Op.intArith,Ag]
 case quo|rem=>have:=h (by simp);simp [binOp,Op.intDiv,Ag,this]
 case and|or|xor|andNot=>simp [binOp,Ag];rfl
theorem YP {op:BinOp} {t:TypeId} {k:IntKind} {x y:Int} (hc:F3 op=true):binOp op t (.int k x) (.int k y)=pure (.bool (E3 op x y)):=by
 cases op<;>first|(simp [F3,XX]at hc;done) |skip
 all_goals (simp [binOp,Op.intCmp,E3])
end
section
section
variable {α:Type}
theorem Tr.DP (v:Option α) (l r:Tr α) (n:Nat):
  (Tr.node v l r).get n=bif Nat.beq n 0 then v else bif Nat.beq (n%2) 1 then l.get (n/2)else r.get (n/2-1):=rfl
theorem Tr.EZ (m:Nat) (v:Option α) (t:Tr α) (n:Nat):(Tr.over m v t).get n=bif Nat.beq n m then v else t.get n:=rfl
theorem Tr.set_nil (n:Nat) (x:Option α):(Tr.nil:Tr α).set n x=.over n x .nil:=rfl
theorem Tr.Abn (v:Option α) (l r:Tr α) (n:Nat) (x:Option α):
  (Tr.node v l r).set n x=bif Nat.beq n 0 then .node x l r else bif Nat.beq (n%2) 1 then .node v (l.set (n/2) x) r else .node v l (r.set (n/2-1) x):=rfl
theorem Tr.Abm (m:Nat) (v:Option α) (t:Tr α) (n:Nat) (x:Option α):
  (Tr.over m v t).set n x=bif Nat.beq n m then .over m x t else .over m v (t.set n x):=rfl
theorem AH {β:Type} (m n:Nat) (a b:β):(bif Nat.beq m n then a else b)=if m=n then a else b:=by
 by_cases h:m=n
 ·subst h;simp
 ·have:Nat.beq m n=false:=by
   cases e:Nat.beq m n with
   |false=>rfl
   |true=>exact absurd (Nat.eq_of_beq_eq_true e) h
  rw [this,if_neg h];rfl
theorem Tr.Bf:∀(t:Tr α) (n m:Nat) (x:Option α),(t.set n x).get m=if m=n then x else t.get m
 |.nil,n,m,x=>by rw [Tr.set_nil,Tr.EZ,AH]
 |.over k v t,n,m,x=>by
  rw [Tr.Abm,AH]
  by_cases h:n=k
  ·subst h
   rw [if_pos rfl,Tr.EZ,Tr.EZ,AH,AH]
   by_cases h2:m=n<;>simp [h2]
  ·rw [if_neg h,Tr.EZ,Tr.EZ,AH,AH,Tr.Bf t n m x]
   by_cases h2:m=k
   ·subst h2;rw [if_pos rfl,if_neg (Ne.symm h),if_pos rfl]
   ·rw [if_neg h2,if_neg h2]
 |.node v l r,n,m,x=>by
  rw [Tr.Abn,AH,AH]
  by_cases h0:n=0
  ·rw [if_pos h0,Tr.DP,Tr.DP]
   simp only [AH]
   by_cases h2:m=0
   ·rw [if_pos h2,if_pos (by omega)]
   ·rw [if_neg h2,if_neg (by omega:¬m=n),if_neg h2]
  ·rw [if_neg h0]
   by_cases h1:n%2=1
   ·rw [if_pos h1,Tr.DP,Tr.DP]
    simp only [AH]
    rw [Tr.Bf l]
    by_cases h2:m=0
    ·rw [if_pos h2,if_neg (by omega),if_pos h2]
    ·rw [if_neg h2,if_neg h2]
     by_cases h3:m%2=1
     ·rw [if_pos h3,if_pos h3]
      by_cases h4:m=n
      ·rw [if_pos h4,if_pos (by omega)]
      ·rw [if_neg h4,if_neg (by omega)]
     ·rw [if_neg h3,if_neg h3,if_neg (by intro e;subst e;exact h3 h1)]
   ·rw [if_neg h1,Tr.DP,Tr.DP]
    simp only [AH]
    rw [Tr.Bf r]
    by_cases h2:m=0
    ·rw [if_pos h2,if_neg (by omega),if_pos h2]
    ·rw [if_neg h2,if_neg h2]
     by_cases h3:m%2=1
     ·rw [if_pos h3,if_pos h3,if_neg (by intro e;subst e;exact h1 h3)]
     ·rw [if_neg h3,if_neg h3]
      by_cases h4:m=n
      ·rw [if_pos h4,if_pos (by omega)]
      ·rw [if_neg h4,if_neg (by omega)]
theorem Tr.JL:∀(n m:Nat),(Tr.full α n).get m=none
 |0,m=>rfl
 |n+1,m=>by
  show (Tr.node none (Tr.full α n) (Tr.full α n)).get m=none
  rw [Tr.DP,AH,AH,Tr.JL,Tr.JL]
  split<;>first|rfl|(split<;>rfl)
end
def BG (m:Nat):Nat:=m%1048577
def BO (m:Nat):Nat:=m/1048577
def Om (len cap:Nat):Nat:=len+1048577*cap
theorem Bv {len cap:Nat} (h:len<=1048576):BG (Om len cap)=len:=by unfold BG Om;omega
theorem BH {len cap:Nat} (h:len<=1048576):BO (Om len cap)=cap:=by unfold BO Om;omega
abbrev YT:=Nat×Nat×Nat
structure Aq where
 spot:Nat->Option YT
 AX:Nat->Option Obj
instance:CoeFun Aq fun _=>Nat->Option YT:=⟨Aq.spot⟩
def Aq.none:Aq:=⟨fun _=>Option.none,fun _=>Option.none⟩
def ID (AX:Nat->Option Obj) (r:Nat) (a:Array Value) (e:TypeId):Prop:=∃fr:Nat×Nat,AX r=some (.cells a e fr)
theorem ID.mono {AX ice':Nat->Option Obj} (j:∀g o,AX g=some o->ice' g=some o) {r:Nat} {a:Array Value} {e:TypeId} (h:ID AX r a e):ID ice' r a e:=by obtain ⟨fr,h⟩:=h;exact ⟨fr,j _ _ h⟩
section
variable (AX:Nat->Option Obj)
mutual
def GU:PV->Value->Prop
 |.bool b,v=>v=.bool b
 |.int k n,v=>v=.int k n
 |.str s,v=>∃b:ByteArray,v=.string b/\strOf b=s
 |.list es l,v=>∃c,l.length<=c/\((l=[]/\∃p,v=.slice p 0 c)∨∃r δ a e,v=.slice (some ⟨r,δ,none⟩) l.length c/\ID AX r a e/\BI es a δ l)
 |.nilp,v=>v=.pointer none
def AO (a:Array Value) (δ:Nat):List PV->Prop
 |[]=>True
 |p::ps=>(∃u,a[δ]?=some u/\GU p u)/\AO a (δ+1) ps
def BI (j:Nat) (a:Array Value) (δ:Nat):List (List PV)->Prop
 |[]=>True
 |ps::r=>ps.length=j/\AO a δ ps/\BI j a (δ+j) r
end
def Jn:List (List Nat×List PV)->List MapEntry->Prop
 |[],ms=>ms=[]
 |e::es,ms=>∃m rest,ms=m::rest/\(∃b:ByteArray,m.key=.string b/\strOf b=e.1)/\(∃a:Array Value,m.val=.agg a/\a.size=e.2.length/\AO AX a 0 e.2)/\Jn es rest
end
section
variable (ρ:Env) (μ:Aq)
mutual
def Ah:Aa->Value->Prop
 |.any,_=>True
 |.bool b,v=>v=.bool (b.den ρ)
 |.int k n,v=>v=.int k (n.den ρ)
 |.str s,v=>∃b:ByteArray,v=.string b/\strOf b=s
 |.ptr b off,v=>∃r δ m,μ b=some (r,δ,m)/\v=.pointer (some ⟨r,δ+off,none⟩)
 |.nilPtr,v=>v=.pointer none
 |.slice b off len c,v=>∃r δ m,μ b=some (r,δ,m)/\v=.slice (some ⟨r,δ+off,none⟩) len c/\len<=c
 |.gslice b off len es,v=>∃r δ m c,μ b=some (r,δ,m)/\v=.slice (some ⟨r,δ+off,none⟩) len c/\len<=c/\off+c*es<=m
 |.nilSlice,v=>v=.slice none 0 0
 |.map b,v=>∃r,μ b=some (r,0,0)/\v=.map (some r)
 |.nilMap,v=>v=.map none
 |.func f a c,v=>∃q z:Array Value,v=.func (.func f) q z/\A9 a q.toList/\A9 c z.toList
 |.nilFunc,v=>v=.nilFunc
 |.iface t x,v=>∃u,v=.iface t u/\Ah x u
 |.nilIface,v=>v=.nilIface
 |.agg cs,v=>∃a:Array Value,v=.agg a/\Av cs a.toList
 |.tuple vs,v=>∃a:Array Value,v=.tuple a/\A9 vs a.toList
 |.anyStr n,v=>∃b:ByteArray,v=.string b/\1<=b.size/\b.size<=n
 |.gbytes b,v=>∃r m,μ b=some (r,0,m)/\v=.slice (some ⟨r,0,none⟩) (BG m) (BO m)/\1<=BG m/\BG m<=BO m
 |.glen b,v=>∃r m,μ b=some (r,0,m)/\v=.int .i64 (BG m:Nat)
 |.svar i,v=>∃b:ByteArray,v=.string b/\strOf b=ρ.str i
 |.lst full i es n,v=>GU μ.AX (.list es (ρ.lst i)) v/\n.den ρ=((ρ.lst i).length:Int)/\(full=true->∃p,v=.slice p (ρ.lst i).length (ρ.lst i).length)
 |.lptr i j off,v=>∃r δ a e ps,v=.pointer (some ⟨r,δ+off,none⟩)/\ID μ.AX r a e/\0<=j.den ρ/\(ρ.lst i)[(j.den ρ).toNat]?=some ps/\AO μ.AX a δ ps
 |.vec b _ n,v=>∃r m k,μ b=some (r,0,m)/\v=.slice (some ⟨r,0,none⟩) k (BO m)/\n.den ρ=(k:Int)/\k<=BG m/\BG m<=BO m
 |.vptr b es j off,v=>∃r m,μ b=some (r,0,m)/\v=.pointer (some ⟨r,(j.den ρ).toNat*es+off,none⟩)/\0<=j.den ρ
def A9:List Aa->List Value->Prop
 |[],vs=>vs=[]
 |a::as,vs=>∃v rest,vs=v::rest/\Ah a v/\A9 as rest
def Av:List Aa->List Value->Prop
 |[],vs=>vs=[]
 |a::as,vs=>∃v rest,vs=v::rest/\(a.single=true/\Ah a v)/\Av as rest
end
end
structure Aq.le (μ μ':Aq):Prop where
 to:∀b x,μ b=some x->μ' b=some x
 AX:∀g o,μ.AX g=some o->μ'.AX g=some o
theorem Aq.le_refl (μ:Aq):μ.le μ:=⟨fun _ _ h=>h,fun _ _ h=>h⟩
theorem Aq.le_trans {μ μ' j:Aq} (h:μ.le μ') (q:μ'.le j):μ.le j:=⟨fun _ _ e=>q.to _ _ (h.to _ _ e),fun _ _ e=>q.AX _ _ (h.AX _ _ e)⟩
section
variable {AX ice':Nat->Option Obj} (h:∀g o,AX g=some o->ice' g=some o)
include h
mutual
theorem GU.mono:∀{p:PV} {v:Value},GU AX p v->GU ice' p v
 |.bool _,_,e=>e
 |.int _ _,_,e=>e
 |.str _,_,e=>e
 |.nilp,_,e=>e
 |.list es l,v,e=>by
  simp only [GU]at e⊢
  obtain ⟨c,hc,e⟩:=e
  refine ⟨c,hc,?_⟩
  rcases e with e|⟨r,δ,a,t,e1,e2,e3⟩
  ·exact .inl e
  ·exact .inr ⟨r,δ,a,t,e1,e2.mono h,BI.mono e3⟩
theorem AO.mono:∀{ps:List PV} {a:Array Value} {δ:Nat},AO AX a δ ps->AO ice' a δ ps
 |[],_,_,_=>trivial
 |p::ps,a,δ,e=>by
  simp only [AO]at e⊢
  obtain ⟨⟨u,j,v⟩,q⟩:=e
  exact ⟨⟨u,j,GU.mono v⟩,AO.mono q⟩
theorem BI.mono:∀{l:List (List PV)} {j:Nat} {a:Array Value} {δ:Nat},BI AX j a δ l->BI ice' j a δ l
 |[],_,_,_,_=>trivial
 |ps::r,j,a,δ,e=>by
  simp only [BI]at e⊢
  obtain ⟨q,v,x⟩:=e
  exact ⟨q,AO.mono v,BI.mono x⟩
end
theorem Jn.mono:∀{l:List (List Nat×List PV)} {ms:List MapEntry},Jn AX l ms->Jn ice' l ms
 |[],_,e=>e
 |_::_,_,e=>let ⟨m,rest,e1,e2,⟨a,e3,e4,e5⟩,e6⟩:=e;⟨m,rest,e1,e2,⟨a,e3,e4,AO.mono h e5⟩,Jn.mono e6⟩
end
section
variable {ρ:Env} {μ μ':Aq} (h:μ.le μ')
include h
mutual
theorem Ah.mono:∀{a:Aa} {v:Value},Ah ρ μ a v->Ah ρ μ' a v
 |.any,_,_=>trivial
 |.bool _,_,e=>e
 |.int _ _,_,e=>e
 |.str _,_,e=>e
 |.ptr b off,_,e=>let ⟨r,δ,m,e1,e2⟩:=e;⟨r,δ,m,h.to _ _ e1,e2⟩
 |.nilPtr,_,e=>e
 |.slice b off len cap,_,e=>let ⟨r,δ,m,e1,e2⟩:=e;⟨r,δ,m,h.to _ _ e1,e2⟩
 |.gslice b off len es,_,e=>let ⟨r,δ,m,c,e1,e2⟩:=e;⟨r,δ,m,c,h.to _ _ e1,e2⟩
 |.nilSlice,_,e=>e
 |.map b,_,e=>let ⟨r,e1,e2⟩:=e;⟨r,h.to _ _ e1,e2⟩
 |.nilMap,_,e=>e
 |.func f a c,_,e=>let ⟨a',c',e1,e2,e3⟩:=e;⟨a',c',e1,A9.mono e2,A9.mono e3⟩
 |.nilFunc,_,e=>e
 |.iface t x,_,e=>let ⟨u,e1,e2⟩:=e;⟨u,e1,Ah.mono e2⟩
 |.nilIface,_,e=>e
 |.agg cs,_,e=>let ⟨a,e1,e2⟩:=e;⟨a,e1,Av.mono e2⟩
 |.tuple vs,_,e=>let ⟨a,e1,e2⟩:=e;⟨a,e1,A9.mono e2⟩
 |.anyStr _,_,e=>e
 |.gbytes _,_,e=>let ⟨r,m,e1,e2⟩:=e;⟨r,m,h.to _ _ e1,e2⟩
 |.glen _,_,e=>let ⟨r,m,e1,e2⟩:=e;⟨r,m,h.to _ _ e1,e2⟩
 |.svar _,_,e=>e
 |.lst _ _ _ _,_,e=>⟨GU.mono h.AX e.1,e.2⟩
 |.lptr _ _ _,_,e=>let ⟨r,δ,a,t,ps,e1,e2,e3,e4,e5⟩:=e;⟨r,δ,a,t,ps,e1,(e2.mono h.AX),e3,e4,AO.mono h.AX e5⟩
 |.vec _ _ _,_,e=>let ⟨r,m,k,e1,e2⟩:=e;⟨r,m,k,h.to _ _ e1,e2⟩
 |.vptr _ _ _ _,_,e=>let ⟨r,m,e1,e2⟩:=e;⟨r,m,h.to _ _ e1,e2⟩
theorem A9.mono:∀{as:List Aa} {vs:List Value},A9 ρ μ as vs->A9 ρ μ' as vs
 |[],_,e=>e
 |_::_,_,e=>let ⟨v,rest,e1,e2,e3⟩:=e;⟨v,rest,e1,Ah.mono e2,A9.mono e3⟩
theorem Av.mono:∀{as:List Aa} {vs:List Value},Av ρ μ as vs->Av ρ μ' as vs
 |[],_,e=>e
 |_::_,_,e=>let ⟨v,rest,e1,⟨e2,e2'⟩,e3⟩:=e;⟨v,rest,e1,⟨e2,Ah.mono e2'⟩,Av.mono e3⟩
end
end
section
variable {ρ:Env} {μ:Aq}
theorem Av.length:∀{as:List Aa} {vs:List Value},Av ρ μ as vs->as.length=vs.length
 |[],_,e=>by simp only [Av]at e;rw [e];rfl
 |_::_,_,e=>by
  simp only [Av]at e
  obtain ⟨v,rest,rfl,_,h⟩:=e
  simp [Av.length h]
theorem Av.get:∀{as:List Aa} {vs:List Value} {i:Nat} {a:Aa},Av ρ μ as vs->as[i]?=some a->∃v,vs[i]?=some v/\a.single=true/\Ah ρ μ a v
 |[],_,i,_,_,h=>by simp at h
 |b::as,_,i,a,e,h=>by
  simp only [Av]at e
  obtain ⟨v,rest,rfl,hb,j⟩:=e
  cases i with
  |zero=>simp only [List.getElem?_cons_zero,oI]at h;subst h;exact ⟨v,rfl,hb⟩
  |succ i=>simpa using Av.get j (by simpa using h)
theorem Av.K0:∀{as:List Aa} {vs:List Value},as.length=vs.length->(∀(i:Nat) (a:Aa),as[i]?=some a->∃v,vs[i]?=some v/\a.single=true/\Ah ρ μ a v)->Av ρ μ as vs
 |[],vs,hl,_=>by simp only [Av];exact List.eq_nil_of_length_eq_zero (by simpa using hl.symm)
 |a::as,[],hl,_=>by simp at hl
 |a::as,v::vs,hl,h=>by
  simp only [Av]
  obtain ⟨u,j,q⟩:=h 0 a rfl
  simp only [List.getElem?_cons_zero,oI]at j
  subst j
  exact ⟨v,vs,rfl,q,Av.K0 (by simpa using hl) fun i b hb=>by simpa using h (i+1) b (by simpa using hb)⟩
theorem Av.append:∀{as bs:List Aa} {vs us:List Value},Av ρ μ as vs->Av ρ μ bs us->Av ρ μ (as++bs) (vs++us)
 |[],_,_,_,h,h'=>by simp only [Av]at h;subst h;exact h'
 |_::_,_,_,_,h,h'=>by
  simp only [Av]at h
  obtain ⟨v,rest,rfl,j,q⟩:=h
  simp only [List.cons_append,Av]
  exact ⟨v,_,rfl,j,Av.append q h'⟩
theorem A9.append:∀{as bs:List Aa} {vs us:List Value},A9 ρ μ as vs->A9 ρ μ bs us->A9 ρ μ (as++bs) (vs++us)
 |[],_,_,_,h,h'=>by simp only [A9]at h;subst h;exact h'
 |_::_,_,_,_,h,h'=>by
  simp only [A9]at h
  obtain ⟨v,rest,rfl,j,q⟩:=h
  simp only [List.cons_append,A9]
  exact ⟨v,_,rfl,j,A9.append q h'⟩
theorem A9.get:∀{as:List Aa} {vs:List Value} {i:Nat} {a:Aa},A9 ρ μ as vs->as[i]?=some a->∃v,vs[i]?=some v/\Ah ρ μ a v
 |[],_,i,_,_,h=>by simp at h
 |b::as,_,i,a,e,h=>by
  simp only [A9]at e
  obtain ⟨v,rest,rfl,hb,j⟩:=e
  cases i with
  |zero=>simp only [List.getElem?_cons_zero,oI]at h;subst h;exact ⟨v,rfl,hb⟩
  |succ i=>simpa using A9.get j (by simpa using h)
theorem Ah.QV {a:Aa} {v:Value} (h:Ah ρ μ a v) (hs:a.single=true):v.oneCell'=true:=by
 cases a<;>simp only [Aa.single,Bool.false_eq_true]at hs<;>simp only [Ah]at h
 case bool|int|nilPtr|nilSlice|nilMap|nilFunc|nilIface=>subst h;rfl
 case str=>obtain ⟨_,rfl,_⟩:=h;rfl
 case ptr=>obtain ⟨_,_,_,_,rfl⟩:=h;rfl
 case slice=>obtain ⟨_,_,_,_,rfl,_⟩:=h;rfl
 case gslice=>obtain ⟨_,_,_,_,_,rfl,_⟩:=h;rfl
 case map=>obtain ⟨_,_,rfl⟩:=h;rfl
 case func=>obtain ⟨_,_,rfl,_⟩:=h;rfl
 case iface=>obtain ⟨_,rfl,_⟩:=h;rfl
 case anyStr=>obtain ⟨_,rfl,_⟩:=h;rfl
 case gbytes=>obtain ⟨_,_,_,rfl,_⟩:=h;rfl
 case glen=>obtain ⟨_,_,_,rfl⟩:=h;rfl
 case svar=>obtain ⟨_,rfl,_⟩:=h;rfl
 case lst=>
  simp only [GU]at h
  obtain ⟨⟨_,_,⟨_,_,rfl⟩|⟨_,_,_,_,rfl,_⟩⟩,_⟩:=h<;>rfl
 case lptr=>obtain ⟨_,_,_,_,_,rfl,_⟩:=h;rfl
 case vec=>obtain ⟨_,_,_,_,rfl,_⟩:=h;rfl
 case vptr=>obtain ⟨_,_,_,rfl,_⟩:=h;rfl
theorem Ah.cells {a:Aa} {v:Value} {cs:List Aa} (h:Ah ρ μ a v) (hc:a.cells=some cs):Av ρ μ cs v.cells.toList:=by
 cases a<;>simp only [Aa.cells,oI,reduceCtorEq]at hc
 case agg=>
  subst hc
  simp only [Ah]at h
  obtain ⟨a,rfl,h⟩:=h
  exact h
 all_goals
  subst hc
  have q:v.cells.toList=[v]:=by
   have j:=h.QV (by rfl)
   cases v<;>first|rfl|(simp [Value.oneCell']at j)
  rw [q]
  simp only [Av]
  exact ⟨v,[],rfl,⟨by rfl,h⟩,rfl⟩
end
section
variable (ρ:Env) (μ:Aq)
def Ad2 (e:Entry) (m:MapEntry):Prop:=e.key.single=true/\Ah ρ μ e.key m.key/\Ah ρ μ e.val m.val/\m.born=e.born
def BP:List Entry->List MapEntry->Prop
 |[],ms=>ms=[]
 |e::es,ms=>∃m rest,ms=m::rest/\Ad2 ρ μ e m/\BP es rest
def C7:Block->Option Obj->Nat×Nat->Prop
 |.cells vs,o,(δ,m)=>∃c e,o=some (.cells c e (0,0))/\δ+m<=c.size/\∀(i:Nat) (a:Aa),vs[i]?=some a->∃v,c[δ+i]?=some v/\a.single=true/\Ah ρ μ a v
 |.map es j,o,δ=>δ=(0,0)/\∃ms:Array MapEntry,o=some (.map ms j)/\BP ρ μ es ms.toList
 |.typed e vs,o,(δ,m)=>∃c,o=some (.cells c e (0,0))/\(δ=0/\c.size=vs.length)/\δ+m<=c.size/\∀(i:Nat) (a:Aa),vs[i]?=some a->∃v,c[δ+i]?=some v/\a.single=true/\Ah ρ μ a v
 |.bytes n e,o,(δ,m)=>∃c,o=some (.cells c e (0,0))/\δ=0/\1<=BG m/\BG m<=n/\n<=1048576/\BG m<=BO m/\BO m<=c.size/\∀i,i<BO m->∃x:UInt8,c[i]?=some (.int .u8 x.toNat)
 |.sbytes t e,o,(δ,m)=>∃c,o=some (.cells c e (0,0))/\δ=0/\1<=BG m/\(BG m:Int)<=t.den ρ/\t.den ρ<=1048576/\BG m<=BO m/\BO m<=c.size/\∀i,i<BO m->∃x:UInt8,c[i]?=some (.int .u8 x.toNat)
 |.list i es,o,(δ,m)=>∃c e,o=some (.cells c e (0,0))/\δ=0/\(ρ.lst i).length<=BG m/\BG m<=1048576/\BG m<=BO m/\BO m*es<=c.size/\BI μ.AX es c 0 (ρ.lst i)
 |.smap i,o,δ=>δ=(0,0)/\∃(ms:Array MapEntry) (j:Nat),o=some (.map ms j)/\Jn μ.AX (ρ.map i) ms.toList
def AN (h:Ak) (r:Nat):Prop:=∃b B δ,h.get b=some B/\μ b=some (r,δ)
structure Zb (h:Ak) (w:World):Prop where
 AQ:∀g o,ρ.AQ g=some o->w.heap[g]?=some o/\¬AN μ h g
 AX:∀g o,μ.AX g=some o->w.heap[g]?=some o/\¬AN μ h g
 facts:h.fx.AI ρ
structure AJ (h:Ak) (w:World):Prop where
 fresh:∀b,h.next<=b->μ b=none
 blk:∀b B,h.get b=some B->∃r δ,μ b=some (r,δ)/\C7 ρ μ B w.heap[r]? δ
 inj:∀b b' B B' r δ δ',h.get b=some B->h.get b'=some B'->μ b=some (r,δ)->μ b'=some (r,δ')->b=b'
 AQ:Zb ρ μ h w
end
section
variable {ρ:Env} {μ μ':Aq}
theorem Ad2.mono (h:μ.le μ') {e:Entry} {m:MapEntry} (x:Ad2 ρ μ e m):Ad2 ρ μ' e m:=⟨x.1,x.2.1.mono h,x.2.2.1.mono h,x.2.2.2⟩
theorem BP.mono (h:μ.le μ'):∀{j:List Entry} {ms:List MapEntry},BP ρ μ j ms->BP ρ μ' j ms
 |[],_,e=>e
 |_::_,_,e=>let ⟨m,rest,e1,e2,e3⟩:=e;⟨m,rest,e1,e2.mono h,BP.mono h e3⟩
theorem C7.mono (h:μ.le μ') {B:Block} {o:Option Obj} {δ:Nat×Nat} (x:C7 ρ μ B o δ):C7 ρ μ' B o δ:=by
 cases B with
 |cells vs=>
  obtain ⟨c,e,j,z,hc⟩:=x
  exact ⟨c,e,j,z,fun i a ha=>let ⟨v,h1,h2,h3⟩:=hc i a ha;⟨v,h1,h2,h3.mono h⟩⟩
 |map es clock=>
  obtain ⟨C,ms,j,M⟩:=x
  exact ⟨C,ms,j,M.mono h⟩
 |typed t vs=>
  obtain ⟨c,j,hs,z,hc⟩:=x
  exact ⟨c,j,hs,z,fun i a ha=>let ⟨v,h1,h2,h3⟩:=hc i a ha;⟨v,h1,h2,h3.mono h⟩⟩
 |bytes n t=>exact x
 |sbytes n t=>exact x
 |list i es=>obtain ⟨c,e,A,q,I,H,L,N,J⟩:=x;exact ⟨c,e,A,q,I,H,L,N,BI.mono h.AX J⟩
 |smap i=>obtain ⟨C,ms,c,A,q⟩:=x;exact ⟨C,ms,c,A,Jn.mono h.AX q⟩
theorem C7.some {B:Block} {o:Option Obj} {δ:Nat×Nat} (x:C7 ρ μ B o δ):∃x,o=some x:=by
 cases B with
 |cells vs=>obtain ⟨c,e,j,_⟩:=x;exact ⟨_,j⟩
 |map es clock=>obtain ⟨_,ms,j,_⟩:=x;exact ⟨_,j⟩
 |typed t vs=>obtain ⟨c,j,_⟩:=x;exact ⟨_,j⟩
 |bytes n t=>obtain ⟨c,j,_⟩:=x;exact ⟨_,j⟩
 |sbytes n t=>obtain ⟨c,j,_⟩:=x;exact ⟨_,j⟩
 |list i es=>obtain ⟨c,e,j,_⟩:=x;exact ⟨_,j⟩
 |smap i=>obtain ⟨_,ms,c,j,_⟩:=x;exact ⟨_,j⟩
theorem AJ.lt {h:Ak} {w:World} (H:AJ ρ μ h w) {b:Nat} {B:Block} {r:Nat} {δ:Nat×Nat} (hb:h.get b=some B) (q:μ b=some (r,δ)):r<w.heap.size:=by
 obtain ⟨z,A,j,hB⟩:=H.blk b B hb
 rw [q]at j
 simp only [oI,Prod.mk.injEq]at j
 obtain ⟨rfl,rfl⟩:=j
 obtain ⟨x,v⟩:=hB.some
 rcases Nat.lt_or_ge r w.heap.size with h'|h'
 ·exact h'
 ·simp [Array.getElem?_eq_none h']at v
theorem AJ.Fy {h:Ak} {w:World} (H:AJ ρ μ h w) {b:Nat} {B:Block} (hb:h.get b=some B):b<h.next:=by
 obtain ⟨r,δ,j,_⟩:=H.blk b B hb
 rcases Nat.lt_or_ge b h.next with h'|h'
 ·exact h'
 ·rw [H.fresh b h']at j;cases j
end
structure Au (ρ:Env) (μ:Aq) (h:Ak) (w:World) (μ':Aq) (h':Ak) (w':World):Prop where
 le:μ.le μ'
 rel:AJ ρ μ' h' w'
 size:w.heap.size<=w'.heap.size
 kept:∀r,r<w.heap.size->¬AN μ h r->w'.heap[r]?=w.heap[r]?/\¬AN μ' h' r
 os:w'.os=w.os
 output:w'.output=w.output
 next:h.next<=h'.next
 old:∀b,b<h.next->μ' b=μ b
 icy:∀g o,μ'.AX g=some o->μ.AX g=some o∨AN μ h g∨w.heap.size<=g
 fx:h'.fx=h.fx
theorem Au.refl {ρ:Env} {μ:Aq} {h:Ak} {w:World} (H:AJ ρ μ h w):Au ρ μ h w μ h w:=
 ⟨μ.le_refl,H,Nat.le_refl _,fun _ _ h=>⟨rfl,h⟩,rfl,rfl,Nat.le_refl _,fun _ _=>rfl,fun _ _ h=>.inl h,rfl⟩
theorem Au.trans {ρ:Env} {μ μ' v:Aq} {h B x:Ak} {w w' z:World} (g:Au ρ μ h w μ' B w') (j:Au ρ μ' B w' v x z):
  Au ρ μ h w v x z where
 le:=Aq.le_trans g.le j.le
 rel:=j.rel
 size:=Nat.le_trans g.size j.size
 kept:=fun r C q=>by
  obtain ⟨e,H⟩:=g.kept r C q
  obtain ⟨J,A⟩:=j.kept r (Nat.lt_of_lt_of_le C g.size) H
  exact ⟨J.trans e,A⟩
 os:=j.os.trans g.os
 output:=j.output.trans g.output
 next:=Nat.le_trans g.next j.next
 old:=fun b hb=>(j.old b (Nat.lt_of_lt_of_le hb g.next)).trans (g.old b hb)
 icy:=fun k o I=>by
  rcases j.icy k o I with h1|h1|h1
  ·exact g.icy k o h1
  ·rcases Nat.lt_or_ge k w.heap.size with hlt|hge
   ·by_cases q:AN μ h k
    ·exact .inr (.inl q)
    ·exact absurd h1 (g.kept k hlt q).2
   ·exact .inr (.inr hge)
  ·exact .inr (.inr (Nat.le_trans g.size h1))
 fx:=j.fx.trans g.fx
theorem AJ.drew {ρ:Env} {μ:Aq} {h:Ak} {w:World} (H:AJ ρ μ h w):AJ ρ μ h {w with drawn:=w.drawn+1}:=⟨H.fresh,H.blk,H.inj,⟨H.AQ.AQ,H.AQ.AX,H.AQ.facts⟩⟩
theorem Zb.of {ρ:Env} {μ μ':Aq} {h j:Ak} {w w':World} (F:Zb ρ μ h w) (v:∀r,r<w.heap.size->¬AN μ h r->w'.heap[r]?=w.heap[r]?/\¬AN μ' j r) (z:μ'.AX=μ.AX) (B:j.fx=h.fx):Zb ρ μ' j w':=by
 have key:∀g (o:Obj),w.heap[g]?=some o/\¬AN μ h g->w'.heap[g]?=some o/\¬AN μ' j g:=fun g o ⟨h1,h2⟩=>by
  obtain ⟨A,x⟩:=v g (Array.getElem?_eq_some_iff.1 h1).1 h2
  exact ⟨A.trans h1,x⟩
 exact ⟨fun g o q=>key g o (F.AQ g o q),fun g o q=>key g o (F.AX g o (z▸q)),B▸F.facts⟩
theorem AJ.Gg {ρ:Env} {μ μ':Aq} {h j:Ak} {w w':World} (H:AJ ρ μ h w) (q:∀r,r<w.heap.size->¬AN μ h r->w'.heap[r]?=w.heap[r]?/\¬AN μ' j r) (v:μ'.AX=μ.AX:=by rfl) (x:j.fx=h.fx:=by rfl):
  Zb ρ μ' j w':=H.AQ.of q v x
theorem Au.drew {ρ:Env} {μ:Aq} {h:Ak} {w:World} (H:AJ ρ μ h w):Au ρ μ h w μ h {w with drawn:=w.drawn+1}:=
 ⟨μ.le_refl,H.drew,Nat.le_refl _,fun _ _ h=>⟨rfl,h⟩,rfl,rfl,Nat.le_refl _,fun _ _=>rfl,fun _ _ h=>.inl h,rfl⟩
def Aq.put (μ:Aq) (b:Nat) (x:YT):Aq:=⟨fun c=>if c=b then some x else μ c,μ.AX⟩
theorem Aq.Rh {μ:Aq} {b:Nat} {x:YT} (h:μ b=Option.none):μ.le (μ.put b x):=⟨fun c y e=>by
 simp only [Aq.put]
 by_cases hc:c=b
 ·subst hc;rw [h]at e;cases e
 ·rw [if_neg hc];exact e,fun _ _ e=>e⟩
theorem Aq.BF (μ:Aq) (b:Nat) (x:YT):μ.put b x b=some x:=by simp [Aq.put]
theorem Aq.Ca (μ:Aq) {b c:Nat} (x:YT) (h:c≠b):μ.put b x c=μ c:=by simp [Aq.put,h]
theorem Ak.Bf (h:Ak) (b c:Nat) (o:Option Block):(h.set b o).get c=if c=b then o else h.get c:=Tr.Bf _ _ _ _
theorem Ak.JM (h:Ak) (c:Nat) (B:Block):(h.add B).get c=if c=h.next then some B else h.get c:=Tr.Bf _ _ _ _
theorem Ak.JB (h:Ak) (b:Nat) (o:Option Block):(h.set b o).next=h.next:=rfl
theorem Ak.JC (h:Ak) (B:Block):(h.add B).next=h.next+1:=rfl
theorem World.Du (w:World) (o:Obj) {r:Nat} (j:r<w.heap.size):(w.alloc o).heap[r]?=w.heap[r]?:=by
 show (w.heap.push o)[r]?=_
 rw [Array.getElem?_push,if_neg (by omega)]
theorem World.heap_alloc_new (w:World) (o:Obj):(w.alloc o).heap[w.heap.size]?=some o:=by
 show (w.heap.push o)[w.heap.size]?=_
 simp
theorem Au.add {ρ:Env} {μ:Aq} {h:Ak} {w:World} (H:AJ ρ μ h w) (B:Block) (o:Obj) (δ:Nat×Nat)
  (hB:∀μ':Aq,μ.le μ'->C7 ρ μ' B (some o) δ):Au ρ μ h w (μ.put h.next (w.heap.size,δ)) (h.add B) (w.alloc o):=by
 have A:μ.le (μ.put h.next (w.heap.size,δ)):=Aq.Rh (H.fresh _ (Nat.le_refl _))
 have z:∀b q r v,(h.add B).get b=some q->μ.put h.next (w.heap.size,δ) b=some (r,v)->(b=h.next/\r=w.heap.size)∨(h.get b=some q/\μ b=some (r,v)/\r<w.heap.size):=fun b q r v hb j=>by
  rw [Ak.JM]at hb
  by_cases e:b=h.next
  ·subst e
   rw [Aq.BF]at j
   simp only [oI,Prod.mk.injEq]at j
   exact .inl ⟨rfl,j.1.symm⟩
  ·rw [if_neg e]at hb
   rw [Aq.Ca _ _ e]at j
   exact .inr ⟨hb,j,H.lt hb j⟩
 have x:∀r,r<w.heap.size->¬AN μ h r->(w.alloc o).heap[r]?=w.heap[r]?/\¬AN (μ.put h.next (w.heap.size,δ)) (h.add B) r:=fun r C L=>⟨World.Du _ _ C,by
  rintro ⟨b,q,v,hb,j⟩
  rcases z _ _ _ _ hb j with ⟨_,e⟩|⟨g,n,_⟩
  ·omega
  ·exact L ⟨b,q,v,g,n⟩⟩
 refine ⟨A,⟨fun b hb=>?_,fun b q hb=>?_,fun b O P Q r N M J I m1 m2=>?_,H.Gg x⟩,?_,x,rfl,rfl,Nat.le_succ _,fun b hb=>Aq.Ca _ _ (by omega),fun _ _ h=>.inl h,rfl⟩
 ·rw [Ak.JC]at hb
  rw [Aq.Ca _ _ (by omega)]
  exact H.fresh b (by omega)
 ·rw [Ak.JM]at hb
  by_cases e:b=h.next
  ·subst e
   rw [if_pos rfl]at hb
   simp only [oI]at hb
   subst hb
   exact ⟨_,_,Aq.BF _ _ _,by rw [World.heap_alloc_new];exact hB _ A⟩
  ·rw [if_neg e]at hb
   obtain ⟨r,v,j,C⟩:=H.blk b q hb
   exact ⟨r,v,by rw [Aq.Ca _ _ e];exact j,by rw [World.Du _ _ (H.lt hb j)];exact C.mono A⟩
 ·rcases z _ _ _ _ J m1 with ⟨e1,e2⟩|⟨g1,n1,l1⟩<;>rcases z _ _ _ _ I m2 with ⟨e3,e4⟩|⟨g2,n2,l2⟩
  ·rw [e1,e3]
  ·omega
  ·omega
  ·exact H.inj _ _ _ _ _ _ _ g1 g2 n1 n2
 ·show w.heap.size<=(w.heap.push o).size;simp
theorem AJ.drop {ρ:Env} {μ:Aq} {h:Ak} {w:World} (H:AJ ρ μ h w) (j:Ak) (A:j.next=h.next) (q:j.fx=h.fx) (hs:∀b B,j.get b=some B->h.get b=some B):AJ ρ μ j w:=
 ⟨fun b hb=>H.fresh b (A▸hb),fun b B hb=>H.blk b B (hs b B hb),fun _ _ _ _ _ _ _ z x m1 m2=>H.inj _ _ _ _ _ _ _ (hs _ _ z) (hs _ _ x) m1 m2,
  H.Gg (fun _ _ v=>⟨rfl,fun ⟨c,B,δ,hc,hm⟩=>v ⟨c,B,δ,hs c B hc,hm⟩⟩) rfl q⟩
theorem Au.change {ρ:Env} {μ:Aq} {h:Ak} {w w':World} (H:AJ ρ μ h w) {b:Nat} {C:Block} {r:Nat} {δ:Nat×Nat} (hb:h.get b=some C) (x:μ b=some (r,δ)) (B:Block)
  (J:∀i,i≠r->w'.heap[i]?=w.heap[i]?) (V:w'.heap.size=w.heap.size) (O:w'.os=w.os) (I:w'.output=w.output) (hB:C7 ρ μ B w'.heap[r]? δ):Au ρ μ h w μ (h.set b (some B)) w':=by
 have v:∀s,s<w.heap.size->¬AN μ h s->w'.heap[s]?=w.heap[s]?/\¬AN μ (h.set b (some B)) s:=fun s hs L=>by
  have z:s≠r:=fun e=>L ⟨b,C,δ,hb,e▸x⟩
  refine ⟨J s z,?_⟩
  rintro ⟨c,q,A,hc,j⟩
  rw [Ak.Bf]at hc
  by_cases e:c=b
  ·subst e
   rw [x]at j
   simp only [oI,Prod.mk.injEq]at j
   exact z j.1.symm
  ·rw [if_neg e]at hc
   exact L ⟨c,q,A,hc,j⟩
 refine ⟨μ.le_refl,⟨fun c hc=>H.fresh c hc,fun c q hc=>?_,fun c Y B1 B2 s Z X Q P m1 m2=>?_,H.Gg v⟩,by omega,v,O,I,Nat.le_refl _,fun _ _=>rfl,fun _ _ h=>.inl h,rfl⟩
 ·rw [Ak.Bf]at hc
  by_cases e:c=b
  ·subst e
   rw [if_pos rfl]at hc
   simp only [oI]at hc
   subst hc
   exact ⟨r,δ,x,hB⟩
  ·rw [if_neg e]at hc
   obtain ⟨s,A,j,R⟩:=H.blk c q hc
   refine ⟨s,A,j,?_⟩
   rw [J s (fun U=>e (H.inj _ _ _ _ _ _ _ hc hb j (U▸x)))]
   exact R
 ·have M:∀c q,(h.set b (some B)).get c=some q->∃N,h.get c=some N:=fun c q hc=>by
   rw [Ak.Bf]at hc
   by_cases e:c=b
   ·exact ⟨C,e▸hb⟩
   ·rw [if_neg e]at hc;exact ⟨q,hc⟩
  obtain ⟨_,g1⟩:=M _ _ Q
  obtain ⟨_,g2⟩:=M _ _ P
  exact H.inj _ _ _ _ _ _ _ g1 g2 m1 m2
end
section
theorem Ac {α β:Type} {o:Option α} {f:α->Option β} {b:β} (h:AD o f=some b):∃a,o=some a/\f a=some b:=by
 cases o with
 |none=>exact absurd h (by simp [AD])
 |some a=>exact ⟨a,rfl,h⟩
theorem Ap {α:Type} {c:Bool} {x:Option α} {b:α} (h:(bif c then x else none)=some b):c=true/\x=some b:=by
 cases c with
 |false=>simp at h
 |true=>exact ⟨rfl,h⟩
theorem AP {a b:Nat}:Nat.ble a b=true↔a<=b:=⟨Nat.le_of_ble_eq_true,Nat.ble_eq_true_of_le⟩
theorem Iv {a b:Nat}:Nat.blt a b=true↔a<b:=AP
theorem An {a b:Nat}:Nat.beq a b=true↔a=b:=⟨Nat.eq_of_beq_eq_true,fun h=>by subst h;simp⟩
theorem JF:∀l:List Aa,Bs l=l.length
 |[]=>rfl
 |_::r=>by show Bs r+1=_;rw [JF r];rfl
theorem K2:∀(l:List Aa) (n:Nat),nth l n=l[n]?
 |[],n=>by simp;rfl
 |x::r,0=>rfl
 |x::r,n+1=>by show nth r n=_;rw [K2 r n];simp
theorem Jh:∀(n:Nat) (l:List Aa),dropped n l=l.drop n
 |0,l=>rfl
 |n+1,[]=>rfl
 |n+1,x::r=>by show dropped n r=_;rw [Jh n r];rfl
theorem Gf:∀{n:Nat} {l r:List Aa},taken n l=some r->r=l.take n/\n<=l.length
 |0,l,r,h=>by
  have h:some []=some r:=h
  simp only [oI]at h
  subst h;simp
 |n+1,[],r,h=>by have h:none=some r:=h;cases h
 |n+1,x::l,r,h=>by
  have h:(AD (taken n l) fun r=>some (x::r))=some r:=h
  obtain ⟨s,hs,j⟩:=Ac h
  simp only [oI]at j
  subst j
  obtain ⟨rfl,hl⟩:=Gf hs
  exact ⟨rfl,by simp;omega⟩
theorem JZ {j r:List Aa} {i n:Nat} (h:cut j i n=some r):r.length=n/\(n=0∨i+n<=j.length)/\∀k,r[k]?=if k<n then j[i+k]? else none:=by
 unfold cut at h
 rw [Jh]at h
 obtain ⟨rfl,hl⟩:=Gf h
 rw [List.length_drop]at hl
 refine ⟨by simp;omega,by omega,fun k=>?_⟩
 rw [List.getElem?_take]
 split
 ·rw [List.getElem?_drop]
 ·rfl
theorem OS:∀{vs j r:List Aa},over vs j=some r->r.length=j.length/\vs.length<=j.length/\∀k,r[k]?=if k<vs.length then vs[k]? else j[k]?
 |[],j,r,h=>by
  have h:some j=some r:=h
  simp only [oI]at h
  subst h;simp
 |v::vs,[],r,h=>by have h:none=some r:=h;cases h
 |v::vs,x::j,r,h=>by
  have h:(AD (over vs j) fun r=>some (v::r))=some r:=h
  obtain ⟨s,hs,q⟩:=Ac h
  simp only [oI]at q
  subst q
  obtain ⟨A,z,B⟩:=OS hs
  refine ⟨by simp [A],by simpa using z,fun k=>?_⟩
  cases k with
  |zero=>simp
  |succ k=>simp [B k]
theorem Ht {vs:List Aa}:∀{i:Nat} {j r:List Aa},splice vs i j=some r->
  r.length=j.length/\i+vs.length<=j.length/\∀k,r[k]?=if i<=k/\k<i+vs.length then vs[k-i]? else j[k]?
 |0,j,r,h=>by
  have h:over vs j=some r:=h
  obtain ⟨q,A,v⟩:=OS h
  exact ⟨q,by omega,fun k=>by rw [v k];simp⟩
 |i+1,[],r,h=>by have h:none=some r:=h;cases h
 |i+1,x::j,r,h=>by
  have h:(AD (splice vs i j) fun r=>some (x::r))=some r:=h
  obtain ⟨s,hs,z⟩:=Ac h
  simp only [oI]at z
  subst z
  obtain ⟨q,A,v⟩:=Ht hs
  refine ⟨by simp [q],by simp;omega,fun k=>?_⟩
  cases k with
  |zero=>rw [if_neg (by omega)];rfl
  |succ k=>
   rw [List.getElem?_cons_succ,List.getElem?_cons_succ,v k]
   by_cases hk:i<=k/\k<i+vs.length
   ·rw [if_pos hk,if_pos (by omega)];congr 1;omega
   ·rw [if_neg hk,if_neg (by omega)]
theorem Abw (z:List Aa):∀n,rep z n=(List.replicate n z).flatten
 |0=>rfl
 |n+1=>by show z++rep z n=_;rw [Abw z n,List.replicate_succ,List.flatten_cons]
theorem IT (z:List Aa):∀n,(rep z n).length=n*z.length
 |0=>by simp [show rep z 0=[]from rfl]
 |n+1=>by
  show (z++rep z n).length=_
  rw [lA,IT z n,Nat.succ_mul];omega
theorem WK (z:List Aa):∀(n k:Nat),k<n*z.length->(rep z n)[k]?=z[k%z.length]?
 |0,k,h=>by omega
 |n+1,k,h=>by
  show (z++rep z n)[k]?=_
  by_cases hk:k<z.length
  ·rw [List.getElem?_append_left hk,Nat.mod_eq_of_lt hk]
  ·rw [List.getElem?_append_right (by omega),WK z n _ (by rw [Nat.succ_mul]at h;omega)]
   rw [<-Nat.mod_eq_sub_mod (by omega)]
theorem Dg:∀l:List Nat,I0 l=l.length
 |[]=>rfl
 |_::r=>by show I0 r+1=_;rw [Dg r];rfl
theorem Fw:∀(l:List Nat) (n:Nat),Cb l n=l[n]?
 |[],n=>by simp;rfl
 |x::r,0=>rfl
 |x::r,n+1=>by show Cb r n=_;rw [Fw r n];simp
theorem Lj:∀(n:Nat) (l:List Nat),MD n l=l.drop n
 |0,l=>rfl
 |n+1,[]=>rfl
 |n+1,x::r=>by show MD n r=_;rw [Lj n r];rfl
theorem Li:∀{n:Nat} {l r:List Nat},UQ n l=some r->r=l.take n
 |0,l,r,h=>by
  have h:some []=some r:=h
  simp only [oI]at h
  subst h;simp
 |n+1,[],r,h=>by have h:none=some r:=h;cases h
 |n+1,x::l,r,h=>by
  have h:(AD (UQ n l) fun r=>some (x::r))=some r:=h
  obtain ⟨s,hs,j⟩:=Ac h
  simp only [oI]at j
  subst j
  rw [Li hs];rfl
theorem Dv:∀{a b:List Nat},O6 a b=true↔a=b
 |[],[]=>by simp;rfl
 |[],b::y=>by constructor<;>intro h<;>(first|cases h|(have h:false=true:=h;cases h))
 |a::x,[]=>by constructor<;>intro h<;>(first|cases h|(have h:false=true:=h;cases h))
 |a::x,b::y=>by
  show (Nat.beq a b&&O6 x y)=true↔_
  rw [aT,An,Dv,List.cons.injEq]
theorem Xk:∀l:List Entry,Aew l=l.length
 |[]=>rfl
 |_::r=>by show Aew r+1=_;rw [Xk r];rfl
theorem Ko {a b:ByteArray} (h:strOf a=strOf b):a=b:=by
 unfold strOf at h
 have:a.data.toList=b.data.toList:=by
  generalize a.data.toList=x at h
  generalize b.data.toList=y at h
  induction x generalizing y with
  |nil=>cases y with
   |nil=>rfl
   |cons _ _=>simp at h
  |cons c x ih=>cases y with
   |nil=>simp at h
   |cons d y=>
    simp only [List.map_cons,List.cons.injEq]at h
    rw [UInt8.toNat_inj.1 h.1,ih y h.2]
 cases a;cases b
 simp only at this
 congr 1
 exact Array.toList_inj.1 this
theorem CF (a b:ByteArray):O6 (strOf a) (strOf b)=(a.toList==b.toList):=by
 rw [Bool.eq_iff_iff,Dv,ByteArray.toList_eq,ByteArray.toList_eq]
 simp only [beq_iff_eq]
 constructor
 ·intro h;rw [Ko h]
 ·intro h;unfold strOf;rw [h]
theorem Aay (a b:ByteArray):ltL (strOf a) (strOf b)=Op.bytesLess a.toList b.toList:=by
 rw [ByteArray.toList_eq,ByteArray.toList_eq]
 unfold strOf
 generalize a.data.toList=x
 generalize b.data.toList=y
 induction x generalizing y with
 |nil=>cases y<;>rfl
 |cons c x ih=>
  cases y with
  |nil=>rfl
  |cons d y=>
   show (Nat.blt c.toNat d.toNat||(Nat.beq c.toNat d.toNat&&ltL (x.map (·.toNat)) (y.map (·.toNat))))=(decide (c<d) ||(c==d&&Op.bytesLess x y))
   rw [ih y]
   congr 1
   ·rw [Bool.eq_iff_iff,Iv];simp [UInt8.lt_iff_toNat_lt]
   ·congr 1
    rw [Bool.eq_iff_iff,An];simp [UInt8.toNat_inj]
theorem BA (a:ByteArray):(strOf a).length=a.size:=by
 unfold strOf;rw [List.length_map];rfl
theorem beq_iff' {a b:Bool}:beq a b=true↔a=b:=by rw [beq_eq];simp
theorem Aa.TB {x y:Aa} (h:x.eqC y=true):x=y:=by
 unfold Aa.eqC at h
 split at h<;>first
  |rfl
  |(cases h;done)
  |(simp only [aT,An]at h;obtain ⟨⟨⟨rfl,rfl⟩,rfl⟩,rfl⟩:=h;rfl)
  |(simp only [aT,An]at h;obtain ⟨rfl,rfl⟩:=h;rfl)
  |(rw [An]at h;rw [h];done)
  |(rw [Dv]at h;rw [h];done)
  |(rw [SB.Ba h];done)
  |(rw [aT,Dj]at h;obtain ⟨rfl,h⟩:=h;rw [ST.Ba h];done)
  |(rw [aT,aT,aT,beq_iff',An,An]at h;obtain ⟨rfl,rfl,rfl,h⟩:=h;rw [ST.Ba h];done)
  |(rw [aT,aT,An,An]at h;obtain ⟨rfl,h,rfl⟩:=h;rw [ST.Ba h];done)
  |(rw [aT,aT,An,An]at h;obtain ⟨rfl,rfl,h⟩:=h;rw [ST.Ba h];done)
  |(rw [aT,aT,aT,An,An,An]at h;obtain ⟨rfl,rfl,h,rfl⟩:=h;rw [ST.Ba h];done)
theorem Aa.KO:∀{x y:List Aa},Aa.Aev x y=true->x=y
 |[],[],_=>rfl
 |[],_::_,h=>by cases h
 |_::_,[],h=>by cases h
 |a::x,b::y,h=>by
  have h:(a.eqC b&&Aa.Aev x y)=true:=h
  rw [aT]at h
  rw [Aa.TB h.1,Aa.KO h.2]
theorem Aa.Dk {x y:Aa} (h:x.eq y=true):x=y:=by
 unfold Aa.eq at h
 split at h
 ·rw [aT,aT,An]at h
  obtain ⟨rfl,j,q⟩:=h
  rw [Aa.KO j,Aa.KO q]
 ·exact Aa.TB h
theorem Aa.Db:∀{x y:List Aa},Aa.Px x y=true->x=y
 |[],[],_=>rfl
 |[],_::_,h=>by cases h
 |_::_,[],h=>by cases h
 |a::x,b::y,h=>by
  have h:(a.eq b&&Aa.Px x y)=true:=h
  rw [aT]at h
  rw [Aa.Dk h.1,Aa.Db h.2]
theorem Pw:∀{x y:List (List Aa)},Aim x y=true->x=y
 |[],[],_=>rfl
 |[],_::_,h=>by cases h
 |_::_,[],h=>by cases h
 |a::x,b::y,h=>by
  have h:(Aa.Px a b&&Aim x y)=true:=h
  rw [aT]at h
  rw [Aa.Db h.1,Pw h.2]
theorem AK.Dk {x y:AK} (h:x.eq y=true):x=y:=by
 unfold AK.eq at h
 split at h
 ·rw [Pw h]
 ·rw [Nat.eq_of_beq_eq_true h]
 ·rw [aT]at h;rw [Nat.eq_of_beq_eq_true h.1,ST.Ba h.2]
 ·rw [aT]at h;rw [Nat.eq_of_beq_eq_true h.1,ST.Ba h.2]
 ·cases h
theorem AK.Db:∀{x y:List AK},AK.Px x y=true->x=y
 |[],[],_=>rfl
 |[],_::_,h=>by cases h
 |_::_,[],h=>by cases h
 |a::x,b::y,h=>by
  have h:(a.eq b&&AK.Px x y)=true:=h
  rw [aT]at h
  rw [AK.Dk h.1,AK.Db h.2]
theorem FW {x y:Aa} {v:Bool}:∀{l:List (Aa×Aa×Bool)},MH x y l=some v->(x,y,v)∈l
 |[],h=>by cases h
 |e::r,h=>by
  have h:(bif x.eq e.1&&y.eq e.2.1 then some e.2.2 else MH x y r)=some v:=h
  cases c:x.eq e.1&&y.eq e.2.1 with
  |true=>
   rw [c]at h
   simp only [cond_true,oI]at h
   rw [aT]at c
   rw [Aa.Dk c.1,Aa.Dk c.2,<-h]
   exact List.mem_cons_self
  |false=>rw [c]at h;exact List.mem_cons_of_mem _ (FW h)
theorem Pc {x y v:Aa}:∀{l:List (Aa×Aa×Aa)},Acm x y l=some v->(x,y,v)∈l
 |[],h=>by cases h
 |e::r,h=>by
  have h:(bif x.eq e.1&&y.eq e.2.1 then some e.2.2 else Acm x y r)=some v:=h
  cases c:x.eq e.1&&y.eq e.2.1 with
  |true=>
   rw [c]at h
   simp only [cond_true,oI]at h
   rw [aT]at c
   rw [Aa.Dk c.1,Aa.Dk c.2,<-h]
   exact List.mem_cons_self
  |false=>rw [c]at h;exact List.mem_cons_of_mem _ (Pc h)
theorem K5 {i:Nat} {v:ST×Nat×Nat}:∀{l:List (Nat×ST×Nat×Nat)},WY i l=some v->(i,v)∈l
 |[],h=>by cases h
 |e::r,h=>by
  have h:(bif Nat.beq e.1 i then some e.2 else WY i r)=some v:=h
  cases c:Nat.beq e.1 i with
  |true=>
   rw [c]at h
   simp only [cond_true,oI]at h
   rw [<-h,<-Nat.eq_of_beq_eq_true c]
   exact List.mem_cons_self
  |false=>rw [c]at h;exact List.mem_cons_of_mem _ (K5 h)
theorem C1 {i:Nat} {v:ST}:∀{l:List (Nat×ST)},EH i l=some v->(i,v)∈l
 |[],h=>by cases h
 |e::r,h=>by
  have h:(bif Nat.beq e.1 i then some e.2 else EH i r)=some v:=h
  cases c:Nat.beq e.1 i with
  |true=>
   rw [c]at h
   simp only [cond_true,oI]at h
   rw [<-h,<-Nat.eq_of_beq_eq_true c]
   exact List.mem_cons_self
  |false=>rw [c]at h;exact List.mem_cons_of_mem _ (C1 h)
theorem Iq {i:Nat} {t:ST} {v:List Aa}:∀{l:List (Nat×ST×List Aa)},Pb i t l=some v->(i,t,v)∈l
 |[],h=>by cases h
 |e::r,h=>by
  have h:(bif Nat.beq e.1 i&&e.2.1.eq t then some e.2.2 else Pb i t r)=some v:=h
  cases c:Nat.beq e.1 i&&e.2.1.eq t with
  |true=>
   rw [c]at h
   simp only [cond_true,oI]at h
   rw [aT]at c
   rw [<-Nat.eq_of_beq_eq_true c.1,<-ST.Ba c.2,<-h]
   exact List.mem_cons_self
  |false=>rw [c]at h;exact List.mem_cons_of_mem _ (Iq h)
theorem Pa {i:Nat} {k:Aa} {v:Option (List Aa)}:∀{l:List (Nat×Aa×Option (List Aa))},Ack i k l=some v->(i,k,v)∈l
 |[],h=>by cases h
 |e::r,h=>by
  have h:(bif Nat.beq e.1 i&&k.eq e.2.1 then some e.2.2 else Ack i k r)=some v:=h
  cases c:Nat.beq e.1 i&&k.eq e.2.1 with
  |true=>
   rw [c]at h
   simp only [cond_true,oI]at h
   rw [aT]at c
   rw [<-Nat.eq_of_beq_eq_true c.1,Aa.Dk c.2,<-h]
   exact List.mem_cons_self
  |false=>rw [c]at h;exact List.mem_cons_of_mem _ (Pa h)
theorem OY {i j:Nat} {k:Aa} {cs:List Aa}:∀{l:List (Nat×Aa×List Aa×Nat)},Acj i k cs l=some j->(i,k,cs,j)∈l
 |[],h=>by cases h
 |e::r,h=>by
  have h:(bif Nat.beq e.1 i&&(k.eq e.2.1&&Aa.Px cs e.2.2.1)then some e.2.2.2 else Acj i k cs r)=some j:=h
  cases c:Nat.beq e.1 i&&(k.eq e.2.1&&Aa.Px cs e.2.2.1)with
  |true=>
   rw [c]at h
   simp only [cond_true,oI]at h
   rw [aT,aT]at c
   rw [<-Nat.eq_of_beq_eq_true c.1,Aa.Dk c.2.1,Aa.Db c.2.2,<-h]
   exact List.mem_cons_self
  |false=>rw [c]at h;exact List.mem_cons_of_mem _ (OY h)
theorem Pd {t u:ST} {n:Nat}:∀{l:List (ST×Nat×ST)},Acn t n l=some u->∃m,n<=m/\(t,m,u)∈l
 |[],h=>by cases h
 |e::r,h=>by
  have h:(bif t.eq e.1&&Nat.ble n e.2.1 then some e.2.2 else Acn t n r)=some u:=h
  cases c:t.eq e.1&&Nat.ble n e.2.1 with
  |true=>
   rw [c]at h
   simp only [cond_true,oI]at h
   rw [aT]at c
   refine ⟨e.2.1,Nat.le_of_ble_eq_true c.2,?_⟩
   rw [ST.Ba c.1,<-h]
   exact List.mem_cons_self
  |false=>
   rw [c]at h
   obtain ⟨m,q,j⟩:=Pd h
   exact ⟨m,q,List.mem_cons_of_mem _ j⟩
theorem ER {p:List AK} {j:Nat}:∀{l:List (Nat×List AK)},JE p l=some j->(j,p)∈l
 |[],h=>by cases h
 |e::r,h=>by
  have h:(bif AK.Px p e.2 then some e.1 else JE p r)=some j:=h
  cases c:AK.Px p e.2 with
  |true=>
   rw [c]at h
   simp only [cond_true,oI]at h
   rw [AK.Db c,<-h]
   exact List.mem_cons_self
  |false=>rw [c]at h;exact List.mem_cons_of_mem _ (ER h)
theorem ON {p:List AK} {j:Nat}:∀{l:List (Nat×List AK)},Abo p l=some j->(j,p)∈l
 |[],h=>by cases h
 |e::r,h=>by
  have h:(bif AK.Px p e.2 then some e.1 else Abo p r)=some j:=h
  cases c:AK.Px p e.2 with
  |true=>
   rw [c]at h
   simp only [cond_true,oI]at h
   rw [AK.Db c,<-h]
   exact List.mem_cons_self
  |false=>rw [c]at h;exact List.mem_cons_of_mem _ (ON h)
end
section
section
variable {P:Program} {Γ:Ao} {ρ:Env} {μ:Aq} {tm:Tr Aa} {a:Act} {w:World}
def AW (ρ:Env) (μ:Aq) (tm:Tr Aa) (a:Act):Prop:=∀t,Ah ρ μ (Eu (tm.get t)) (a.tmps.getD t undef)
theorem AW.mono {j:Aq} (q:AW ρ μ tm a) (h:μ.le j):AW ρ j tm a:=fun t=>(q t).mono h
mutual
theorem Dd:∀v:Value,Ah ρ μ (GI v) v
 |.bool b=>by simp only [GI,Ah,SB.den]
 |.int k n=>by simp only [GI,Ah,ST.den]
 |.string s=>by simp only [GI,Ah];exact ⟨s,rfl,rfl⟩
 |.pointer none=>by simp only [GI,Ah]
 |.pointer (some _)=>trivial
 |.slice none 0 0=>by simp only [GI,Ah]
 |.slice none 0 (_+1)=>trivial
 |.slice none (_+1) _=>trivial
 |.slice (some _) _ _=>trivial
 |.map none=>by simp only [GI,Ah]
 |.map (some _)=>trivial
 |.nilFunc=>by simp only [GI,Ah]
 |.nilIface=>by simp only [GI,Ah]
 |.agg ⟨cs⟩=>by
  simp only [GI]
  split
  ·rename_i h
   simp only [Ah]
   exact ⟨⟨cs⟩,rfl,NO cs h⟩
  ·trivial
 |.float _ _=>trivial
 |.complex _ _ _=>trivial
 |.chan _=>trivial
 |.func _ _ _=>trivial
 |.iface _ _=>trivial
 |.tuple _=>trivial
theorem NO:∀l:List Value,(TY l).all (·.single)=true->Av ρ μ (TY l) l
 |[],_=>by simp only [TY,Av]
 |v::r,h=>by
  simp only [TY,List.all_cons,aT]at h
  simp only [TY,Av]
  exact ⟨v,r,rfl,⟨h.1,Dd v⟩,NO r h.2⟩
end
theorem As (j:AW ρ μ tm a) (x:Operand):Ah ρ μ (ev tm (AF x)) (a.eval x):=by
 cases x with
 |tmp t=>exact j t
 |const v=>exact Dd v
 |global g=>trivial
 |func f=>
  show Ah ρ μ (.func f [] []) (.func (.func f) #[] #[])
  simp only [Ah]
  exact ⟨#[],#[],rfl,by simp only [A9],by simp only [A9]⟩
theorem FY (j:AW ρ μ tm a):∀l:List Operand,A9 ρ μ (Sj tm (BW l)) (l.map a.eval)
 |[]=>by show A9 ρ μ [] [];simp only [A9]
 |x::r=>by
  show A9 ρ μ (ev tm (AF x)::Sj tm (BW r)) _
  simp only [A9,List.map_cons]
  exact ⟨_,_,rfl,As j x,FY j r⟩
theorem AW.put (q:AW ρ μ tm a) {d:Option Tmp} {v:Aa} {u:Value} (hd:∀t,d=some t->t<a.tmps.size) (h:Ah ρ μ v u):AW ρ μ (DM tm d v) (a.put d u):=by
 cases d with
 |none=>exact q
 |some d=>
  intro t
  show Ah ρ μ (Eu ((tm.set d (some v)).get t)) ((a.tmps.setIfInBounds d u).getD t undef)
  rw [Tr.Bf]
  have j:=hd d rfl
  by_cases e:t=d
  ·subst e
   rw [if_pos rfl]
   simpa [Array.getD_eq_getD_getElem?,j,Eu]using h
  ·rw [if_neg e]
   have:=q t
   simpa [Array.getD_eq_getD_getElem?,Array.getElem?_setIfInBounds_ne (Ne.symm e)]using this
theorem Act.Mo (d:Option Tmp) (u:Value):(a.put d u).tmps.size=a.tmps.size:=by
 cases d<;>simp [Act.put]
theorem Ah.int {k:IntKind} {n:ST} {v:Value} (h:Ah ρ μ (.int k n) v):v=.int k (n.den ρ):=by simpa only [Ah]using h
theorem Ah.bool {b:SB} {v:Value} (h:Ah ρ μ (.bool b) v):v=.bool (b.den ρ):=by simpa only [Ah]using h
theorem Ah.agg {cs:List Aa} {v:Value} (h:Ah ρ μ (.agg cs) v):∃a:Array Value,v=.agg a/\Av ρ μ cs a.toList:=by simpa only [Ah]using h
theorem Ah.tuple {cs:List Aa} {v:Value} (h:Ah ρ μ (.tuple cs) v):∃a:Array Value,v=.tuple a/\A9 ρ μ cs a.toList:=by simpa only [Ah]using h
theorem Ah.str {s:List Nat} {v:Value} (h:Ah ρ μ (.str s) v):∃b:ByteArray,v=.string b/\strOf b=s:=by simpa only [Ah]using h
theorem Ah.ptr {b j:Nat} {v:Value} (h:Ah ρ μ (.ptr b j) v):∃r δ m,μ b=some (r,δ,m)/\v=.pointer (some ⟨r,δ+j,none⟩):=by simpa only [Ah]using h
theorem Ah.slice {b j len c:Nat} {v:Value} (h:Ah ρ μ (.slice b j len c) v):
  ∃r δ m,μ b=some (r,δ,m)/\v=.slice (some ⟨r,δ+j,none⟩) len c/\len<=c:=by simpa only [Ah]using h
theorem Ah.gslice {b j len q:Nat} {v:Value} (h:Ah ρ μ (.gslice b j len q) v):
  ∃r δ m c,μ b=some (r,δ,m)/\v=.slice (some ⟨r,δ+j,none⟩) len c/\len<=c/\j+c*q<=m:=by simpa only [Ah]using h
theorem Ah.Og {b:Nat} {v:Value} (h:Ah ρ μ (.map b) v):∃r,μ b=some (r,0,0)/\v=.map (some r):=by simpa only [Ah]using h
theorem Ah.func {f:FuncId} {x c:List Aa} {v:Value} (h:Ah ρ μ (.func f x c) v):∃j q:Array Value,v=.func (.func f) j q/\A9 ρ μ x j.toList/\A9 ρ μ c q.toList:=by simpa only [Ah]using h
theorem Ah.iface {t:TypeId} {x:Aa} {v:Value} (h:Ah ρ μ (.iface t x) v):∃u,v=.iface t u/\Ah ρ μ x u:=by simpa only [Ah]using h
theorem Ah.anyStr {n:Nat} {v:Value} (h:Ah ρ μ (.anyStr n) v):∃b:ByteArray,v=.string b/\1<=b.size/\b.size<=n:=by simpa only [Ah]using h
theorem Ah.gbytes {b:Nat} {v:Value} (h:Ah ρ μ (.gbytes b) v):∃r m,μ b=some (r,0,m)/\v=.slice (some ⟨r,0,none⟩) (BG m) (BO m)/\1<=BG m/\BG m<=BO m:=by simpa only [Ah]using h
theorem Ah.glen {b:Nat} {v:Value} (h:Ah ρ μ (.glen b) v):∃r m,μ b=some (r,0,m)/\v=.int .i64 (BG m:Nat):=by simpa only [Ah]using h
theorem Ah.svar {i:Nat} {v:Value} (h:Ah ρ μ (.svar i) v):∃b:ByteArray,v=.string b/\strOf b=ρ.str i:=by simpa only [Ah]using h
theorem Ah.lst {f:Bool} {i j:Nat} {n:ST} {v:Value} (h:Ah ρ μ (.lst f i j n) v):GU μ.AX (.list j (ρ.lst i)) v/\n.den ρ=((ρ.lst i).length:Int)/\(f=true->∃p,v=.slice p (ρ.lst i).length (ρ.lst i).length):=by simpa only [Ah]using h
theorem Ah.lptr {i q:Nat} {j:ST} {v:Value} (h:Ah ρ μ (.lptr i j q) v):∃r δ a e ps,v=.pointer (some ⟨r,δ+q,none⟩)/\ID μ.AX r a e/\0<=j.den ρ/\(ρ.lst i)[(j.den ρ).toNat]?=some ps/\AO μ.AX a δ ps:=by simpa only [Ah]using h
theorem Ah.vec {b j:Nat} {n:ST} {v:Value} (h:Ah ρ μ (.vec b j n) v):∃r m k,μ b=some (r,0,m)/\v=.slice (some ⟨r,0,none⟩) k (BO m)/\n.den ρ=(k:Int)/\k<=BG m/\BG m<=BO m:=by simpa only [Ah]using h
theorem Ah.vptr {b x q:Nat} {j:ST} {v:Value} (h:Ah ρ μ (.vptr b x j q) v):∃r m,μ b=some (r,0,m)/\v=.pointer (some ⟨r,(j.den ρ).toNat*x+q,none⟩)/\0<=j.den ρ:=by simpa only [Ah]using h
theorem Ah.DA {f:Bool} {i q:Nat} {n:ST} {v:Value} (h:Ah ρ μ (.lst f i q n) v):∃p c,v=.slice p (ρ.lst i).length c/\(ρ.lst i).length<=c/\n.den ρ=((ρ.lst i).length:Int)/\
  ((ρ.lst i).length≠0->∃r δ a e,p=some ⟨r,δ,none⟩/\ID μ.AX r a e/\BI μ.AX q a δ (ρ.lst i)):=by
 obtain ⟨x,j,_⟩:=h.lst
 simp only [GU]at x
 obtain ⟨c,hc,⟨e,p,rfl⟩|⟨r,δ,a,t,rfl,A,z⟩⟩:=x
 ·exact ⟨p,c,by rw [e];rfl,hc,j,fun h=>absurd (by rw [e];rfl) h⟩
 ·exact ⟨_,c,rfl,hc,j,fun _=>⟨r,δ,a,t,rfl,A,z⟩⟩
theorem BI.get {AX:Nat->Option Obj} {j:Nat} {a:Array Value}:∀{l:List (List PV)} {δ:Nat},BI AX j a δ l->∀(i:Nat) (ps:List PV),l[i]?=some ps->ps.length=j/\AO AX a (δ+i*j) ps
 |[],_,_,i,ps,h=>by simp at h
 |qs::r,δ,e,i,ps,h=>by
  simp only [BI]at e
  obtain ⟨v,z,A⟩:=e
  cases i with
  |zero=>
   simp only [List.getElem?_cons_zero,oI]at h
   subst h
   exact ⟨v,by simpa using z⟩
  |succ i=>
   obtain ⟨q,x⟩:=BI.get A i ps (by simpa using h)
   exact ⟨q,by rw [Nat.add_mul,Nat.one_mul];rw [show δ+(i*j+j)=δ+j+i*j by omega];exact x⟩
section
variable {AX:Nat->Option Obj} {a:Array Value}
theorem AO.append_iff:∀{x y:List PV} {δ:Nat},AO AX a δ (x++y)↔AO AX a δ x/\AO AX a (δ+x.length) y
 |[],y,δ=>by simp only [List.nil_append,AO,true_and,lN,Nat.add_zero]
 |p::x,y,δ=>by
  simp only [List.cons_append,AO,lC]
  rw [AO.append_iff (x:=x) (y:=y) (δ:=δ+1),and_assoc]
  rw [show δ+1+x.length=δ+(x.length+1) by omega]
theorem Bz {j:Nat}:∀{l:List (List PV)} {δ:Nat},BI AX j a δ l↔(∀ps∈l,ps.length=j)/\AO AX a δ l.flatten
 |[],δ=>by simp only [BI,List.flatten_nil,AO,List.not_mem_nil,false_implies,implies_true,and_self]
 |ps::l,δ=>by
  simp only [BI,List.flatten_cons,AO.append_iff,Bz (l:=l),List.mem_cons,forall_eq_or_imp]
  constructor
  ·rintro ⟨h1,h2,h3,h4⟩
   exact ⟨⟨h1,h3⟩,h2,by rw [h1];exact h4⟩
  ·rintro ⟨⟨h1,h3⟩,h2,h4⟩
   exact ⟨h1,h2,h3,by rw [h1]at h4;exact h4⟩
theorem BD {j:Nat}:∀{l:List (List PV)},(∀ps∈l,ps.length=j)->l.flatten.length=l.length*j
 |[],_=>by simp
 |ps::l,h=>by
  rw [List.flatten_cons,lA,BD fun x q=>h x (List.mem_cons_of_mem _ q),h ps List.mem_cons_self,lC,Nat.add_mul]
  omega
end
theorem GU.Uf {x:Aa} {p:PV} {v:Value} (hd:LF ρ x p) (h:GU μ.AX p v):Ah ρ μ x v/\x.single=true:=by
 cases x<;>simp only [LF]at hd
 case bool|int|nilPtr=>subst hd;simp only [GU]at h;exact ⟨by simp only [Ah];exact h,rfl⟩
 case str=>subst hd;simp only [GU]at h;exact ⟨by simp only [Ah];exact h,rfl⟩
 case svar=>subst hd;simp only [GU]at h;exact ⟨by simp only [Ah];exact h,rfl⟩
 case lst f i es n=>
  obtain ⟨rfl,rfl,j⟩:=hd
  exact ⟨by simp only [Ah];exact ⟨h,j,fun e=>by cases e⟩,rfl⟩
theorem AO.Uf {c:Array Value}:∀{j:List Aa} {ps:List PV} {δ:Nat},FA ρ j ps->AO μ.AX c δ ps->j.length=ps.length/\∀(i:Nat) (x:Aa),j[i]?=some x->∃v,c[δ+i]?=some v/\x.single=true/\Ah ρ μ x v
 |[],ps,δ,hd,h=>by
  simp only [FA]at hd
  subst hd
  exact ⟨rfl,fun i x H=>by simp at H⟩
 |x::j,ps,δ,hd,h=>by
  simp only [FA]at hd
  obtain ⟨p,rest,rfl,M,C⟩:=hd
  simp only [AO]at h
  obtain ⟨⟨u,J,N⟩,L⟩:=h
  obtain ⟨B,I⟩:=AO.Uf C L
  refine ⟨by simp [B],fun i y q=>?_⟩
  cases i with
  |zero=>
   simp only [List.getElem?_cons_zero,oI]at q
   subst q
   obtain ⟨z,A⟩:=N.Uf M
   exact ⟨u,J,A,z⟩
  |succ i=>
   obtain ⟨v,z,A⟩:=I i y (by simpa using q)
   exact ⟨v,by rw [<-z];congr 1;omega,A⟩
theorem AO.cs {c:Array Value} {j:List Aa} {ps:List PV} (hd:FA ρ j ps) (h:AO μ.AX c 0 ps) (hs:c.size=ps.length):Av ρ μ j c.toList:=by
 obtain ⟨C,z⟩:=AO.Uf hd h
 refine Av.K0 (by rw [C,<-hs];rfl) fun i x A=>?_
 obtain ⟨v,q,B⟩:=z i x A
 exact ⟨v,by rw [Array.getElem?_toList];simpa using q,B⟩
theorem BJ {x:Aa} {s:List Nat} {v:Value} (hs:DZ ρ x=some s) (h:Ah ρ μ x v):∃b:ByteArray,v=.string b/\strOf b=s:=by
 cases x<;>simp only [DZ,oI,reduceCtorEq]at hs
 case str=>subst hs;exact h.str
 case svar=>subst hs;exact h.svar
theorem EI (hΓ:Γ.AI ρ) {op:BinOp} {x y:ST} (h:C4 Γ op x y=true):E3 op (x.den ρ) (y.den ρ)=true:=by
 unfold C4 at h
 split at h
 ·rename_i v q
  obtain ⟨j,_⟩:=CG hΓ q
  subst h
  exact j.symm
 ·cases h
theorem Ja (hΓ:Γ.AI ρ) {x y:ST} (h:C4 Γ .geq x y=true):y.den ρ<=x.den ρ:=by simpa [E3]using EI hΓ h
theorem Vf (hΓ:Γ.AI ρ) {x y:ST} (h:C4 Γ .gtr x y=true):y.den ρ<x.den ρ:=by simpa [E3]using EI hΓ h
theorem MO (hΓ:Γ.AI ρ) {x y:ST} (h:C4 Γ .lss x y=true):x.den ρ<y.den ρ:=by simpa [E3]using EI hΓ h
theorem EY (hΓ:Γ.AI ρ) {x y:ST} (h:C4 Γ .leq x y=true):x.den ρ<=y.den ρ:=by simpa [E3]using EI hΓ h
theorem UU {x:Aa} {n:Nat} (h:C9 x=some n):∃k,x=.int k (.lit (.ofNat n)):=by
 unfold C9 at h
 split at h
 ·rename_i k m
  simp only [oI]at h
  exact ⟨k,by rw [h]⟩
 ·cases h
theorem Cj {x:Aa} {n:Nat} {v:Value} (h:C9 x=some n) (j:Ah ρ μ x v):∃k,v=.int k (n:Int):=by
 obtain ⟨k,rfl⟩:=UU h
 exact ⟨k,j.int⟩
def Bl (P:Program) (ρ:Env) (μ:Aq) (a:Act) (o:Oper) (w:World) (v:Aa):Prop:=∃j,(execOp a.eval o).run P w=.ok (.value j) w/\Ah ρ μ v j
theorem Ek (P:Program) (w:World) (t:TypeId) {n:Option Nat} (h:DT P t=some n):
  (isAgg t).run P w=.ok n.isSome w/\(∀m,n=some m->(sizeOf t).run P w=.ok m w):=by
 unfold DT at h
 split at h
 ·rename_i fs i q v
  simp only [oI]at h
  subst h
  refine ⟨by simp [isAgg,run_underlying q],fun m j=>?_⟩
  simp only [oI]at j
  subst j
  simp [sizeOf,typeInfo,v]
 ·rename_i k e i q v
  simp only [oI]at h
  subst h
  refine ⟨by simp [isAgg,run_underlying q],fun m j=>?_⟩
  simp only [oI]at j
  subst j
  simp [sizeOf,typeInfo,v]
 ·rename_i d i x z q v
  simp only [oI]at h
  subst h
  refine ⟨?_,fun m j=>by cases j⟩
  cases d<;>first|(simp [isAgg,run_underlying q];done) |skip
  ·exact (z _ _ rfl).elim
  ·exact (x _ rfl).elim
 ·cases h
theorem Br {t:TypeId} {n:Nat} (h:AZ P t=some n):(sizeOf t).run P w=.ok n w:=by
 unfold AZ at h
 cases e:P.info? t with
 |none=>rw [e]at h;cases h
 |some i=>
  rw [e]at h
  simp only [Option.map_some,oI]at h
  simp [sizeOf,typeInfo,e,h]
theorem Av.extract {cs r:List Aa} {x:Array Value} {j n:Nat} (h:Av ρ μ cs x.toList) (hc:cut cs j n=some r):Av ρ μ r (x.extract j (j+n)).toList:=by
 obtain ⟨B,C,A⟩:=JZ hc
 have hl:cs.length=x.size:=by simpa using h.length
 refine Av.K0 ?_ fun i b hb=>?_
 ·rw [B,Array.length_toList,Array.size_extract]
  omega
 ·rw [A]at hb
  split at hb
  ·rename_i H
   obtain ⟨v,q,hs,z⟩:=h.get hb
   refine ⟨v,?_,hs,z⟩
   rw [Array.getElem?_toList,Array.getElem?_extract]
   rw [Array.getElem?_toList]at q
   rw [if_pos (by omega)]
   exact q
  ·cases hb
theorem M9 {t:TypeId} {n:Option Nat} {cs:List Aa} {x:Array Value} {j:Nat} {v:Aa} (I:DT P t=some n) (C:Av ρ μ cs x.toList) (h:J9 cs j n=some v):
  ∃q,(part t x j).run P w=.ok q w/\Ah ρ μ v q:=by
 obtain ⟨B,H⟩:=Ek P w t I
 unfold J9 at h
 cases n with
 |none=>
  simp only at h
  rw [K2]at h
  obtain ⟨q,A,_,z⟩:=C.get h
  rw [Array.getElem?_toList]at A
  exact ⟨q,by simp [part,B,A],z⟩
 |some n=>
  simp only at h
  obtain ⟨r,z,h⟩:=Ac h
  simp only [oI]at h
  subst h
  refine ⟨.agg (x.extract j (j+n)),by simp [part,B,H n rfl],?_⟩
  simp only [Ah]
  exact ⟨_,rfl,C.extract z⟩
theorem Tt {o:Oper} {x:Operand} (j:o.op=.move x∨o.op=.assign x) (q:AW ρ μ tm a):Bl P ρ μ a o w (ev tm (AF x)):=
 ⟨a.eval x,by rcases j with j|j<;>simp [execOp,j],As q x⟩
theorem Vo {o:Oper} {c x y:Operand} (q:o.op=.pick c x y) (j:AW ρ μ tm a) {v:Aa} (h:AbB (ev tm (AF c)) (ev tm (AF x)) (ev tm (AF y))=some v):Bl P ρ μ a o w v:=by
 have hc:=As j c
 unfold AbB at h
 split at h
 ·rename_i b hb
  rw [hb]at hc
  have hc:=hc.bool
  simp only [oI]at h
  subst h
  refine ⟨if b then a.eval x else a.eval y,?_,?_⟩
  ·simp [execOp,q,hc,asBool,SB.den]
  ·cases b
   ·exact As j y
   ·exact As j x
 ·cases h
theorem Vp {o:Oper} {x:Operand} (A:o.op=.nilCheck x) (C:AW ρ μ tm a) {v:Aa} (h:Aca (ev tm (AF x))=some v):Bl P ρ μ a o w v:=by
 have q:=As C x
 unfold Aca at h
 split at h
 ·rename_i b B hb
  simp only [oI]at h
  rw [hb]at q
  subst h
  have z:=q
  obtain ⟨r,δ,_,_,e⟩:=q.ptr
  exact ⟨a.eval x,by simp [execOp,A,e],z⟩
 ·rename_i f y c hb
  simp only [oI]at h
  rw [hb]at q
  subst h
  have z:=q
  obtain ⟨_,_,e,_⟩:=q.func
  exact ⟨a.eval x,by simp [execOp,A,e],z⟩
 ·rename_i i j B hb
  simp only [oI]at h
  rw [hb]at q
  subst h
  have z:=q
  obtain ⟨r,δ,_,_,_,e,_⟩:=q.lptr
  exact ⟨a.eval x,by simp [execOp,A,e],z⟩
 ·rename_i b H j B hb
  simp only [oI]at h
  rw [hb]at q
  subst h
  have z:=q
  obtain ⟨r,m,_,e,_⟩:=q.vptr
  exact ⟨a.eval x,by simp [execOp,A,e],z⟩
 ·cases h
theorem Tu {o:Oper} {t:TypeId} {x:Operand} (j:o.op=.makeInterface t x) (q:AW ρ μ tm a) (hc:P.concrete t=true):Bl P ρ μ a o w (.iface t (ev tm (AF x))):=
 ⟨.iface t (a.eval x),by simp [execOp,j,run_makeInterface,hc],by simp only [Ah];exact ⟨_,rfl,As q x⟩⟩
theorem Vu {o:Oper} {f:FuncId} {x c:Array Operand} (q:o.op=.makeFunc (.func f) x c) (j:AW ρ μ tm a):Bl P ρ μ a o w (.func f (Sj tm (BW x.toList)) (Sj tm (BW c.toList))):=
 ⟨.func (.func f) (x.map a.eval) (c.map a.eval),by simp [execOp,q,Instr.makeFunc],by
  simp only [Ah]
  exact ⟨_,_,rfl,by simpa using FY j x.toList,by simpa using FY j c.toList⟩⟩
theorem Y7 {o:Oper} {x:Operand} {i:Nat} (z:o.op=.extract x i) (C:AW ρ μ tm a) {v:Aa} (h:Aik (ev tm (AF x)) i=some v):Bl P ρ μ a o w v:=by
 have q:=As C x
 unfold Aik at h
 split at h
 ·rename_i vs hb
  rw [hb]at q
  obtain ⟨y,e,A⟩:=q.tuple
  rw [K2]at h
  obtain ⟨B,j,H⟩:=A.get h
  rw [Array.getElem?_toList]at j
  exact ⟨B,by simp [execOp,z,e,Instr.extract,j],H⟩
 ·cases h
theorem Addr.Bb (r o n:Nat):(⟨r,o,none⟩:Addr).add n=⟨r,o+n,none⟩:=by
 unfold Addr.add
 by_cases h:n=0
 ·subst h;simp
 ·rw [if_neg h]
theorem Ru {o:Oper} {t:TypeId} {x:Operand} {f:Nat} (A:o.op=.fieldAddr t x f) (M:AW ρ μ tm a) {fs:Array Field} {g:Field} {n:Nat} (B:P.underlying t=some (.struct fs)) (hf:fs[f]?=some g)
  (C:AZ P g.type=some (n+1)) {v:Aa} (h:RC g.offset (ev tm (AF x))=some v):Bl P ρ μ a o w v:=by
 have z:=As M x
 unfold RC at h
 split at h
 ·rename_i b q hb
  simp only [oI]at h
  subst h
  rw [hb]at z
  obtain ⟨r,δ,m,H,e⟩:=z.ptr
  refine ⟨.pointer (some ⟨r,δ+(q+g.offset),none⟩),?_,?_⟩
  ·have hs:=Br (w:=w) C
   simp [execOp,A,e,Instr.fieldAt,run_underlying B,hf,Instr.sureAddr,fieldPlace,hs,Addr.Bb,Nat.add_assoc]
  ·simp only [Ah];exact ⟨r,δ,_,H,rfl⟩
 ·rename_i i j q hb
  simp only [oI]at h
  subst h
  rw [hb]at z
  obtain ⟨r,δ,c,t,ps,e,I,J⟩:=z.lptr
  refine ⟨.pointer (some ⟨r,δ+(q+g.offset),none⟩),?_,?_⟩
  ·have hs:=Br (w:=w) C
   simp [execOp,A,e,Instr.fieldAt,run_underlying B,hf,Instr.sureAddr,fieldPlace,hs,Addr.Bb,Nat.add_assoc]
  ·simp only [Ah];exact ⟨r,δ,c,t,ps,rfl,I,J⟩
 ·rename_i b L j q hb
  simp only [oI]at h
  subst h
  rw [hb]at z
  obtain ⟨r,m,H,e,I⟩:=z.vptr
  refine ⟨.pointer (some ⟨r,(j.den ρ).toNat*L+(q+g.offset),none⟩),?_,?_⟩
  ·have hs:=Br (w:=w) C
   simp [execOp,A,e,Instr.fieldAt,run_underlying B,hf,Instr.sureAddr,fieldPlace,hs,Addr.Bb,Nat.add_assoc]
  ·simp only [Ah];exact ⟨r,m,H,rfl,I⟩
 ·cases h
theorem Tv {o:Oper} {t:TypeId} {x:Operand} {f:Nat} (q:o.op=.field t x f) (I:AW ρ μ tm a) {fs:Array Field} {g:Field} {n:Option Nat} (C:P.underlying t=some (.struct fs)) (hf:fs[f]?=some g)
  (H:DT P g.type=some n) {v:Aa} (h:V4 g.offset n (ev tm (AF x))=some v):Bl P ρ μ a o w v:=by
 have j:=As I x
 unfold V4 at h
 split at h
 ·rename_i cs hb
  rw [hb]at j
  obtain ⟨y,e,A⟩:=j.agg
  obtain ⟨z,J,B⟩:=M9 (w:=w) H A h
  exact ⟨z,by simp [execOp,q,e,Instr.field,run_underlying C,hf,asAgg,J],B⟩
 ·cases h
theorem Vt (hΓ:Γ.AI ρ) {o:Oper} {t e:TypeId} {x i:Operand} (Q:o.op=.indexAddr t x i) (V:AW ρ μ tm a) {n:Nat} (R:P.underlying t=some (.slice e)) (U:AZ P e=some n) {v:Aa}
  (h:Acy Γ n (ev tm (AF x)) (ev tm (AF i)) (C9 (ev tm (AF i)))=some v):Bl P ρ μ a o w v:=by
 have I:=As V x
 have O:=As V i
 have key:∀(b C len r δ m c:Nat),Xd n b C len (C9 (ev tm (AF i)))=some v->μ b=some (r,δ,m)->a.eval x=.slice (some ⟨r,δ+C,none⟩) len c->Bl P ρ μ a o w v:=fun b C len r δ m c h B H=>by
  unfold Xd at h
  obtain ⟨j,hj,h⟩:=Ac h
  obtain ⟨z,h⟩:=Ap h
  simp only [oI]at h
  subst h
  obtain ⟨k,M⟩:=Cj hj O
  have hs:=Br (w:=w) U
  have z:=Iv.1 z
  refine ⟨.pointer (some ⟨r,δ+(C+j*n),none⟩),?_,?_⟩
  ·simp [execOp,Q,H,M,Instr.indexAt,asIntOf,run_underlying R,hs,z,Addr.Bb,Nat.add_assoc]
  ·simp only [Ah];exact ⟨r,δ,_,B,rfl⟩
 unfold Acy at h
 split at h
 ·rename_i b Z len hb
  rw [hb]at I
  unfold AeX at h
  split at h
  ·rename_i k t N
   obtain ⟨hc,h⟩:=Ap h
   simp only [oI]at h
   subst h
   rw [aT,aT,An]at hc
   obtain ⟨rfl,A,J⟩:=hc
   have A:=Ja hΓ A
   have J:=MO hΓ J
   rw [N]at O
   have M:=O.int
   obtain ⟨r,m,c,B,H,L,_,_⟩:=I.vec
   rw [L]at J
   have A:0<=t.den ρ:=A
   obtain ⟨q,hq⟩:∃q:Nat,t.den ρ=(q:Int):=⟨(t.den ρ).toNat,by omega⟩
   have z:q<c:=by omega
   have hs:=Br (w:=w) U
   refine ⟨.pointer (some ⟨r,(t.den ρ).toNat*n+0,none⟩),?_,?_⟩
   ·rw [hq]at M⊢
    simp [execOp,Q,H,M,Instr.indexAt,asIntOf,run_underlying R,hs,z,Addr.Bb,Nat.add_assoc]
   ·simp only [Ah]
    exact ⟨r,m,B,rfl,A⟩
  ·cases h
 ·rename_i f j Z len hb
  rw [hb]at I
  unfold AeY at h
  split at h
  ·rename_i k t N
   obtain ⟨hc,h⟩:=Ap h
   simp only [oI]at h
   subst h
   rw [aT,aT,An]at hc
   obtain ⟨rfl,A,J⟩:=hc
   have A:=Ja hΓ A
   have J:=MO hΓ J
   rw [N]at O
   have M:=O.int
   obtain ⟨p,c,H,hc,L,Y⟩:=I.DA
   rw [L]at J
   have A:0<=t.den ρ:=A
   obtain ⟨m,B⟩:∃m:Nat,t.den ρ=(m:Int):=⟨(t.den ρ).toNat,by omega⟩
   have z:m<(ρ.lst j).length:=by omega
   obtain ⟨r,δ,cs,ty,rfl,X,k2⟩:=Y (by omega)
   have hs:=Br (w:=w) U
   obtain ⟨ps,hps⟩:∃ps,(ρ.lst j)[m]?=some ps:=⟨_,List.getElem?_eq_getElem z⟩
   refine ⟨.pointer (some ⟨r,δ+m*n,none⟩),?_,?_⟩
   ·rw [B]at M
    simp [execOp,Q,H,M,Instr.indexAt,asIntOf,run_underlying R,hs,z,Addr.Bb,Nat.add_assoc]
   ·simp only [Ah]
    refine ⟨r,δ+m*n,cs,ty,ps,rfl,X,A,?_,(k2.get m ps hps).2⟩
    rw [B];exact hps
  ·cases h
 ·rename_i b C len cap hb
  rw [hb]at I
  obtain ⟨r,δ,m,B,H,_⟩:=I.slice
  exact key _ _ _ _ _ _ _ h B H
 ·rename_i b C len cap hb
  rw [hb]at I
  obtain ⟨r,δ,m,c,B,H,_⟩:=I.gslice
  exact key _ _ _ _ _ _ _ h B H
 ·cases h
theorem Rt {o:Oper} {t e:TypeId} {x i:Operand} {len:Nat} (C:o.op=.indexAddr t x i) (B:AW ρ μ tm a) {n:Nat} (H:P.underlying t=some (.array len e)) (J:AZ P e=some n) {v:Aa}
  (h:Rp len n (ev tm (AF x)) (C9 (ev tm (AF i)))=some v):Bl P ρ μ a o w v:=by
 have A:=As B x
 have I:=As B i
 unfold Rp at h
 split at h
 ·rename_i b z hb
  obtain ⟨j,N,h⟩:=Ac h
  obtain ⟨q,h⟩:=Ap h
  simp only [oI]at h
  subst h
  rw [hb]at A
  obtain ⟨r,δ,m,L,M⟩:=A.ptr
  obtain ⟨k,O⟩:=Cj N I
  have hs:=Br (w:=w) J
  have q:=Iv.1 q
  refine ⟨.pointer (some ⟨r,δ+(z+j*n),none⟩),?_,?_⟩
  ·simp [execOp,C,M,O,Instr.indexAt,asIntOf,run_underlying H,hs,q,Addr.Bb,Nat.add_assoc,Instr.sureAddr]
  ·simp only [Ah];exact ⟨r,δ,_,L,rfl⟩
 ·cases h
theorem Y6 {o:Oper} {t e:TypeId} {x i:Operand} {len:Nat} (C:o.op=.index t x i) (A:AW ρ μ tm a) {n:Nat} {B:Option Nat} (M:P.underlying t=some (.array len e)) (O:AZ P e=some n) (ha:DT P e=some B) {v:Aa}
  (h:Aid len n B (ev tm (AF x)) (C9 (ev tm (AF i)))=some v):Bl P ρ μ a o w v:=by
 have z:=As A x
 have N:=As A i
 unfold Aid at h
 split at h
 ·rename_i cs hb
  obtain ⟨j,R,h⟩:=Ac h
  obtain ⟨q,h⟩:=Ap h
  rw [hb]at z
  obtain ⟨y,Q,I⟩:=z.agg
  obtain ⟨k,L⟩:=Cj R N
  have hs:=Br (w:=w) O
  have q:=Iv.1 q
  obtain ⟨H,U,J⟩:=M9 (w:=w) ha I h
  refine ⟨H,?_,J⟩
  simp [execOp,C,Q,L,Instr.index,asIntOf,run_underlying M,hs,q,U]
 ·cases h
theorem Vs {o:Oper} {t:TypeId} {x i:Operand} (H:o.op=.index t x i) (C:AW ρ μ tm a) (I:P.underlying t=some .string) {v:Aa}
  (h:Acx (ev tm (AF x)) (C9 (ev tm (AF i)))=some v):Bl P ρ μ a o w v:=by
 have B:=As C x
 have L:=As C i
 unfold Acx at h
 split at h
 ·rename_i s hb
  obtain ⟨j,N,h⟩:=Ac h
  obtain ⟨c,hc,h⟩:=Ac h
  simp only [oI]at h
  subst h
  rw [hb]at B
  obtain ⟨z,M,rfl⟩:=B.str
  obtain ⟨k,O⟩:=Cj N L
  rw [Fw]at hc
  unfold strOf at hc
  rw [List.getElem?_map]at hc
  obtain ⟨u,q,rfl⟩:=mS hc
  have A:j<z.size:=by
   have:=(List.getElem?_eq_some_iff.1 q).1
   simpa using this
  refine ⟨.int .u8 u.toNat,?_,by simp only [Ah,ST.den];rfl⟩
  have J:z[j]?=some u:=by
   rw [ByteArray.getElem?_lt' _ _ A]
   rw [Array.getElem?_toList]at q
   have:=(Array.getElem?_eq_some_iff.1 q).2
   rw [<-this];rfl
  simp [execOp,H,M,O,Instr.index,asIntOf,run_underlying I,J]
 ·cases h
theorem Vq (hΓ:Γ.AI ρ) {o:Oper} {t:TypeId} {x:Operand} {c:Call} (H:o.op=.call c) (z:c.callee=.builtin .len) (j:c.args=#[x]) (q:c.argTypes=#[t]) (N:AW ρ μ tm a)
  (I:P.underlying t=some .string) {v:Aa} (h:Aco Γ (ev tm (AF x))=some v):Bl P ρ μ a o w v:=by
 have A:=As N x
 unfold Aco at h
 split at h
 ·rename_i i hb
  obtain ⟨r,L,h⟩:=Ac h
  simp only [oI]at h
  subst h
  rw [hb]at A
  obtain ⟨B,C,O⟩:=A.svar
  refine ⟨.int .i64 B.size,?_,?_⟩
  ·simp [execOp,H,resolve,z,j,q,invoke,builtin,C,Builtin.len_,run_underlying I,goInt]
  ·have M:=K5 L
   have J:=(hΓ.BT _ M).1
   simp only [Ah]
   rw [show (i,r).2.1=r.1 from rfl]at J
   rw [J,<-O,BA]
 ·rename_i s hb
  simp only [oI]at h
  subst h
  rw [hb]at A
  obtain ⟨B,C,rfl⟩:=A.str
  refine ⟨.int .i64 B.size,?_,?_⟩
  ·simp [execOp,H,resolve,z,j,q,invoke,builtin,C,Builtin.len_,run_underlying I,goInt]
  ·simp only [lit,Ah,ST.den];rw [Dg,BA];rfl
 ·rename_i n hb
  simp only [oI]at h
  subst h
  rw [hb]at A
  obtain ⟨B,C,_⟩:=A.anyStr
  refine ⟨.int .i64 B.size,?_,trivial⟩
  simp [execOp,H,resolve,z,j,q,invoke,builtin,C,Builtin.len_,run_underlying I,goInt]
 ·cases h
theorem Vr {o:Oper} {t e:TypeId} {x:Operand} {c:Call} (C:o.op=.call c) (z:c.callee=.builtin .len) (j:c.args=#[x]) (q:c.argTypes=#[t]) (O:AW ρ μ tm a)
  (H:P.underlying t=some (.slice e)) {v:Aa} (h:Acp (ev tm (AF x))=some v):Bl P ρ μ a o w v:=by
 have A:=As O x
 unfold Acp at h
 split at h
 ·rename_i b J n cap hb
  simp only [oI]at h
  subst h
  rw [hb]at A
  obtain ⟨r,δ,m,_,B,_⟩:=A.slice
  refine ⟨.int .i64 n,?_,?_⟩
  ·simp [execOp,C,resolve,z,j,q,invoke,builtin,B,Builtin.len_,run_underlying H,goInt]
  ·simp only [lit,Ah,ST.den];rfl
 ·rename_i b J n cap hb
  simp only [oI]at h
  subst h
  rw [hb]at A
  obtain ⟨r,δ,m,L,_,B,_⟩:=A.gslice
  refine ⟨.int .i64 n,?_,?_⟩
  ·simp [execOp,C,resolve,z,j,q,invoke,builtin,B,Builtin.len_,run_underlying H,goInt]
  ·simp only [lit,Ah,ST.den];rfl
 ·rename_i hb
  simp only [oI]at h
  subst h
  rw [hb]at A
  have B:a.eval x=.slice none 0 0:=by simpa only [Ah]using A
  refine ⟨.int .i64 0,?_,?_⟩
  ·simp [execOp,C,resolve,z,j,q,invoke,builtin,B,Builtin.len_,run_underlying H,goInt]
  ·simp only [lit,Ah,ST.den];rfl
 ·rename_i b hb
  simp only [oI]at h
  subst h
  rw [hb]at A
  obtain ⟨r,m,N,B,_⟩:=A.gbytes
  refine ⟨.int .i64 (BG m:Nat),?_,?_⟩
  ·simp [execOp,C,resolve,z,j,q,invoke,builtin,B,Builtin.len_,run_underlying H,goInt]
  ·simp only [Ah];exact ⟨r,m,N,rfl⟩
 ·rename_i f i M n hb
  simp only [oI]at h
  subst h
  rw [hb]at A
  obtain ⟨p,L,B,_,I,_⟩:=A.DA
  refine ⟨.int .i64 (ρ.lst i).length,?_,?_⟩
  ·simp [execOp,C,resolve,z,j,q,invoke,builtin,B,Builtin.len_,run_underlying H,goInt]
  ·simp only [Ah];rw [I]
 ·rename_i b M n hb
  simp only [oI]at h
  subst h
  rw [hb]at A
  obtain ⟨r,m,k,_,B,I,_⟩:=A.vec
  refine ⟨.int .i64 k,?_,?_⟩
  ·simp [execOp,C,resolve,z,j,q,invoke,builtin,B,Builtin.len_,run_underlying H,goInt]
  ·simp only [Ah];rw [I]
 ·cases h
theorem Oa (ts:Array TypeId) (t:TypeId) (l c:Nat):Builtin.unsafeSliceData_ ts t #[.slice none l c]=pure (.pointer none):=rfl
theorem Mn (ts:Array TypeId) (t:TypeId) (p:Addr) (l c:Nat) (hc:c≠0):Builtin.unsafeSliceData_ ts t #[.slice (some p) l c]=pure (.pointer (some p)):=by
 have:Builtin.unsafeSliceData_ ts t #[.slice (some p) l c]=(if c≠0 then pure (.pointer (some p))else (viewAt p.block>>=fun v=>if v.isSome then pure (.pointer (some p))else (elemOf t>>=fun e=>newObj (.view p e)>>=fun n=>pure (.pointer (some ⟨n,0,none⟩))))):=rfl
 rw [this,if_pos hc]
theorem Tp {o:Oper} {x:Operand} {c:Call} (B:o.op=.call c) (q:c.callee=.builtin .unsafeSliceData) (j:c.args=#[x]) (H:AW ρ μ tm a)
  {v:Aa} (h:UE (ev tm (AF x))=some v):Bl P ρ μ a o w v:=by
 have z:=As H x
 unfold UE at h
 split at h
 ·rename_i hb
  simp only [oI]at h
  subst h
  rw [hb]at z
  have A:a.eval x=.slice none 0 0:=by simpa only [Ah]using z
  refine ⟨.pointer none,?_,by simp only [Ah]⟩
  simp [execOp,B,resolve,q,j,invoke,builtin,A,Oa]
 ·rename_i b hb
  simp only [oI]at h
  subst h
  rw [hb]at z
  obtain ⟨r,m,C,A,J,I⟩:=z.gbytes
  refine ⟨.pointer (some ⟨r,0,none⟩),?_,by simp only [Ah];exact ⟨r,0,m,C,rfl⟩⟩
  have hc:¬BO m=0:=by omega
  simp [execOp,B,resolve,q,j,invoke,builtin,A,Mn _ _ _ _ _ hc]
 ·cases h
end
end
section
section
variable {P:Program} {Γ:Ao} {ρ:Env} {μ:Aq} {tm:Tr Aa} {a:Act} {w:World}
theorem HE (j:Nat):∀(l:List Value) (k:Nat) (cells:Array Value),j+k+l.length<=cells.size->
  ((l.zipIdx k).foldl (fun (cs:Array Value) (x:Value×Nat)=>cs.setIfInBounds (j+x.2) x.1) cells).size=cells.size/\
  ∀i,((l.zipIdx k).foldl (fun (cs:Array Value) (x:Value×Nat)=>cs.setIfInBounds (j+x.2) x.1) cells)[i]?=if j+k<=i/\i<j+k+l.length then l[i-(j+k)]? else cells[i]?
 |[],k,cells,h=>⟨rfl,fun i=>by rw [if_neg (by simp only [lN];omega)];rfl⟩
 |v::l,k,cells,h=>by
  simp only [lC]at h
  rw [List.zipIdx_cons,List.foldl_cons]
  obtain ⟨z,q⟩:=HE j l (k+1) (cells.setIfInBounds (j+k) v) (by simp;omega)
  refine ⟨by rw [z];simp,fun i=>?_⟩
  rw [q i]
  simp only [lC]
  by_cases hi:j+k=i
  ·subst hi
   rw [if_neg (by omega),if_pos (by omega),Array.getElem?_setIfInBounds_self_of_lt (by omega)]
   simp
  ·by_cases hj:j+(k+1)<=i/\i<j+(k+1)+l.length
   ·rw [if_pos hj,if_pos (by omega)]
    have:i-(j+k)=(i-(j+(k+1)))+1:=by omega
    rw [this,List.getElem?_cons_succ]
   ·rw [if_neg hj,if_neg (by omega),Array.getElem?_setIfInBounds_ne hi]
theorem Y8 (j:Nat) (v cells:Array Value) (h:j+v.size<=cells.size):
  (v.zipIdx.foldl (fun (cs:Array Value) (x:Value×Nat)=>cs.setIfInBounds (j+x.2) x.1) cells).size=cells.size/\
  ∀i,(v.zipIdx.foldl (fun (cs:Array Value) (x:Value×Nat)=>cs.setIfInBounds (j+x.2) x.1) cells)[i]?=if j<=i/\i<j+v.size then v[i-j]? else cells[i]?:=by
 have:=HE j v.toList 0 cells (by simpa using h)
 rw [<-Array.foldl_toList,Array.toList_zipIdx]
 simpa using this
theorem Av.spliced {vs cs r:List Aa} {x y:Array Value} {j:Nat} (v:Av ρ μ cs x.toList) (q:Av ρ μ vs y.toList) (h:splice vs j cs=some r):
  j+y.size<=x.size/\∀z:Array Value,z.size=x.size->(∀i,z[i]?=if j<=i/\i<j+y.size then y[i-j]? else x[i]?)->Av ρ μ r z.toList:=by
 obtain ⟨C,L,I⟩:=Ht h
 have B:cs.length=x.size:=by simpa using v.length
 have J:vs.length=y.size:=by simpa using q.length
 refine ⟨by omega,fun z H A=>Av.K0 (by rw [C,B,<-H];simp) fun i b hb=>?_⟩
 rw [I i]at hb
 rw [Array.getElem?_toList,A i]
 rw [J]at hb
 split at hb
 ·rename_i hc
  rw [if_pos hc]
  simpa using q.get hb
 ·rename_i hc
  rw [if_neg hc]
  simpa using v.get hb
theorem Ov {cs r:List Aa} {x:Array Value} {v:Aa} {u:Value} {j size:Nat} (I:Av ρ μ cs x.toList) (B:Ah ρ μ v u) (h:F5 cs v j size=some r):
  u.cells.size=size/\j+u.cells.size<=x.size/\∀z:Array Value,z.size=x.size->(∀i,z[i]?=if j<=i/\i<j+u.cells.size then u.cells[i-j]? else x[i]?)->Av ρ μ r z.toList:=by
 unfold F5 at h
 obtain ⟨vs,q,h⟩:=Ac h
 obtain ⟨hl,h⟩:=Ap h
 have A:=B.cells q
 obtain ⟨C,H⟩:=I.spliced A h
 refine ⟨?_,C,H⟩
 have:=An.1 hl
 rw [JF]at this
 rw [<-this]
 simpa using A.length.symm
theorem Gu (B:AW ρ μ tm a):∀{parts:List (Nat×Operand)} {ps:List (Nat×Nat×Cu)} {j place':Nat->Option (Nat×Nat)} {cs r:List Aa} {x:Array Value},
  partsOf j parts=some ps->(∀i y,j i=some y->place' i=some y)->Av ρ μ cs x.toList->HJ tm ps cs=some r->
  ∃z:Array Value,Instr.fill place' x (parts.map fun p=>(p.1,a.eval p.2))=some z/\Av ρ μ r z.toList
 |[],ps,j,place',cs,r,x,hp,hpl,hx,h=>by
  simp only [partsOf,oI]at hp
  subst hp
  have h:some cs=some r:=h
  simp only [oI]at h
  subst h
  exact ⟨x,rfl,hx⟩
 |(i,y)::parts,ps,j,place',cs,r,x,hp,hpl,hx,h=>by
  simp only [partsOf]at hp
  split at hp
  ·rename_i q size A M C
   simp only [oI]at hp
   subst hp
   have h:(AD (F5 cs (ev tm (AF y)) q size) (HJ tm A))=some r:=h
   obtain ⟨P,hc,h⟩:=Ac h
   obtain ⟨Q,N,J⟩:=Ov hx (As B y) hc
   obtain ⟨L,I⟩:=Y8 q (a.eval y).cells x N
   have v:=J _ L I
   obtain ⟨z,O,H⟩:=Gu B C hpl v h
   refine ⟨z,?_,H⟩
   simp only [List.map_cons,Instr.fill,hpl i _ M]
   rw [if_neg (by simp;omega)]
   exact O
  ·cases hp
theorem En {t:TypeId} {cs:List Aa} (h:Hg P t=some cs):∃v,(zeroValue t).run P w=.ok v w/\Av ρ μ cs v.cells.toList:=by
 unfold Hg at h
 cases e:P.info? t with
 |none=>rw [e]at h;cases h
 |some i=>
  rw [e]at h
  simp only at h
  obtain ⟨v,j,h⟩:=Option.bind_eq_some_iff.1 h
  obtain ⟨q,hc,h⟩:=Option.bind_eq_some_iff.1 h
  split at h
  ·simp only [oI]at h
   subst h
   exact ⟨v,by simp [zeroValue,typeInfo,e,j],(Dd v).cells hc⟩
  ·cases h
theorem GN:∀(fs:List Field),fs.all (fun f=>(P.info? f.type).isSome)=true->
  (fs.mapM fun f=>Functor.map (Prod.mk f.offset) (sizeOf f.type)).run P w=.ok (fs.map fun f=>(f.offset,P.cellsOf f.type)) w
 |[],_=>by simp
 |f::fs,h=>by
  simp only [List.all_cons,aT]at h
  obtain ⟨i,j⟩:=Option.isSome_iff_exists.1 h.1
  have hs:(sizeOf f.type).run P w=.ok i.size w:=by simp [sizeOf,typeInfo,j]
  simp [List.mapM_cons,GN fs h.2,hs,Program.cellsOf,j]
theorem Jb {o:Oper} {t:TypeId} {parts:Array (Nat×Operand)} (N:o.op=.build t parts) (I:AW ρ μ tm a) {fs:Array Field} {z:List Aa} {ps:List (Nat×Nat×Cu)}
  (Q:P.underlying t=some (.struct fs)) (L:Hg P t=some z) (A:fs.all (fun f=>(P.info? f.type).isSome)=true)
  (M:partsOf (fun i=>(fs[i]?).bind fun f=>(AZ P f.type).map fun n=>(f.offset,n)) parts.toList=some ps) {v:Aa} (h:NA (HJ tm ps z)=some v):Bl P ρ μ a o w v:=by
 obtain ⟨U,J,H⟩:=En (w:=w) (ρ:=ρ) (μ:=μ) L
 unfold NA at h
 obtain ⟨r,O,h⟩:=Ac h
 simp only [oI]at h
 subst h
 have B:∀i y,((fs[i]?).bind fun (f:Field)=>(AZ P f.type).map fun n=>(f.offset,n))=some y->(fs.map fun f=>(f.offset,P.cellsOf f.type))[i]?=some y:=fun i y e=>by
  obtain ⟨f,hf,e⟩:=Option.bind_eq_some_iff.1 e
  obtain ⟨n,C,e⟩:=mS e
  rw [Array.getElem?_map,hf,<-e]
  unfold AZ at C
  simp [Program.cellsOf,C]
 obtain ⟨x,R,hc⟩:=Gu I M B H O
 refine ⟨.agg x,?_,by simp only [Ah];exact ⟨x,rfl,hc⟩⟩
 have j:fs.toList.all (fun f=>(P.info? f.type).isSome)=true:=by rw [<-A];simp
 have V:=GN (w:=w) fs.toList j
 have X:(parts.map fun x=>(x.1,a.eval x.2)).toList=parts.toList.map fun p=>(p.1,a.eval p.2):=by simp
 have q:Instr.fill (fun i=>(fs.map fun f=>(f.offset,P.cellsOf f.type))[i]?) U.cells ((parts.map fun x=>(x.1,a.eval x.2)).toList)=some x:=by rw [X];exact R
 simp [execOp,N,Instr.build,J,run_underlying Q,Array.mapM_eq_mapM_toList,V]
 simp at q
 rw [q]
 simp
theorem JK {o:Oper} {t e:TypeId} {len n:Nat} {parts:Array (Nat×Operand)} (I:o.op=.build t parts) (A:AW ρ μ tm a) {z:List Aa} {ps:List (Nat×Nat×Cu)}
  (L:P.underlying t=some (.array len e)) (C:Hg P t=some z) (N:AZ P e=some n)
  (H:partsOf (fun i=>some (i*n,n)) parts.toList=some ps) {v:Aa} (h:NA (HJ tm ps z)=some v):Bl P ρ μ a o w v:=by
 obtain ⟨O,B,q⟩:=En (w:=w) (ρ:=ρ) (μ:=μ) C
 unfold NA at h
 obtain ⟨r,J,h⟩:=Ac h
 simp only [oI]at h
 subst h
 obtain ⟨x,M,hc⟩:=Gu (place':=fun i=>some (i*n,n)) A H (fun i y e=>e) q J
 refine ⟨.agg x,?_,by simp only [Ah];exact ⟨x,rfl,hc⟩⟩
 have Q:(parts.map fun x=>(x.1,a.eval x.2)).toList=parts.toList.map fun p=>(p.1,a.eval p.2):=by simp
 have j:Instr.fill (fun i=>some (i*n,n)) O.cells ((parts.map fun x=>(x.1,a.eval x.2)).toList)=some x:=by rw [Q];exact M
 have hs:=Br (w:=w) N
 simp [execOp,I,Instr.build,B,run_underlying L,hs]
 simp at j
 rw [j]
 simp
theorem Jv (b c:ByteArray):strOf (b++c)=strOf b++strOf c:=by simp [strOf,ByteArray.data_append]
theorem Aax {x:Aa} {b:ByteArray} (h:DZ ρ x=some (strOf b)):Ah ρ μ x (.string b):=by
 cases x<;>simp only [DZ,oI,reduceCtorEq]at h
 case str=>simp only [Ah];exact ⟨b,rfl,h.symm⟩
 case svar=>simp only [Ah];exact ⟨b,rfl,h.symm⟩
theorem Jl {o:Oper} {op:BinOp} {t N:TypeId} {x y:Operand} (H:o.op=.binOp op t x y N) (hΓ:Γ.AI ρ) {X Y:Aa} (J:Ah ρ μ X (a.eval x)) (I:Ah ρ μ Y (a.eval y)) {v:Aa} (h:AcV Γ op X Y=some v):Bl P ρ μ a o w v:=by
 unfold AcV at h
 split at h
 ·obtain ⟨b,hb,h⟩:=Ac h
  simp only [oI]at h
  subst h
  obtain ⟨s,u,B,z,j⟩:=hΓ.strs _ (FW hb)
  obtain ⟨q,A,rfl⟩:=BJ B J
  obtain ⟨b2,C,rfl⟩:=BJ z I
  have j:b=decide (strOf q=strOf b2):=j
  refine ⟨.bool (q.toList==b2.toList),?_,?_⟩
  ·simp only [execOp,H,A,C,eqGuard_at_string,binOp,Op.stringOp,Sem.run_bind,Sem.run_pure,Result.andThen_ok]
  ·simp only [Ah,SB.den]
   rw [<-CF,j]
   congr 1
   rw [Bool.eq_iff_iff,Dv];simp
 ·obtain ⟨b,hb,h⟩:=Ac h
  simp only [oI]at h
  subst h
  obtain ⟨s,u,B,z,j⟩:=hΓ.strs _ (FW hb)
  obtain ⟨q,A,rfl⟩:=BJ B J
  obtain ⟨b2,C,rfl⟩:=BJ z I
  have j:b=decide (strOf q=strOf b2):=j
  refine ⟨.bool (!(q.toList==b2.toList)),?_,?_⟩
  ·simp only [execOp,H,A,C,eqGuard_at_string,binOp,Op.stringOp,Sem.run_bind,Sem.run_pure,Result.andThen_ok]
  ·simp only [Ah,SB.den]
   rw [<-CF,j]
   congr 2
   rw [Bool.eq_iff_iff,Dv];simp
 ·obtain ⟨s,u,B,z,j,M⟩:=hΓ.EA _ (Pc h)
  obtain ⟨q,A,rfl⟩:=BJ B J
  obtain ⟨b2,C,rfl⟩:=BJ z I
  refine ⟨.string (q++b2),?_,Aax (by rw [Jv];exact j)⟩
  rw [BA,BA]at M
  have L:¬(((q.size+b2.size:Nat):Int)>IntKind.i64.max):=by
   have:IntKind.i64.max=9223372036854775807:=by decide
   rw [this];omega
  simp only [execOp,H,A,C,eqGuard_at_string,binOp,Op.stringOp,Sem.run_bind,Sem.run_pure,Result.andThen_ok]
  rw [if_neg L]
  rfl
 ·cases h
theorem Pn {o:Oper} {op:BinOp} {t Q:TypeId} {x y:Operand} (A:o.op=.binOp op t x y Q) (hΓ:Γ.AI ρ) (N:AW ρ μ tm a) {v:Aa} (h:Aix Γ op (ev tm (AF x)) (ev tm (AF y))=some v):Bl P ρ μ a o w v:=by
 have z:=As N x
 have j:=As N y
 unfold Aix at h
 split at h
 ·rename_i k m L n hb hc
  rw [hb]at z
  rw [hc]at j
  have C:=z.int
  have B:=j.int
  unfold AmJ at h
  cases hs:DO op with
  |true=>
   rw [hs]at h
   simp only [cond_true]at h
   unfold Abg at h
   split at h
   ·rename_i p q
    obtain ⟨r,U,h⟩:=Ac h
    simp only [oI]at h
    subst h
    refine ⟨.int k r,?_,by simp only [Ah,ST.den]⟩
    have J:=J0 (yk:=L) U
    cases op<;>simp only [DO,Bool.false_eq_true]at hs<;>simp [execOp,A,C,B,ST.den,eqGuard_at_int,binOp,J]
   ·unfold Abf at h
    obtain ⟨M,h⟩:=Ap h
    simp only [oI]at h
    subst h
    refine ⟨.int k (Ag op k (m.den ρ) (n.den ρ)),?_,by simp only [Ah];rw [K1 hΓ];rfl⟩
    have J:=SF (k:=k) (yk:=L) (x:=m.den ρ) hs (Of hΓ M)
    cases op<;>simp only [DO,Bool.false_eq_true]at hs<;>simp [execOp,A,C,B,eqGuard_at_int,binOp,J]
  |false=>
   rw [hs]at h
   simp only [cond_false]at h
   cases hk:Vh k L with
   |false=>rw [hk]at h;simp at h
   |true=>
    have O:=Dj.1 hk
    subst O
    rw [hk]at h
    simp only [Bool.not_true,cond_false]at h
    cases hcm:F3 op with
    |true=>
     rw [hcm]at h
     simp only [cond_true]at h
     obtain ⟨s,H,h⟩:=Ac h
     simp only [oI]at h
     subst h
     have hd:=(CG hΓ H).1
     refine ⟨.bool (E3 op (m.den ρ) (n.den ρ)),?_,by simp only [Ah];rw [hd]⟩
     simp [execOp,A,C,B,eqGuard_at_int,YP hcm]
    |false=>
     rw [hcm]at h
     simp only [cond_false]at h
     obtain ⟨s,H,h⟩:=Ac h
     simp only [oI]at h
     subst h
     obtain ⟨hd,R,_,_⟩:=HX hΓ H
     refine ⟨.int k (Ag op k (m.den ρ) (n.den ρ)),?_,by simp only [Ah];rw [hd]⟩
     simp [execOp,A,C,B,eqGuard_at_int,TQ R hcm hs]
 ·rename_i s V hb hc
  rw [hb]at z
  rw [hc]at j
  obtain ⟨b,C,rfl⟩:=z.str
  obtain ⟨c,B,rfl⟩:=j.str
  cases op
  case add=>
   simp only [Uk]at h
   obtain ⟨I,h⟩:=Ap h
   have I:=AP.1 I
   simp only [oI]at h
   subst h
   refine ⟨.string (b++c),?_,by simp only [Ah];exact ⟨_,rfl,Jv _ _⟩⟩
   rw [Dg,Dg,BA,BA]at I
   have M:¬(((b.size+c.size:Nat):Int)>IntKind.i64.max):=by
    have:IntKind.i64.max=9223372036854775807:=by decide
    rw [this];omega
   simp only [execOp,A,C,B,eqGuard_at_string,binOp,Op.stringOp,Sem.run_bind,Sem.run_pure,Result.andThen_ok]
   rw [if_neg M]
   rfl
  all_goals
   simp only [Uk,oI,reduceCtorEq]at h<;>subst h<;>
   refine ⟨_,by simp only [execOp,A,C,B,eqGuard_at_string,binOp,Op.stringOp,Sem.run_bind,Sem.run_pure,Result.andThen_ok];rfl,by simp only [Ah,SB.den,CF,Aay]⟩
 ·rename_i hb hc
  rw [hb]at z
  rw [hc]at j
  exact Jl A hΓ z j h
 ·rename_i hb hc
  rw [hb]at z
  rw [hc]at j
  exact Jl A hΓ z j h
 ·rename_i hb hc
  rw [hb]at z
  rw [hc]at j
  exact Jl A hΓ z j h
 ·cases h
theorem Ac1 {o:Oper} {op:UnOp} {t:TypeId} {x:Operand} (q:o.op=.unOp op t x) (hΓ:Γ.AI ρ) (A:AW ρ μ tm a) {v:Aa} (h:unA Γ op (ev tm (AF x))=some v):Bl P ρ μ a o w v:=by
 have j:=As A x
 unfold unA at h
 split at h
 ·rename_i k n hb
  rw [hb]at j
  have e:=j.int
  obtain ⟨s,hs,h⟩:=Ac h
  simp only [oI]at h
  subst h
  obtain ⟨hd,_⟩:=HX hΓ hs
  refine ⟨.int k (s.den ρ),?_,by simp only [Ah]⟩
  rw [hd]
  simp [execOp,q,e,unary_neg,Op.intArith,Ag,ST.den]
 ·rename_i k n hb
  rw [hb]at j
  have e:=j.int
  obtain ⟨s,hs,h⟩:=Ac h
  simp only [oI]at h
  subst h
  obtain ⟨hd,_⟩:=HX hΓ hs
  refine ⟨.int k (s.den ρ),?_,by simp only [Ah]⟩
  rw [hd]
  have z:((.lit (bif Ij k then Int.negSucc 0 else Int.ofNat (modulus k-1)):ST).den ρ)=if k.signed then -1 else k.max:=by
   cases k<;>rfl
  rw [z]
  simp [execOp,q,e,unary_xor,intBits_xor,Ag]
 ·rename_i b hb
  rw [hb]at j
  have e:=j.bool
  simp only [oI]at h
  subst h
  exact ⟨.bool (!b),by simp [execOp,q,e,unary_not,SB.den],by simp only [Ah,SB.den]⟩
 ·rename_i b _ hb
  rw [hb]at j
  have e:=j.bool
  simp only [oI]at h
  subst h
  exact ⟨.bool (!(b.den ρ)),by simp [execOp,q,e,unary_not],by simp only [Ah,SB.den]⟩
 ·cases h
theorem Vv {o:Oper} {s d:TypeId} {z k:IntKind} {x:Operand} (q:o.op=.convert s d x) (hΓ:Γ.AI ρ) (A:AW ρ μ tm a) (hs:P.underlying s=some (.int z)) (hd:P.underlying d=some (.int k))
  {v:Aa} (h:AcM Γ k (ev tm (AF x))=some v):Bl P ρ μ a o w v:=by
 have j:=As A x
 unfold AcM at h
 split at h
 ·rename_i B n hb
  rw [hb]at j
  have e:=j.int
  simp only [oI]at h
  subst h
  refine ⟨.int k (k.wrap (n.den ρ)),?_,by simp only [Ah];rw [O3 hΓ]⟩
  simp [execOp,q,e,Go.convert,run_underlying hs,run_underlying hd,Conv.intToInt]
 ·cases h
theorem Vm {o:Oper} {s d:TypeId} {x:Operand} (z:o.op=.convert s d x) (A:AW ρ μ tm a) (hs:P.underlying s=some .string) (hd:P.underlying d=some .string)
  {v:Aa} (h:Abq (ev tm (AF x))=some v):Bl P ρ μ a o w v:=by
 have j:=As A x
 unfold Abq at h
 split at h
 ·rename_i c hb
  rw [hb]at j
  simp only [oI]at h
  subst h
  have q:=j
  obtain ⟨b,e,_⟩:=j.str
  refine ⟨a.eval x,?_,q⟩
  simp [execOp,z,e,Go.convert,run_underlying hs,run_underlying hd]
 ·cases h
theorem NH {Γ:Ao} (hΓ:Γ.AI ρ) (most:Bool):∀{I:List Aa} {x v:Aa} {us:List Value} {u:Value},Ah ρ μ x u->A9 ρ μ I us->Ae9 Γ most I x=some v->
  ∃A,(us.foldlM (if most then Builtin.max2 else Builtin.min2) u).run P w=.ok A w/\Ah ρ μ v A
 |[],x,v,us,u,hu,hs,h=>by
  simp only [A9]at hs
  subst hs
  have h:some x=some v:=h
  simp only [oI]at h
  subst h
  exact ⟨u,by simp,hu⟩
 |y::ys,x,v,us,u,hu,hs,h=>by
  simp only [A9]at hs
  obtain ⟨Z,rest,rfl,M,O⟩:=hs
  have J:AD (VT Γ most x y) (Ae9 Γ most ys)=some v:=h
  clear h
  obtain ⟨z,q,B⟩:=Ac J
  clear J
  unfold VT at q
  split at q
  ·rename_i k m Y n
   obtain ⟨Q,j⟩:=Ap q
   have U:=Dj.1 Q
   subst U
   split at j
   case h_2=>cases j
   rename_i c C
   simp only [oI]at j
   have q:=j
   have R:=hu.int
   have X:=M.int
   subst R X
   have L:c=(bif most then decide (m.den ρ<n.den ρ)else decide (n.den ρ<m.den ρ)):=by
    cases most with
    |true=>exact (CG hΓ C).1
    |false=>exact (CG hΓ C).1
   have H:Ah ρ μ z (.int k (bif c then n.den ρ else m.den ρ)):=by rw [<-q];cases c<;>simp only [Ah,cond_true,cond_false]
   obtain ⟨A,V,N⟩:=NH hΓ most H O B
   subst L
   generalize m.den ρ=m at*
   generalize n.den ρ=n at*
   refine ⟨A,?_,N⟩
   rw [<-V,List.foldlM_cons]
   cases most
   ·simp only [Bool.false_eq_true,if_false,cond_false,Sem.run_bind]
    simp only [Builtin.min2,Sem.run_pure,Result.andThen_ok]
    congr 2
    by_cases hc:n<m<;>simp [hc]
   ·simp only [if_true,cond_true,Sem.run_bind]
    simp only [Builtin.max2,Sem.run_pure,Result.andThen_ok]
    congr 2
    by_cases hc:m<n<;>simp [hc]
  ·cases q
theorem Po {Γ:Ao} (hΓ:Γ.AI ρ) {o:Oper} {q:List Operand} {c:Call} {most:Bool} (C:o.op=.call c) (j:c.callee=.builtin (if most then .max else .min)) (z:c.args.toList=q) (H:AW ρ μ tm a)
  {v:Aa} (h:AmK Γ most (Sj tm (BW q))=some v):Bl P ρ μ a o w v:=by
 cases q with
 |nil=>have h:none=some v:=h;cases h
 |cons x q=>
  have h:Ae9 Γ most (Sj tm (BW q)) (ev tm (AF x))=some v:=h
  obtain ⟨B,A,I⟩:=NH (P:=P) (w:=w) hΓ most (As H x) (FY H q) h
  refine ⟨B,?_,I⟩
  cases most
  ·have j:c.callee=.builtin .min:=j
   have A:Sem.run P (List.foldlM Builtin.min2 (a.eval x) (List.map a.eval q)) w=.ok B w:=A
   simp [execOp,C,resolve,j,invoke,builtin,Builtin.min_,z,A]
  ·have j:c.callee=.builtin .max:=j
   have A:Sem.run P (List.foldlM Builtin.max2 (a.eval x) (List.map a.eval q)) w=.ok B w:=A
   simp [execOp,C,resolve,j,invoke,builtin,Builtin.max_,z,A]
end
end
section
section
variable {P:Program} {Γ:Ao} {ρ:Env} {μ:Aq} {tm:Tr Aa} {a:Act} {w:World}
theorem Pf {o:Option SB} {v:Bool} (h:AhV o=some v):o=some (.lit v):=by
 unfold AhV at h
 split at h
 ·simp only [oI]at h;rw [h]
 ·cases h
def LK.fits (k:LK) (d:TypeDesc):Prop:=
 match k with
 |.bool=>d=.bool
 |.int=>∃i,d=.int i
 |.str=>d=.string
theorem RL (hΓ:Γ.AI ρ) {k:LK} {x y:Aa} {u v:Value} {b:Bool} (B:Ah ρ μ x u) (z:Ah ρ μ y v) (h:Jg Γ k x y=some b) {t:TypeId} {d:TypeDesc} (A:P.underlying t=some d) (j:k.fits d) (n:Nat):
  (Op.equalIn (n+1) t u v).run P w=.ok b w:=by
 unfold Jg at h
 split at h
 ·rename_i L m X V
  obtain ⟨i,rfl⟩:=j
  obtain ⟨J,C⟩:=Ap h
  clear h
  have N:=Dj.1 J
  subst N
  have hc:=(CG hΓ (Pf C)).1
  rw [B.int,z.int,run_equalIn_int w n t L i _ _ A]
  simp only [SB.den,E3]at hc
  rw [hc]
 ·rename_i p q
  have j:d=.bool:=j
  subst j
  simp only [oI]at h
  rw [B.bool,z.bool]
  simp only [SB.den]
  rw [run_equalIn_bool' w n t p q A,<-h,beq_eq]
 ·rename_i p q
  have j:d=.string:=j
  subst j
  simp only [oI]at h
  obtain ⟨s,rfl,R⟩:=B.str
  obtain ⟨M,rfl,Q⟩:=z.str
  rw [run_equalIn_string w n t s M A,<-h,<-R,<-Q,CF]
 all_goals first
  |(cases h;done)
  |(have j:d=.string:=j
    subst j
    obtain ⟨s,U,O,C,H⟩:=hΓ.strs _ (FW h)
    obtain ⟨I,rfl,rfl⟩:=BJ O B
    obtain ⟨b2,rfl,rfl⟩:=BJ C z
    have H:b=decide (strOf I=strOf b2):=H
    rw [run_equalIn_string w n t I b2 A,<-CF,H]
    congr 1
    rw [Bool.eq_iff_iff,Dv];simp)
theorem E9 (cs ds:List Aa):∀(j q:List (Nat×LK)),Da Γ cs ds (j++q)=AD (Da Γ cs ds j) fun e=>bif e then Da Γ cs ds q else some false
 |[],q=>rfl
 |o::j,q=>by
  show (AD (TC Γ cs ds o) fun e=>bif e then Da Γ cs ds (j++q)else some false)=AD (AD (TC Γ cs ds o) fun e=>bif e then Da Γ cs ds j else some false) _
  cases TC Γ cs ds o with
  |none=>rfl
  |some e=>
   cases e with
   |false=>rfl
   |true=>exact E9 cs ds j q
theorem Hw (k:Nat) (x y:List (Nat×LK)):Cs k (x++y)=Cs k x++Cs k y:=by simp [Cs]
theorem GM (k j:Nat) (x:List (Nat×LK)):Cs k (Cs j x)=Cs (k+j) x:=by
 unfold Cs;rw [List.map_map];apply List.map_congr_left;intro x _;simp [Nat.add_assoc]
theorem NI {n:Nat} {l:List (Nat×LK)} (h:below n l=true):∀x∈l,x.1<n:=fun x j=>by
 unfold below at h
 have:=List.all_eq_true.1 h x j
 exact Iv.1 this
structure YQ (X:Array Value) (base n:Nat) (Z:Array Value):Prop where
 cell:∀off,off<n->Z[off]?=X[base+off]?
 part:∀off m,off+m<=n->Z.extract off (off+m)=X.extract (base+off) (base+off+m)
theorem YQ.whole (X:Array Value) (n:Nat):YQ X 0 n X:=⟨fun j _=>by simp,fun j m _=>by simp⟩
theorem YQ.sub {X Z:Array Value} {q n:Nat} (h:YQ X q n Z) {j m:Nat} (z:j+m<=n):YQ X (q+j) m (Z.extract j (j+m)) where
 cell:=fun i x=>by
  rw [Array.getElem?_extract]
  by_cases hz:i<min (j+m) Z.size-j
  ·rw [if_pos hz,h.cell _ (by omega),Nat.add_assoc]
  ·rw [if_neg hz]
   have v:¬j+i<Z.size:=by omega
   have e:=h.cell (j+i) (by omega)
   rw [Array.getElem?_eq_none (by omega)]at e
   rw [Nat.add_assoc]
   exact e
 part:=fun i k A=>by
  rw [Array.extract_extract,show min (j+(i+k)) (j+m)=(j+i)+k by omega,h.part _ _ (by omega)]
  congr 1<;>omega
theorem Ve {d:Nat} {t:TypeId} {l:List (Nat×LK)} (h:leaves P d t=some l) (j:DT P t=some none):∃v,l=[(0,v)]:=by
 cases d with
 |zero=>simp [leaves]at h
 |succ d=>
  simp only [leaves]at h
  split at h
  ·simp only [oI]at h;exact ⟨_,h.symm⟩
  ·simp only [oI]at h;exact ⟨_,h.symm⟩
  ·simp only [oI]at h;exact ⟨_,h.symm⟩
  ·rename_i fs q
   unfold DT at j
   rw [q]at j
   cases e:P.info? t<;>rw [e]at j<;>simp at j
  ·rename_i k e q
   unfold DT at j
   rw [q]at j
   cases e:P.info? t<;>rw [e]at j<;>simp at j
  ·cases h
theorem VX {t:TypeId} {n:Nat} (q:AZ P t=some n) {d:Nat} {l:List (Nat×LK)} (h:leaves P d t=some l):DT P t=some none∨DT P t=some (some n):=by
 unfold AZ at q
 obtain ⟨i,v,e⟩:=mS q
 have j:∃u,P.underlying t=some u:=by
  cases j:P.underlying t with
  |some u=>exact ⟨u,rfl⟩
  |none=>
   cases d with
   |zero=>simp [leaves]at h
   |succ d=>simp [leaves,j]at h
 obtain ⟨u,j⟩:=j
 unfold DT
 rw [j,v]
 cases u<;>simp [e]
theorem J2 {t:TypeId} {X:Array Value} {j n:Nat} (B:AZ P t=some n):
  (∀m,DT P t=some (some m)->(part t X j).run P w=.ok (.agg (X.extract j (j+m))) w)/\
  (DT P t=some none->∀x,X[j]?=some x->(part t X j).run P w=.ok x w):=by
 refine ⟨fun m A=>?_,fun h x z=>?_⟩
 ·obtain ⟨q,v⟩:=Ek P w t A
  simp [part,q,v m rfl]
 ·obtain ⟨q,v⟩:=Ek P w t h
  simp [part,q,z]
structure Ad6 (P:Program) (X Y:Array Value) (base:Nat) (t:TypeId) (x y:Value):Prop where
 agg:∀n,DT P t=some (some n)->∃X' Y',x=.agg X'/\y=.agg Y'/\YQ X base n X'/\YQ Y base n Y'
 one:DT P t=some none->X[base]?=some x/\Y[base]?=some y
theorem J8 {X Y V Y':Array Value} {cs ds:List Aa} (hX:Av ρ μ cs X.toList) (hY:Av ρ μ ds Y.toList) {d:Nat} {t:TypeId} {l:List (Nat×LK)} {m n j z k:Nat} {e:Bool}
  (L:YQ X j n V) (M:YQ Y j n Y') (hl:leaves P d t=some l) (I:AZ P t=some m) (C:z+m<=n) (Q:∀x∈l,x.1<m)
  (R:Da Γ cs ds (Cs (j+z) l)=some e)
  (rec:∀(x y:Value),Ad6 P X Y (j+z) t x y->(Op.equalIn k t x y).run P w=.ok e w):
  ∃U py,(part t V z).run P w=.ok U w/\(part t Y' z).run P w=.ok py w/\(Op.equalIn k t U py).run P w=.ok e w:=by
 rcases VX I hl with ha|ha
 ·obtain ⟨lk,rfl⟩:=Ve hl ha
  have R:(AD (TC Γ cs ds (j+z+0,lk)) fun e=>bif e then some true else some false)=some e:=R
  obtain ⟨e',J,_⟩:=Ac R
  unfold TC at J
  obtain ⟨p,O,J⟩:=Ac J
  obtain ⟨q,N,_⟩:=Ac J
  rw [K2]at O N
  simp only [Nat.add_zero]at O N
  obtain ⟨u,A,_,_⟩:=hX.get O
  obtain ⟨v,B,_,_⟩:=hY.get N
  rw [Array.getElem?_toList]at A B
  have Z:=Q _ (List.mem_singleton.2 rfl)
  simp only at Z
  refine ⟨u,v,(J2 I).2 ha _ (by rw [L.cell _ (by omega)];exact A),(J2 I).2 ha _ (by rw [M.cell _ (by omega)];exact B),rec u v ⟨fun n hn=>?_,fun _=>⟨A,B⟩⟩⟩
  rw [ha]at hn;cases hn
 ·refine ⟨_,_,(J2 I).1 m ha,(J2 I).1 m ha,rec _ _ ⟨fun n' H=>?_,fun h=>?_⟩⟩
  ·rw [ha]at H
   simp only [oI]at H
   subst H
   exact ⟨_,_,rfl,rfl,L.sub C,M.sub C⟩
  ·rw [ha]at h;cases h
theorem LC {α:Type} {o:Option (List α)} {r:List (Option (List α))} {l:List α} (h:D6 (o::r)=some l):∃j q,o=some j/\D6 r=some q/\l=j++q:=by
 cases o with
 |none=>simp [D6]at h
 |some j=>
  simp only [D6]at h
  obtain ⟨q,x,v⟩:=mS h
  exact ⟨j,q,rfl,x,v.symm⟩
theorem GX {t:TypeId} {d:TypeDesc} (q:P.underlying t=some d) (h:(∀fs,d≠.struct fs)/\∀k e,d≠.array k e) (j:(P.info? t).isSome=true):DT P t=some none:=by
 obtain ⟨i,j⟩:=Option.isSome_iff_exists.1 j
 unfold DT
 rw [q,j]
 cases d<;>first|rfl|(exact absurd rfl (h.1 _)) |(exact absurd rfl (h.2 _ _))
theorem info_of_underlying {t:TypeId} {d:TypeDesc} (j:P.underlying t=some d):(P.info? t).isSome=true:=by
 unfold Program.underlying at j
 cases e:P.info? t with
 |none=>rw [e]at j;cases j
 |some i=>rfl
theorem TX {t:TypeId} {fs:Array Field} {n:Nat} (q:P.underlying t=some (.struct fs)) (j:AZ P t=some n):DT P t=some (some n):=by
 unfold AZ at j
 obtain ⟨i,v,e⟩:=mS j
 unfold DT
 rw [q,v]
 simp [e]
theorem VY {t e:TypeId} {k n:Nat} (q:P.underlying t=some (.array k e)) (j:AZ P t=some n):DT P t=some (some n):=by
 unfold AZ at j
 obtain ⟨i,v,e⟩:=mS j
 unfold DT
 rw [q,v]
 simp [e]
theorem Gr (hΓ:Γ.AI ρ) {X Y:Array Value} {cs ds:List Aa} (U:Av ρ μ cs X.toList) (hY:Av ρ μ ds Y.toList):
  ∀(d:Nat) (t:TypeId) (ls:List (Nat×LK)),leaves P d t=some ls->∀(k H:Nat) (x y:Value) (b:Bool),d<=k->Ad6 P X Y H t x y->
   Da Γ cs ds (Cs H ls)=some b->(Op.equalIn k t x y).run P w=.ok b w
 |0,t,ls,h,k,H,x,y,b,hk,hxy,I=>by simp [leaves]at h
 |d+1,t,ls,h,k,H,x,y,b,hk,hxy,I=>by
  obtain ⟨k,rfl⟩:∃k',k=k'+1:=⟨k-1,by omega⟩
  have C:∀(J:TypeDesc) (lk:LK),P.underlying t=some J->(∀fs,J≠.struct fs)/\(∀k e,J≠.array k e)->lk.fits J->ls=[(0,lk)]->(Op.equalIn (k+1) t x y).run P w=.ok b w:=fun J lk z aD hf hl=>by
   subst hl
   obtain ⟨hx,hy⟩:=hxy.one (GX z aD (info_of_underlying z))
   have I:(AD (TC Γ cs ds (H+0,lk)) fun e=>bif e then some true else some false)=some b:=I
   obtain ⟨e,A,h2⟩:=Ac I
   have hb:e=b:=by cases e<;>simpa using h2
   subst hb
   unfold TC at A
   obtain ⟨p,hp,A⟩:=Ac A
   obtain ⟨q,hq,A⟩:=Ac A
   rw [K2]at hp hq
   simp only [Nat.add_zero]at hp hq
   obtain ⟨u,ab,_,aB⟩:=U.get hp
   obtain ⟨v,ac,_,az⟩:=hY.get hq
   rw [Array.getElem?_toList,hx]at ab
   rw [Array.getElem?_toList,hy]at ac
   simp only [oI]at ab ac
   subst ab ac
   exact RL hΓ aB az A z hf k
  simp only [leaves]at h
  split at h
  ·rename_i z
   simp only [oI]at h
   exact C _ .bool z ⟨by simp,by simp⟩ rfl h.symm
  ·rename_i i z
   simp only [oI]at h
   exact C _ .int z ⟨by simp,by simp⟩ ⟨_,rfl⟩ h.symm
  ·rename_i z
   simp only [oI]at h
   exact C _ .str z ⟨by simp,by simp⟩ rfl h.symm
  ·
   rename_i fs z
   split at h
   ·cases h
   ·rename_i N
    have N:P.stoodInHeld t=false:=by simpa using N
    obtain ⟨n,hn⟩:∃n,AZ P t=some n:=by
     obtain ⟨i,M⟩:=Option.isSome_iff_exists.1 (info_of_underlying z)
     exact ⟨i.size,by simp [AZ,M]⟩
    obtain ⟨X',Y',rfl,rfl,R,aa⟩:=hxy.agg n (TX z hn)
    have ad:P.fieldsOf t=fs:=by simp [Program.fieldsOf,z]
    rw [run_equalIn_struct w k t _ _ (by rw [ad];exact z) N,ad]
    have V:d<=k:=by omega
    clear hxy C z ad N
    generalize fs.toList=fl at h
    induction fl generalizing ls b with
    |nil=>
     simp only [List.map_nil,D6,oI]at h
     subst h
     have I:some true=some b:=I
     simp only [oI]at I
     subst I
     simp [Op.eqFields]
    |cons f fl ih=>
     simp only [List.map_cons]at h
     obtain ⟨l1,l2,A,h2,rfl⟩:=LC h
     split at A
     ·cases A
     ·rename_i aj
      split at A
      ·rename_i l m hl hm
       split at A
       ·rename_i B
        simp only [oI]at A
        subst A
        rw [Hw,GM,E9]at I
        obtain ⟨e,al,O⟩:=Ac I
        have af:∃px py,(part f.type X' f.offset).run P w=.ok px w/\(part f.type Y' f.offset).run P w=.ok py w/\(Op.equalIn k f.type px py).run P w=.ok e w:=by
         rw [aT]at B
         have Z:f.offset+m<=n:=by
          have:=AP.1 B.2
          unfold AZ at hn
          simp only [Program.cellsOf,hn,Option.getD_some]at this
          exact this
         exact J8 U hY R aa hl hm Z (NI B.1) al fun x y A=>Gr hΓ U hY d f.type l hl k _ x y e V A al
        obtain ⟨px,py,r1,r2,r3⟩:=af
        simp only [Op.eqFields,if_pos (show f.name≠ "_" from aj)]
        simp only [Sem.run_bind,r1,Result.andThen_ok,r2,r3]
        cases e with
        |false=>
         simp only [cond_false,oI]at O
         subst O
         simp
        |true=>
         simp only [cond_true]at O
         simp only [Bool.not_true,Bool.false_eq_true,if_false]
         exact ih l2 b O h2
       ·cases A
      ·cases A
  ·
   rename_i len e z
   split at h
   ·rename_i l m hl hm
    split at h
    ·rename_i B
     simp only [oI]at h
     rw [aT]at B
     obtain ⟨n,hn⟩:∃n,AZ P t=some n:=by
      obtain ⟨i,M⟩:=Option.isSome_iff_exists.1 (info_of_underlying z)
      exact ⟨i.size,by simp [AZ,M]⟩
     obtain ⟨X',Y',rfl,rfl,R,aa⟩:=hxy.agg n (VY z hn)
     have Z:len*m<=n:=by
      have:=AP.1 B.2
      unfold AZ at hn
      simp only [Program.cellsOf,hn,Option.getD_some]at this
      exact this
     have V:d<=k:=by omega
     have hs:=Br (w:=w) hm
     simp only [Op.equalIn,Sem.run_bind,run_underlying z,Result.andThen_ok,hs]
     have key:∀(L:List Nat) (b:Bool),(∀i∈L,i<len)->Da Γ cs ds (Cs H (L.flatMap fun i=>Cs (i*m) l))=some b->
       (forIn L ((none,()):Option Bool×Unit) fun i (_:Option Bool×Unit)=>do
        let p<-part e X' (i*m)
        let q<-part e Y' (i*m)
        let r<-Op.equalIn k e p q
        if (!r)=true then pure (ForInStep.done (some false,()))else pure (ForInStep.yield (none,())):Sem (Option Bool×Unit)).run P w=.ok (if b then none else some false,()) w:=by
      intro L
      induction L with
      |nil=>
       intro b _ hb
       have hb:some true=some b:=hb
       simp only [oI]at hb
       subst hb
       simp
      |cons i L ih=>
       intro b hL hb
       rw [List.flatMap_cons,Hw,GM,E9]at hb
       obtain ⟨r,an,Q⟩:=Ac hb
       have M:i<len:=hL i List.mem_cons_self
       have aC:i*m+m<=n:=by
        have:=Nat.mul_le_mul_right m (show i+1<=len from M)
        rw [Nat.succ_mul]at this
        omega
       obtain ⟨px,py,r1,r2,r3⟩:=J8 (n:=n) (k:=k) (w:=w) U hY R aa hl hm aC (NI B.1) an fun x y A=>Gr hΓ U hY d e l hl k _ x y r V A an
       rw [List.forIn_cons]
       simp only [Sem.run_bind,r1,Result.andThen_ok,r2,r3]
       cases r with
       |false=>
        simp only [cond_false,oI]at Q
        subst Q
        simp
       |true=>
        simp only [cond_true]at Q
        simp only [Bool.not_true,Bool.false_eq_true,if_false,Sem.run_pure,Result.andThen_ok]
        exact ih b (fun j hj=>hL j (List.mem_cons_of_mem _ hj)) Q
     rw [Std.Legacy.Range.forIn_eq_forIn_range']
     have hr:List.range' 0 len 1=List.range len:=(List.range_eq_range' ..).symm
     simp only [Std.Legacy.Range.size,Nat.sub_zero,Nat.add_one_sub_one,Nat.div_one]
     rw [hr]
     have:=key (List.range len) b (fun i M=>List.mem_range.1 M) (by rw [h];exact I)
     rw [this]
     cases b<;>simp
    ·cases h
   ·cases h
  ·cases h
end
end
end Go.AM
