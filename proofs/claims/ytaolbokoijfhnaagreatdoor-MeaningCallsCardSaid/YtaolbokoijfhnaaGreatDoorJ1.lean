/- Part 1 of MeaningCalls. -/
import Derived.Orders
import Derived.Laws.Entries
import Derived.Laws.Strings
import Derived.Laws.StructEq
import Derived.Laws.Slices
import Derived.Laws.Strings2
import Derived.Laws.Unary
import Derived.Laws.Build
import Derived.Laws.Pointers
import Derived.WideLaws
import Derived.LaidEql
set_option linter.all false
namespace Go.AM
section
theorem oI {α:Type} {a b:α}:(some a=some b)=(a=b):=Option.some.injEq a b
theorem lA {α:Type} {a b:List α}:(a++b).length=a.length+b.length:=List.length_append
theorem lC {α:Type} {a:α} {b:List α}:(a::b).length=b.length+1:=List.length_cons
theorem lN {α:Type}:([]:List α).length=0:=List.length_nil
theorem lT' {α:Type} {n:Nat} {a:List α}:(a.take n).length=min n a.length:=List.length_take
theorem aT {a b:Bool}:((a&&b)=true)=(a=true/\b=true):=Bool.and_eq_true a b
theorem mS {α β:Type} {f:α->β} {o:Option α} {b:β} (h:o.map f=some b):∃a,o=some a/\f a=b:=Option.map_eq_some_iff.1 h
theorem cL {α:Type} {a b:List α} (h:a=b):a.length=b.length:=congrArg List.length h
noncomputable section
def ile:Int->Int->Bool
 |.ofNat a,.ofNat b=>Nat.ble a b
 |.negSucc _,.ofNat _=>true
 |.ofNat _,.negSucc _=>false
 |.negSucc a,.negSucc b=>Nat.ble b a
def Y8:Int->Int->Bool
 |.ofNat a,.ofNat b=>Nat.beq a b
 |.negSucc a,.negSucc b=>Nat.beq a b
 |_,_=>false
def ilt (a b:Int):Bool:=!(ile b a)
def UL:IntKind->Nat
 |.i8=>0|.i16=>1|.i32=>2|.i64=>3|.u8=>4|.u16=>5|.u32=>6|.u64=>7
def UM (a b:IntKind):Bool:=Nat.beq (UL a) (UL b)
def modulus:IntKind->Nat
 |.i8=>256|.u8=>256
 |.i16=>65536|.u16=>65536
 |.i32=>4294967296|.u32=>4294967296
 |.i64=>18446744073709551616|.u64=>18446744073709551616
def Fg (n:Int) (m:Nat):Nat:=
 match n with
 |.ofNat a=>a%m
 |.negSucc a=>m-1-a%m
def HX:IntKind->Bool
 |.i8=>true|.i16=>true|.i32=>true|.i64=>true
 |.u8=>false|.u16=>false|.u32=>false|.u64=>false
def back (k:IntKind) (m:Nat):Int:=
 bif HX k&&Nat.ble (modulus k) (m+m)then .negSucc (modulus k-1-m)else .ofNat m
def KS (k:IntKind) (n:Int):Int:=back k (Fg n (modulus k))
def W0 (op:BinOp) (m a b:Nat):Nat:=
 match op with
 |.and=>Nat.land a b
 |.or=>Nat.lor a b
 |.xor=>Nat.xor a b
 |_=>Nat.land a (m-1-b)
def Nz (op:BinOp) (k:IntKind) (x y:Int):Int:=
 back k (W0 op (modulus k) (Fg x (modulus k)) (Fg y (modulus k)))
def XF:BinOp->Nat
 |.add=>0|.sub=>1|.mul=>2|.quo=>3|.rem=>4|.and=>5|.or=>6|.xor=>7|.shl=>8|.shr=>9|.andNot=>10
 |.eql=>11|.neq=>12|.lss=>13|.leq=>14|.gtr=>15|.geq=>16
def NR (a b:BinOp):Bool:=Nat.beq (XF a) (XF b)
def beq (a b:Bool):Bool:=bif a then b else !b
def AA {α β:Type} (o:Option α) (f:α->Option β):Option β:=
 Option.casesOn (motive:=fun _=>Option β) o none f
inductive ST where
 |lit (n:Int)
 |var (i:Nat)
 |bin (op:BinOp) (k:IntKind) (a b:ST)
 |conv (k:IntKind) (a:ST)
inductive SB where
 |lit (b:Bool)
 |cmp (op:BinOp) (a b:ST)
 |no (a:SB)
def ST.eq:ST->ST->Bool
 |.lit a,.lit b=>Y8 a b
 |.var i,.var j=>Nat.beq i j
 |.bin o k a b,.bin o' k' a' b'=>NR o o'&&UM k k'&&a.eq a'&&b.eq b'
 |.conv k a,.conv k' a'=>UM k k'&&a.eq a'
 |_,_=>false
def SB.eq:SB->SB->Bool
 |.lit a,.lit b=>beq a b
 |.cmp o a b,.cmp o' a' b'=>NR o o'&&a.eq a'&&b.eq b'
 |.no a,.no b=>a.eq b
 |_,_=>false
inductive Aa where
 |any
 |bool (b:SB)
 |int (k:IntKind) (n:ST)
 |str (s:List Nat)
 |ptr (b off:Nat)
 |nilPtr
 |slice (b off len cap:Nat)
 |gslice (b off len es:Nat)
 |nilSlice
 |map (b:Nat)
 |nilMap
 |func (f:FuncId) (first captured:List Aa)
 |nilFunc
 |iface (t:TypeId) (v:Aa)
 |nilIface
 |agg (cells:List Aa)
 |tuple (vs:List Aa)
 |anyStr (n:Nat)
 |gbytes (b:Nat)
 |glen (b:Nat)
 |svar (i:Nat)
 |lst (full:Bool) (i es:Nat) (n:ST)
 |lptr (i:Nat) (j:ST) (off:Nat)
 |vec (b es:Nat) (n:ST)
 |vptr (b es:Nat) (j:ST) (off:Nat)
def Aa.single (v:Aa):Bool:=
 match v with
 |.agg _=>false
 |.tuple _=>false
 |.any=>false
 |_=>true
def Aa.cells (v:Aa):Option (List Aa):=
 match v with
 |.agg cs=>some cs
 |.tuple _=>none
 |.any=>none
 |v=>some [v]
def lit (k:IntKind) (n:Int):Aa:=.int k (.lit n)
def yes:Aa:=.bool (.lit true)
structure Entry where
 key:Aa
 val:Aa
 born:Nat
inductive Block where
 |cells (vs:List Aa)
 |map (es:List Entry) (clock:Nat)
 |typed (e:Nat) (vs:List Aa)
 |bytes (n e:Nat)
 |sbytes (n:ST) (e:Nat)
 |list (i es:Nat)
 |smap (i:Nat)
structure B4 where
 id:Nat
 Xr:List (Nat×Aa)
 pre:List Block
 NM:List (Nat×Aa)
 post:List (Option Block)
 df:List (FuncId×List Aa):=[]
 out:Bool:=false
inductive AE where
 |els (es:List (List Aa))
 |all (i:Nat)
 |take (i:Nat) (n:ST)
 |drop (i:Nat) (n:ST)
structure Ap where
 DJ:List (ST×Int):=[]
 tests:List (BinOp×ST×ST×Bool):=[]
 strs:List (Aa×Aa×Bool):=[]
 E3:List (Aa×Aa×Aa):=[]
 BQ:List (Nat×ST×Nat×Nat):=[]
 Bc:List (Nat×ST):=[]
 elems:List (Nat×ST×List Aa):=[]
 defs:List (Nat×List AE):=[]
 looks:List (Nat×Aa×Option (List Aa)):=[]
 Lx:List (Nat×Aa×List Aa×Nat):=[]
 C8:List (ST×Nat×ST):=[]
 C6:List (Nat×List (Aa×List Aa)):=[]
 Od:List (Nat×Nat×Nat×Nat×Nat):=[]
 loops:List B4:=[]
def J3:List (ST×Int)->ST->Option Int
 |[],_=>none
 |(t,n)::r,x=>bif t.eq x then some n else J3 r x
def BS:List (BinOp×ST×ST×Bool)->BinOp->ST->ST->Option Bool
 |[],_,_,_=>none
 |(o,s,t,v)::r,op,a,b=>bif NR o op&&s.eq a&&t.eq b then some v else BS r op a b
def numOf (Γ:Ap) (t:ST):ST:=
 match J3 Γ.DJ t with
 |some n=>.lit n
 |none=>t
def RH (op:BinOp) (k:IntKind) (a b:Int):Option Int:=
 match op with
 |.add=>some (KS k (a+b))
 |.sub=>some (KS k (a-b))
 |.mul=>some (KS k (a*b))
 |.quo=>bif Y8 b 0 then none else some (KS k (a.tdiv b))
 |.rem=>bif Y8 b 0 then none else some (a.tmod b)
 |.and=>some (Nz .and k a b)
 |.or=>some (Nz .or k a b)
 |.xor=>some (Nz .xor k a b)
 |.andNot=>some (Nz .andNot k a b)
 |_=>none
def Acm (op:BinOp) (a b:Int):Option Bool:=
 match op with
 |.eql=>some (Y8 a b)
 |.neq=>some (!(Y8 a b))
 |.lss=>some (ilt a b)
 |.leq=>some (ile a b)
 |.gtr=>some (ilt b a)
 |.geq=>some (ile b a)
 |_=>none
def Me (op:BinOp) (k:IntKind) (x:Int) (n:Nat):Option Int:=
 match op with
 |.shl=>some (KS k (x*Int.ofNat (2^n)))
 |.shr=>some (x.fdiv (Int.ofNat (2^n)))
 |_=>none
def Qu (op:BinOp) (k:IntKind) (x y:Int):Option Int:=
 match y with
 |.negSucc _=>none
 |.ofNat y=>Me op k x (bif Nat.ble y k.bits then y else k.bits)
def total (op:BinOp) (b:ST):Bool:=
 match op with
 |.add=>true|.sub=>true|.mul=>true|.and=>true|.or=>true|.xor=>true|.andNot=>true
 |.quo=>(match b with|.lit n=>!(Y8 n 0) |_=>false)
 |.rem=>(match b with|.lit n=>!(Y8 n 0) |_=>false)
 |_=>false
def WV (Γ:Ap) (op:BinOp) (b:ST):Bool:=
 match op with
 |.quo=>(match BS Γ.tests .eql b (.lit 0)with|some v=>!v|none=>false)
 |.rem=>(match BS Γ.tests .eql b (.lit 0)with|some v=>!v|none=>false)
 |_=>false
def V9 (Γ:Ap) (op:BinOp) (k:IntKind) (a b:ST):Option ST:=
 bif total op b||WV Γ op b then some (numOf Γ (.bin op k a b))else none
def arith (Γ:Ap) (op:BinOp) (k:IntKind) (a b:ST):Option ST:=
 match a,b with
 |.lit x,.lit y=>AA (RH op k x y) fun n=>some (.lit n)
 |a,b=>V9 Γ op k a b
def Ft (op:BinOp):Bool:=Nat.ble 11 (XF op)
def Nl (Γ:Ap) (op:BinOp) (a b:ST):Option SB:=
 bif Ft op then (match BS Γ.tests op a b with|some v=>some (.lit v) |none=>some (.cmp op a b))else none
def compare (Γ:Ap) (op:BinOp) (a b:ST):Option SB:=
 match a,b with
 |.lit x,.lit y=>AA (Acm op x y) fun v=>some (.lit v)
 |a,b=>Nl Γ op a b
def convert (Γ:Ap) (k:IntKind) (a:ST):ST:=
 match a with
 |.lit x=>.lit (KS k x)
 |a=>numOf Γ (.conv k a)
inductive Tr (α:Type) where
 |nil
 |node (v:Option α) (l r:Tr α)
 |over (n:Nat) (v:Option α) (t:Tr α)
def Tr.get {α:Type} (t:Tr α):Nat->Option α:=
 Tr.rec (motive:=fun _=>Nat->Option α) (fun _=>none)
  (fun v _ _ j q n=>bif Nat.beq n 0 then v else bif Nat.beq (n%2) 1 then j (n/2)else q (n/2-1))
  (fun m v _ gt n=>bif Nat.beq n m then v else gt n) t
def Tr.set {α:Type} (t:Tr α):Nat->Option α->Tr α:=
 Tr.rec (motive:=fun _=>Nat->Option α->Tr α) (fun n x=>.over n x .nil)
  (fun v l r sl j n x=>bif Nat.beq n 0 then .node x l r else bif Nat.beq (n%2) 1 then .node v (sl (n/2) x) r else .node v l (j (n/2-1) x))
  (fun m v t q n x=>bif Nat.beq n m then .over m x t else .over m v (q n x)) t
def Tr.full (α:Type) (n:Nat):Tr α:=
 Nat.rec (motive:=fun _=>Tr α) .nil (fun _ ih=>.node none ih ih) n
structure Ak where
 DD:Tr Block
 next:Nat
 fx:Ap:={}
def Ak.get (h:Ak) (b:Nat):Option Block:=Tr.get h.DD b
def Ak.set (h:Ak) (b:Nat) (o:Option Block):Ak:=⟨Tr.set h.DD b o,h.next,h.fx⟩
def Ak.add (h:Ak) (B:Block):Ak:=⟨Tr.set h.DD h.next (some B),h.next+1,h.fx⟩
inductive Ct where
 |tmp (t:Nat)
 |con (v:Aa)
inductive LK where
 |bool
 |int
 |str
structure Co where
 t:Nat
 agg:Bool
 SF:List (Nat×LK)
inductive EqK where
 |plain (SF:List (Nat×LK))
 |iface (nils:Bool) (ts:List Co)
 |ptr
 |slice
 |map
 |func
 |bool
inductive POp where
 |mv (x:Ct)
 |pick (c a b:Ct)
 |build (zero:List Aa) (parts:List (Nat×Nat×Ct))
 |Ahi (x:Ct)
 |bin (op:BinOp) (x y:Ct)
 |eqs (neg:Bool) (k:EqK) (x y:Ct)
 |un (op:UnOp) (x:Ct)
 |conv (k:IntKind) (x:Ct)
 |same (x:Ct)
 |iface (t:TypeId) (x:Ct)
 |func (f:FuncId) (first captured:List Ct)
 |subs (x:Ct) (lo hi:Option Ct)
 |reslice (size:Nat) (x:Ct) (lo hi mx:Option Ct)
 |Vi (off:Nat) (x:Ct)
 |field (off:Nat) (n:Option Nat) (x:Ct)
 |Ahs (size:Nat) (x i:Ct)
 |UO (len size:Nat) (x i:Ct)
 |idx (len size:Nat) (n:Option Nat) (x i:Ct)
 |Ahr (x i:Ct)
 |ext (x:Ct) (i:Nat)
 |Ahm (x:Ct)
 |Ahn (x:Ct)
 |big (most:Bool) (xs:List Ct)
 |assert (t:TypeId) (zero:Option Aa) (x:Ct)
 |AaJ (x:Ct)
inductive NJ where
 |load (n:Option Nat) (x:Ct)
 |lookup (kk:LK) (zero:Aa) (ok:Bool) (x k:Ct)
 |lenM (x:Ct)
 |uptr (ok:List (Nat×Nat)) (x:Ct)
 |bstr (x:Ct)
inductive AOp where
 |box (t:Option Nat) (x:Ct)
 |zero (t:Option Nat) (cells:List Aa)
 |bslice (len:Nat) (zero:List Aa) (parts:List (Nat×Nat×Ct))
 |mkSlice (zero:List Aa) (l c:Ct)
 |mkMap
inductive MOp where
 |store (n:Nat) (a x:Ct)
 |call (f:Ct) (args:List Ct)
 |append (size:Nat) (u8:Option Nat) (bytes:Bool) (x y:Ct)
 |copy (size:Nat) (bytes:Bool) (x y:Ct)
 |mapUp (kk:LK) (m k v:Ct)
 |clone (x:Ct)
 |panic (x:Ct)
 |defer (f:Ct) (args:List Ct)
 |recover
 |AeO (e:Nat) (p n:Ct)
 |Abw (x:Ct)
inductive DC where
 |p (o:POp)
 |r (o:NJ)
 |a (o:AOp)
 |m (o:MOp)
structure Step where
 dst:Option Nat
 guard:Option (Nat×Bool)
 op:DC
 back:Nat
inductive IC where
 |skip
 |region (draw:Bool) (steps:List Step)
 |seq (a b:IC)
 |cond (c:Ct) (t e:IC)
 |block (id:Nat) (b:IC)
 |loop (b:IC)
 |exit (id:Nat)
 |ret
inductive RO where
 |tmp (t:Nat)
 |cell (t:Nat) (n:Option Nat)
structure Eu where
 depth:Nat
 results:List RO
 body:IC
def CN (o:Option Bool):Bool:=
 match o with
 |some true=>true
 |_=>false
def Em (o:Option Aa):Aa:=
 match o with
 |some v=>v
 |none=>.any
def ev (tm:Tr Aa) (x:Ct):Aa:=
 match x with
 |.tmp t=>Em (Tr.get tm t)
 |.con v=>v
def RR (tm:Tr Aa) (l:List Ct):List Aa:=
 List.rec (motive:=fun _=>List Aa) [] (fun x _ ih=>ev tm x::ih) l
def over (vs:List Aa):List Aa->Option (List Aa):=
 List.rec (motive:=fun _=>List Aa->Option (List Aa)) (fun j=>some j)
  (fun v _ ih j=>List.casesOn (motive:=fun _=>Option (List Aa)) j none (fun _ j=>AA (ih j) fun r=>some (v::r))) vs
def splice (vs:List Aa) (i:Nat):List Aa->Option (List Aa):=
 Nat.rec (motive:=fun _=>List Aa->Option (List Aa)) (fun j=>over vs j)
  (fun _ ih j=>List.casesOn (motive:=fun _=>Option (List Aa)) j none
   (fun x j=>AA (ih j) fun r=>some (x::r))) i
def taken (n:Nat):List Aa->Option (List Aa):=
 Nat.rec (motive:=fun _=>List Aa->Option (List Aa)) (fun _=>some [])
  (fun _ ih j=>List.casesOn (motive:=fun _=>Option (List Aa)) j none (fun x j=>AA (ih j) fun r=>some (x::r))) n
def dropped (n:Nat):List Aa->List Aa:=
 Nat.rec (motive:=fun _=>List Aa->List Aa) (fun j=>j) (fun _ ih j=>List.casesOn (motive:=fun _=>List Aa) j [] (fun _ j=>ih j)) n
def nth (l:List Aa):Nat->Option Aa:=
 List.rec (motive:=fun _=>Nat->Option Aa) (fun _=>none) (fun x _ ih n=>Nat.casesOn (motive:=fun _=>Option Aa) n (some x) (fun n=>ih n)) l
def Bc (l:List Aa):Nat:=
 List.rec (motive:=fun _=>Nat) 0 (fun _ _ ih=>ih+1) l
def rep (zero:List Aa) (n:Nat):List Aa:=
 Nat.rec (motive:=fun _=>List Aa) [] (fun _ ih=>zero++ih) n
def cut (j:List Aa) (i n:Nat):Option (List Aa):=taken n (dropped i j)
def Fw (cs:List Aa) (v:Aa) (j size:Nat):Option (List Aa):=
 AA v.cells fun vs=>bif Nat.beq (Bc vs) size then splice vs j cs else none
def H8 (tm:Tr Aa) (ps:List (Nat×Nat×Ct)):List Aa->Option (List Aa):=
 List.rec (motive:=fun _=>List Aa->Option (List Aa)) (fun cs=>some cs) (fun p _ ih cs=>AA (Fw cs (ev tm p.2.2) p.1 p.2.1) ih) ps
def Ot (x:List Nat):List Nat->Bool:=
 List.rec (motive:=fun _=>List Nat->Bool) (fun y=>List.casesOn (motive:=fun _=>Bool) y true (fun _ _=>false))
  (fun a _ ih y=>List.casesOn (motive:=fun _=>Bool) y false (fun b y=>Nat.beq a b&&ih y)) x
def ltL (x:List Nat):List Nat->Bool:=
 List.rec (motive:=fun _=>List Nat->Bool) (fun y=>List.casesOn (motive:=fun _=>Bool) y false (fun _ _=>true))
  (fun a _ ih y=>List.casesOn (motive:=fun _=>Bool) y false (fun b y=>Nat.blt a b||(Nat.beq a b&&ih y))) x
def Ip (l:List Nat):Nat:=
 List.rec (motive:=fun _=>Nat) 0 (fun _ _ ih=>ih+1) l
def Ca (l:List Nat):Nat->Option Nat:=
 List.rec (motive:=fun _=>Nat->Option Nat) (fun _=>none) (fun x _ ih n=>Nat.casesOn (motive:=fun _=>Option Nat) n (some x) (fun n=>ih n)) l
def U6 (n:Nat):List Nat->Option (List Nat):=
 Nat.rec (motive:=fun _=>List Nat->Option (List Nat)) (fun _=>some [])
  (fun _ ih j=>List.casesOn (motive:=fun _=>Option (List Nat)) j none (fun x j=>AA (ih j) fun r=>some (x::r))) n
def M3 (n:Nat):List Nat->List Nat:=
 Nat.rec (motive:=fun _=>List Nat->List Nat) (fun j=>j) (fun _ ih j=>List.casesOn (motive:=fun _=>List Nat) j [] (fun _ j=>ih j)) n
def Aa.eqC (x y:Aa):Bool:=
 match x,y with
 |.bool a,.bool b=>a.eq b
 |.int k a,.int k' b=>UM k k'&&a.eq b
 |.str a,.str b=>Ot a b
 |.ptr a b,.ptr c d=>Nat.beq a c&&Nat.beq b d
 |.nilPtr,.nilPtr=>true
 |.slice a b c d,.slice a' b' c' d'=>Nat.beq a a'&&Nat.beq b b'&&Nat.beq c c'&&Nat.beq d d'
 |.gslice a b c d,.gslice a' b' c' d'=>Nat.beq a a'&&Nat.beq b b'&&Nat.beq c c'&&Nat.beq d d'
 |.nilSlice,.nilSlice=>true
 |.map a,.map b=>Nat.beq a b
 |.nilMap,.nilMap=>true
 |.nilFunc,.nilFunc=>true
 |.nilIface,.nilIface=>true
 |.anyStr n,.anyStr n'=>Nat.beq n n'
 |.gbytes b,.gbytes b'=>Nat.beq b b'
 |.glen b,.glen b'=>Nat.beq b b'
 |.svar i,.svar j=>Nat.beq i j
 |.lst f i e n,.lst f' i' e' n'=>beq f f'&&(Nat.beq i i'&&(Nat.beq e e'&&n.eq n'))
 |.lptr i j o,.lptr i' j' o'=>Nat.beq i i'&&(j.eq j'&&Nat.beq o o')
 |.vec b e n,.vec b' e' n'=>Nat.beq b b'&&(Nat.beq e e'&&n.eq n')
 |.vptr b e j o,.vptr b' e' j' o'=>Nat.beq b b'&&(Nat.beq e e'&&(j.eq j'&&Nat.beq o o'))
 |_,_=>false
def Aa.AdH (x:List Aa):List Aa->Bool:=
 List.rec (motive:=fun _=>List Aa->Bool) (fun y=>List.casesOn (motive:=fun _=>Bool) y true (fun _ _=>false))
  (fun a _ ih y=>List.casesOn (motive:=fun _=>Bool) y false (fun b y=>a.eqC b&&ih y)) x
def Aa.eq (x y:Aa):Bool:=
 match x,y with
 |.func f a c,.func f' a' c'=>Nat.beq f f'&&(Aa.AdH a a'&&Aa.AdH c c')
 |x,y=>x.eqC y
def Aa.Po (x:List Aa):List Aa->Bool:=
 List.rec (motive:=fun _=>List Aa->Bool) (fun y=>List.casesOn (motive:=fun _=>Bool) y true (fun _ _=>false))
  (fun a _ ih y=>List.casesOn (motive:=fun _=>Bool) y false (fun b y=>a.eq b&&ih y)) x
def M7 (x y:Aa) (l:List (Aa×Aa×Bool)):Option Bool:=
 List.rec (motive:=fun _=>Option Bool) none (fun e _ ih=>bif x.eq e.1&&y.eq e.2.1 then some e.2.2 else ih) l
def AbA (x y:Aa) (l:List (Aa×Aa×Aa)):Option Aa:=
 List.rec (motive:=fun _=>Option Aa) none (fun e _ ih=>bif x.eq e.1&&y.eq e.2.1 then some e.2.2 else ih) l
def WB (i:Nat) (l:List (Nat×ST×Nat×Nat)):Option (ST×Nat×Nat):=
 List.rec (motive:=fun _=>Option (ST×Nat×Nat)) none (fun e _ ih=>bif Nat.beq e.1 i then some e.2 else ih) l
def EA (i:Nat) (l:List (Nat×ST)):Option ST:=
 List.rec (motive:=fun _=>Option ST) none (fun e _ ih=>bif Nat.beq e.1 i then some e.2 else ih) l
def OT (i:Nat) (t:ST) (l:List (Nat×ST×List Aa)):Option (List Aa):=
 List.rec (motive:=fun _=>Option (List Aa)) none (fun e _ ih=>bif Nat.beq e.1 i&&e.2.1.eq t then some e.2.2 else ih) l
def Ab8 (i:Nat) (k:Aa) (l:List (Nat×Aa×Option (List Aa))):Option (Option (List Aa)):=
 List.rec (motive:=fun _=>Option (Option (List Aa))) none (fun e _ ih=>bif Nat.beq e.1 i&&k.eq e.2.1 then some e.2.2 else ih) l
def Ab7 (i:Nat) (k:Aa) (cs:List Aa) (l:List (Nat×Aa×List Aa×Nat)):Option Nat:=
 List.rec (motive:=fun _=>Option Nat) none (fun e _ ih=>bif Nat.beq e.1 i&&(k.eq e.2.1&&Aa.Po cs e.2.2.1)then some e.2.2.2 else ih) l
def AbB (t:ST) (n:Nat) (l:List (ST×Nat×ST)):Option ST:=
 List.rec (motive:=fun _=>Option ST) none (fun e _ ih=>bif t.eq e.1&&Nat.ble n e.2.1 then some e.2.2 else ih) l
def Ahz (x:List (List Aa)):List (List Aa)->Bool:=
 List.rec (motive:=fun _=>List (List Aa)->Bool) (fun y=>List.casesOn (motive:=fun _=>Bool) y true (fun _ _=>false))
  (fun a _ ih y=>List.casesOn (motive:=fun _=>Bool) y false (fun b y=>Aa.Po a b&&ih y)) x
def AE.eq (x y:AE):Bool:=
 match x,y with
 |.els a,.els b=>Ahz a b
 |.all i,.all j=>Nat.beq i j
 |.take i n,.take j m=>Nat.beq i j&&n.eq m
 |.drop i n,.drop j m=>Nat.beq i j&&n.eq m
 |_,_=>false
def AE.Po (x:List AE):List AE->Bool:=
 List.rec (motive:=fun _=>List AE->Bool) (fun y=>List.casesOn (motive:=fun _=>Bool) y true (fun _ _=>false))
  (fun a _ ih y=>List.casesOn (motive:=fun _=>Bool) y false (fun b y=>a.eq b&&ih y)) x
def J4 (p:List AE) (l:List (Nat×List AE)):Option Nat:=
 List.rec (motive:=fun _=>Option Nat) none (fun e _ ih=>bif AE.Po p e.2 then some e.1 else ih) l
def C0 (Γ:Ap) (op:BinOp) (a b:ST):Bool:=
 match compare Γ op a b with
 |some (.lit v)=>v
 |_=>false
def TK (op:BinOp) (a b:List Nat):Option Aa:=
 match op with
 |.eql=>some (.bool (.lit (Ot a b)))
 |.neq=>some (.bool (.lit (!(Ot a b))))
 |.lss=>some (.bool (.lit (ltL a b)))
 |.leq=>some (.bool (.lit (ltL a b||Ot a b)))
 |.gtr=>some (.bool (.lit (!(ltL a b||Ot a b))))
 |.geq=>some (.bool (.lit (!(ltL a b))))
 |.add=>bif Nat.ble (Ip a+Ip b) 1048576 then some (.str (a++b))else none
 |_=>none
def DK (op:BinOp):Bool:=
 match op with
 |.shl=>true
 |.shr=>true
 |_=>false
def natural (Γ:Ap) (b:ST):Bool:=
 match b with
 |.lit n=>ile (.ofNat 0) n
 |b=>CN (BS Γ.tests .geq b (.lit (.ofNat 0)))
def Aa9 (Γ:Ap) (op:BinOp) (k:IntKind) (a b:ST):Option Aa:=
 bif natural Γ b then some (.int k (numOf Γ (.bin op k a b)))else none
def AaA (Γ:Ap) (op:BinOp) (k:IntKind) (a b:ST):Option Aa:=
 match a,b with
 |.lit a,.lit b=>AA (Qu op k a b) fun n=>some (.int k (.lit n))
 |a,b=>Aa9 Γ op k a b
def Amh (Γ:Ap) (op:BinOp) (k j:IntKind) (a b:ST):Option Aa:=
 bif DK op then AaA Γ op k a b
 else bif !(UM k j)then none
 else bif Ft op then AA (compare Γ op a b) fun v=>some (.bool v)
 else AA (arith Γ op k a b) fun n=>some (.int k n)
def Acv (Γ:Ap) (op:BinOp) (x y:Aa):Option Aa:=
 match op with
 |.eql=>AA (M7 x y Γ.strs) fun v=>some (.bool (.lit v))
 |.neq=>AA (M7 x y Γ.strs) fun v=>some (.bool (.lit (!v)))
 |.add=>AbA x y Γ.E3
 |_=>none
def AhF (Γ:Ap) (op:BinOp) (x y:Aa):Option Aa:=
 match x,y with
 |.int k a,.int k' b=>Amh Γ op k k' a b
 |.str a,.str b=>TK op a b
 |.svar i,.str b=>Acv Γ op (.svar i) (.str b)
 |.str a,.svar j=>Acv Γ op (.str a) (.svar j)
 |.svar i,.svar j=>Acv Γ op (.svar i) (.svar j)
 |_,_=>none
def Ahl (b:Option SB):Option Bool:=
 match b with
 |some (.lit v)=>some v
 |_=>none
def IV (Γ:Ap) (k:LK) (x y:Aa):Option Bool:=
 match k,x,y with
 |.int,.int k a,.int k' b=>bif UM k k' then Ahl (compare Γ .eql a b)else none
 |.bool,.bool (.lit a),.bool (.lit b)=>some (beq a b)
 |.str,.str a,.str b=>some (Ot a b)
 |.str,.svar i,.str b=>M7 (.svar i) (.str b) Γ.strs
 |.str,.str a,.svar j=>M7 (.str a) (.svar j) Γ.strs
 |.str,.svar i,.svar j=>M7 (.svar i) (.svar j) Γ.strs
 |_,_,_=>none
def Tm (Γ:Ap) (x y:List Aa) (o:Nat×LK):Option Bool:=
 AA (nth x o.1) fun a=>AA (nth y o.1) fun b=>IV Γ o.2 a b
def CZ (Γ:Ap) (x y:List Aa) (l:List (Nat×LK)):Option Bool:=
 List.rec (motive:=fun _=>Option Bool) (some true) (fun o _ ih=>AA (Tm Γ x y o) fun e=>bif e then ih else some false) l
def Ab9 (t:Nat) (l:List Co):Option Co:=
 List.rec (motive:=fun _=>Option Co) none (fun a _ ih=>bif Nat.beq a.t t then some a else ih) l
def Rv (Γ:Ap) (SF:List (Nat×LK)) (x y:Aa):Option Bool:=
 match x,y with
 |.agg xs,.agg ys=>CZ Γ xs ys SF
 |_,_=>none
def K1 (v:Aa):Bool:=
 match v with
 |.agg _=>true
 |_=>false
def WS (Γ:Ap) (h:Co) (a b:Aa):Option Bool:=
 bif beq (K1 a) h.agg&&beq (K1 b) h.agg then AA a.cells fun a=>AA b.cells fun b=>CZ Γ a b h.SF else none
def Ace (Γ:Ap) (ts:List Co) (t u:Nat) (a b:Aa):Option Bool:=
 bif Nat.beq t u then (AA (Ab9 t ts) fun h=>WS Γ h a b)else some false
def Ry (Γ:Ap) (j:Bool) (ts:List Co) (x y:Aa):Option Bool:=
 match x,y with
 |.iface t a,.iface u b=>Ace Γ ts t u a b
 |.nilIface,.nilIface=>bif j then some true else none
 |.nilIface,.iface _ _=>some false
 |.iface _ _,.nilIface=>some false
 |_,_=>none
def Acb (x y:Aa):Option Bool:=
 match x,y with
 |.nilPtr,.nilPtr=>some true
 |.nilPtr,.ptr _ _=>some false
 |.ptr _ _,.nilPtr=>some false
 |.ptr b o,.ptr b' o'=>bif Nat.beq b b'&&Nat.beq o o' then some true else none
 |_,_=>none
def Rt (x y:Aa):Option Bool:=
 match x,y with
 |.nilSlice,.nilSlice=>some true
 |.slice _ _ _ _,.nilSlice=>some false
 |.nilSlice,.slice _ _ _ _=>some false
 |.gslice _ _ _ _,.nilSlice=>some false
 |.nilSlice,.gslice _ _ _ _=>some false
 |_,_=>none
def Acd (x y:Aa):Option Bool:=
 match x,y with
 |.nilMap,.nilMap=>some true
 |.map _,.nilMap=>some false
 |.nilMap,.map _=>some false
 |_,_=>none
def Vl (x y:Aa):Option Bool:=
 match x,y with
 |.nilFunc,.nilFunc=>some true
 |.func _ _ _,.nilFunc=>some false
 |.nilFunc,.func _ _ _=>some false
 |_,_=>none
def Vm (x y:Aa):Option Bool:=
 match x,y with
 |.bool (.lit a),.bool (.lit b)=>some (beq a b)
 |_,_=>none
def eqA (Γ:Ap) (k:EqK) (x y:Aa):Option Bool:=
 match k with
 |.plain SF=>Rv Γ SF x y
 |.iface nils ts=>Ry Γ nils ts x y
 |.ptr=>Acb x y
 |.slice=>Rt x y
 |.map=>Acd x y
 |.func=>Vl x y
 |.bool=>Vm x y
def unA (Γ:Ap) (op:UnOp) (x:Aa):Option Aa:=
 match op,x with
 |.neg,.int k a=>AA (arith Γ .sub k (.lit (.ofNat 0)) a) fun n=>some (.int k n)
 |.xor,.int k a=>AA (arith Γ .xor k (.lit (bif HX k then .negSucc 0 else .ofNat (modulus k-1))) a) fun n=>some (.int k n)
 |.not,.bool (.lit b)=>some (.bool (.lit (!b)))
 |.not,.bool b=>some (.bool (.no b))
 |_,_=>none
def C5 (x:Aa):Option Nat:=
 match x with
 |.int _ (.lit (.ofNat n))=>some n
 |_=>none
def Cd (tm:Tr Aa) (d:Nat) (x:Option Ct):Option Nat:=
 match x with
 |none=>some d
 |some x=>C5 (ev tm x)
def Adw (tm:Tr Aa) (x:Option Ct):Option (Option Nat):=
 match x with
 |none=>none
 |some x=>some (C5 (ev tm x))
def V8 (Γ:Ap) (most:Bool) (a b:Aa):Option Aa:=
 match a,b with
 |.int k a,.int k' b=>bif UM k k' then (match (bif most then compare Γ .lss a b else compare Γ .lss b a)with|some (.lit c)=>some (.int k (bif c then b else a)) |_=>none)else none
 |_,_=>none
def AdV (Γ:Ap) (most:Bool) (l:List Aa):Aa->Option Aa:=
 List.rec (motive:=fun _=>Aa->Option Aa) (fun a=>some a) (fun b _ ih a=>AA (V8 Γ most a b) ih) l
def Abi (c a b:Aa):Option Aa:=
 match c with
 |.bool (.lit v)=>some (bif v then a else b)
 |_=>none
def Nw (cs:Option (List Aa)):Option Aa:=AA cs fun cs=>some (.agg cs)
def Abz (x:Aa):Option Aa:=
 match x with
 |.ptr b o=>some (.ptr b o)
 |.func f a c=>some (.func f a c)
 |.lptr i j o=>some (.lptr i j o)
 |.vptr b e j o=>some (.vptr b e j o)
 |_=>none
def IT (Γ:Ap) (j:Bool) (k:EqK) (x y:Aa):Option Aa:=
 AA (eqA Γ k x y) fun b=>some (.bool (.lit (bif j then !b else b)))
def Ack (Γ:Ap) (k:IntKind) (x:Aa):Option Aa:=
 match x with
 |.int _ n=>some (.int k (convert Γ k n))
 |_=>none
def AaK (x:Aa):Option Aa:=
 match x with
 |.str s=>some (.str s)
 |_=>none
def Aej (s:List Nat) (l h n:Nat):Option Aa:=
 bif Nat.ble l h&&Nat.ble h n then AA (U6 (h-l) (M3 l s)) fun r=>some (.str r)else none
def ZN (x:Aa) (lo:Option Nat) (j:Nat->Option Nat):Option Aa:=
 match x with
 |.str s=>AA lo fun l=>AA (j (Ip s)) fun h=>Aej s l h (Ip s)
 |_=>none
def S0 (size b j c l h:Nat):Option Aa:=
 bif Nat.ble l h&&Nat.ble h c then some (.slice b (bif Nat.beq c l then j else j+l*size) (h-l) (c-l))else none
def Sy (size b j len q l h:Nat):Option Aa:=
 bif Nat.ble l h&&Nat.ble h len&&Nat.beq size q then
  (bif Nat.beq l 0 then some (.gslice b j h q)
   else bif Nat.blt l h then some (.gslice b (j+l*size) (h-l) q)else none)else none
def Jv (size b j len l h m:Nat):Option Aa:=
 bif Nat.ble l h&&Nat.ble h m&&Nat.ble m len then some (.slice b (bif Nat.beq m l then j else j+l*size) (h-l) (m-l))else none
def FK (size:Nat) (x:Aa) (lo:Option Nat) (j:Nat->Option Nat) (q:Option (Option Nat)):Option Aa:=
 match x,q with
 |.slice b off len c,none=>AA lo fun l=>AA (j len) fun h=>S0 size b off c l h
 |.gslice b off len es,none=>AA lo fun l=>AA (j len) fun h=>Sy size b off len es l h
 |.slice b off len _,some m=>AA lo fun l=>AA (j len) fun h=>AA m fun m=>Jv size b off len l h m
 |.gslice b off len _,some m=>AA lo fun l=>AA (j len) fun h=>AA m fun m=>Jv size b off len l h m
 |.nilSlice,none=>AA lo fun l=>AA (j 0) fun h=>bif Nat.beq l 0&&Nat.beq h 0 then some .nilSlice else none
 |_,_=>none
def Rp (q:Nat) (x:Aa):Option Aa:=
 match x with
 |.ptr b o=>some (.ptr b (o+q))
 |.lptr i j o=>some (.lptr i j (o+q))
 |.vptr b e j o=>some (.vptr b e j (o+q))
 |_=>none
def J0 (cs:List Aa) (j:Nat) (n:Option Nat):Option Aa:=
 match n with
 |some n=>AA (cut cs j n) fun r=>some (.agg r)
 |none=>nth cs j
def Vh (j:Nat) (n:Option Nat) (x:Aa):Option Aa:=
 match x with
 |.agg cs=>J0 cs j n
 |_=>none
def WH (size b j len:Nat) (i:Option Nat):Option Aa:=
 AA i fun i=>bif Nat.blt i len then some (.ptr b (j+i*size))else none
def Aeu (Γ:Ap) (size i j:Nat) (n:ST) (v:Aa):Option Aa:=
 match v with
 |.int _ t=>bif Nat.beq size j&&(C0 Γ .geq t (.lit (.ofNat 0))&&C0 Γ .lss t n)then some (.lptr i t 0)else none
 |_=>none
def Aet (Γ:Ap) (size b j:Nat) (n:ST) (v:Aa):Option Aa:=
 match v with
 |.int _ t=>bif Nat.beq size j&&(C0 Γ .geq t (.lit (.ofNat 0))&&C0 Γ .lss t n)then some (.vptr b j t 0)else none
 |_=>none
def AbK (Γ:Ap) (size:Nat) (x v:Aa) (i:Option Nat):Option Aa:=
 match x with
 |.vec b es n=>Aet Γ size b es n v
 |.lst _ j es n=>Aeu Γ size j es n v
 |.slice b off len _=>WH size b off len i
 |.gslice b off len _=>WH size b off len i
 |_=>none
def QW (len size:Nat) (x:Aa) (i:Option Nat):Option Aa:=
 match x with
 |.ptr b off=>AA i fun i=>bif Nat.blt i len then some (.ptr b (off+i*size))else none
 |_=>none
def Ahq (len size:Nat) (n:Option Nat) (x:Aa) (i:Option Nat):Option Aa:=
 match x with
 |.agg cs=>AA i fun i=>bif Nat.blt i len then J0 cs (i*size) n else none
 |_=>none
def AbJ (x:Aa) (i:Option Nat):Option Aa:=
 match x with
 |.str s=>AA i fun i=>AA (Ca s i) fun c=>some (.int .u8 (.lit (.ofNat c)))
 |_=>none
def Ahx (x:Aa) (i:Nat):Option Aa:=
 match x with
 |.tuple vs=>nth vs i
 |_=>none
def AbC (Γ:Ap) (x:Aa):Option Aa:=
 match x with
 |.svar i=>AA (WB i Γ.BQ) fun r=>some (.int .i64 r.1)
 |.str s=>some (lit .i64 (.ofNat (Ip s)))
 |.anyStr _=>some .any
 |_=>none
def AbD (x:Aa):Option Aa:=
 match x with
 |.slice _ _ n _=>some (lit .i64 (.ofNat n))
 |.gslice _ _ n _=>some (lit .i64 (.ofNat n))
 |.nilSlice=>some (lit .i64 (.ofNat 0))
 |.gbytes b=>some (.glen b)
 |.lst _ _ _ n=>some (.int .i64 n)
 |.vec _ _ n=>some (.int .i64 n)
 |_=>none
def RF (t:TypeId) (zero:Option Aa) (x:Aa):Option Aa:=
 match x,zero with
 |.iface u v,none=>bif Nat.beq u t then some v else none
 |.iface u v,some z=>some (bif Nat.beq u t then .tuple [v,.bool (.lit true)]else .tuple [z,.bool (.lit false)])
 |.nilIface,some z=>some (.tuple [z,.bool (.lit false)])
 |_,_=>none
def Uu (x:Aa):Option Aa:=
 match x with
 |.nilSlice=>some .nilPtr
 |.gbytes b=>some (.ptr b 0)
 |_=>none
def Ami (Γ:Ap) (most:Bool) (j:List Aa):Option Aa:=
 match j with
 |[]=>none
 |x::r=>AdV Γ most r x
def Jw (Γ:Ap) (i q:Nat) (n:ST) (lo v:Option Aa):Option Aa:=
 match lo,v with
 |none,some (.int _ t)=>AA (J4 [.take i t] Γ.defs) fun j=>some (.lst false j q t)
 |some (.int _ (.lit (.ofNat 0))),some (.int _ t)=>AA (J4 [.take i t] Γ.defs) fun j=>some (.lst false j q t)
 |some (.int _ t),none=>AA (J4 [.drop i t] Γ.defs) fun j=>AA (EA j Γ.Bc) fun u=>some (.lst false j q u)
 |_,_=>none
def Sz (Γ:Ap) (f:Bool) (i j:Nat) (n:ST) (lo q:Option Aa):Option Aa:=
 match lo,q with
 |none,none=>some (.lst f i j n)
 |none,some (.int k t)=>bif t.eq n then some (.lst f i j n)else Jw Γ i j n none (some (.int k t))
 |lo,q=>Jw Γ i j n lo q
def Sx (Γ:Ap) (b j:Nat) (n:ST) (lo q:Option Aa):Option Aa:=
 match lo,q with
 |none,none=>some (.vec b j n)
 |none,some (.int _ t)=>bif C0 Γ .geq t (.lit (.ofNat 0))&&C0 Γ .leq t n then some (.vec b j t)else none
 |_,_=>none
def Mk (Γ:Ap) (size:Nat) (x:Aa) (lo j:Option Aa):Option Aa:=
 match x with
 |.lst f i es n=>bif Nat.beq size es then Sz Γ f i es n lo j else none
 |.vec b es n=>bif Nat.beq size es then Sx Γ b es n lo j else none
 |_=>none
def AkH (x:Aa):Bool:=
 match x with
 |.lst _ _ _ _=>true
 |.vec _ _ _=>true
 |_=>false
def Lz (tm:Tr Aa) (x:Option Ct):Option Aa:=
 match x with
 |some x=>some (ev tm x)
 |none=>none
def FJ (Γ:Ap) (tm:Tr Aa) (size:Nat) (x:Aa) (lo q j:Option Ct):Option Aa:=
 match AkH x,j with
 |true,none=>Mk Γ size x (Lz tm lo) (Lz tm q)
 |_,_=>FK size x (Cd tm 0 lo) (fun d=>Cd tm d q) (Adw tm j)
def Iz (Γ:Ap) (tm:Tr Aa) (o:POp):Option Aa:=
 match o with
 |.mv x=>some (ev tm x)
 |.pick c a b=>Abi (ev tm c) (ev tm a) (ev tm b)
 |.build zero parts=>Nw (H8 tm parts zero)
 |.Ahi x=>Abz (ev tm x)
 |.bin op x y=>AhF Γ op (ev tm x) (ev tm y)
 |.eqs neg k x y=>IT Γ neg k (ev tm x) (ev tm y)
 |.un op x=>unA Γ op (ev tm x)
 |.conv k x=>Ack Γ k (ev tm x)
 |.same x=>AaK (ev tm x)
 |.iface t x=>some (.iface t (ev tm x))
 |.func f a c=>some (.func f (RR tm a) (RR tm c))
 |.subs x lo hi=>ZN (ev tm x) (Cd tm 0 lo) (fun d=>Cd tm d hi)
 |.reslice size x lo hi mx=>FJ Γ tm size (ev tm x) lo hi mx
 |.Vi off x=>Rp off (ev tm x)
 |.field off n x=>Vh off n (ev tm x)
 |.Ahs size x i=>AbK Γ size (ev tm x) (ev tm i) (C5 (ev tm i))
 |.UO len size x i=>QW len size (ev tm x) (C5 (ev tm i))
 |.idx len size n x i=>Ahq len size n (ev tm x) (C5 (ev tm i))
 |.Ahr x i=>AbJ (ev tm x) (C5 (ev tm i))
 |.ext x i=>Ahx (ev tm x) i
 |.Ahm x=>AbC Γ (ev tm x)
 |.Ahn x=>AbD (ev tm x)
 |.big most xs=>Ami Γ most (RR tm xs)
 |.assert t zero x=>RF t zero (ev tm x)
 |.AaJ x=>Uu (ev tm x)
def cellsOf (o:Option Block):Option (List Aa):=
 match o with
 |some (.cells vs)=>some vs
 |some (.typed _ vs)=>some vs
 |_=>none
def Aep (o:Option Block) (vs:List Aa):Block:=
 match o with
 |some (.typed e _)=>.typed e vs
 |_=>.cells vs
def bytesOf (o:Option Block):Option (Nat×Nat):=
 match o with
 |some (.bytes n e)=>some (n,e)
 |_=>none
def mapOf (o:Option Block):Option (List Entry×Nat):=
 match o with
 |some (.map es c)=>some (es,c)
 |_=>none
def MB (o:Option Block):Option (Nat×Nat):=
 match o with
 |some (.list i es)=>some (i,es)
 |_=>none
def elemV (Γ:Ap) (o:Option Block) (q:Nat) (j:ST):Option (List Aa):=
 AA (MB o) fun l=>bif Nat.beq l.2 q then OT l.1 j Γ.elems else none
def MA (Γ:Ap) (h:Ak) (n:Option Nat) (x:Aa):Option Aa:=
 match x with
 |.vptr b es j off=>AA (elemV Γ (h.get b) es j) fun vs=>J0 vs off n
 |.lptr i j off=>AA (OT i j Γ.elems) fun vs=>J0 vs off n
 |.ptr b off=>AA (cellsOf (h.get b)) fun vs=>J0 vs off n
 |_=>none
def OY (kk:LK) (x y:Aa):Option Bool:=
 match kk,x,y with
 |.int,.int k (.lit a),.int k' (.lit b)=>bif UM k k' then some (Y8 a b)else none
 |.str,.str a,.str b=>some (Ot a b)
 |.bool,.bool (.lit a),.bool (.lit b)=>some (beq a b)
 |_,_,_=>none
def AbU (Γ:Ap) (kk:LK) (k:Aa) (j:List Entry):Option (Option Aa):=
 List.rec (motive:=fun _=>Option (Option Aa)) (some none) (fun e _ ih=>AA (IV Γ kk k e.key) fun b=>bif b then some (some e.val)else ih) j
def AdI (j:List Entry):Nat:=
 List.rec (motive:=fun _=>Nat) 0 (fun _ _ ih=>ih+1) j
def Vc (ok:Bool) (v:Aa) (b:Bool):Aa:=bif ok then .tuple [v,.bool (.lit b)]else v
def AkJ (ok:Bool) (zero:Aa) (r:Option Aa):Aa:=
 match r with
 |some v=>Vc ok v true
 |none=>Vc ok zero false
def IF (o:Option Block):Option Nat:=
 match o with
 |some (.smap i)=>some i
 |_=>none
def Aeo (Γ:Ap) (i:Nat) (k zero:Aa) (ok:Bool):Option Aa:=
 AA (Ab8 i k Γ.looks) fun r=>match r with
  |some cs=>some (Vc ok (.agg cs) true)
  |none=>some (Vc ok zero false)
def PF (kk:LK) (k:Aa):Bool:=
 match kk,k with
 |.str,.str _=>true
 |.str,.svar _=>true
 |_,_=>false
def UG (Γ:Ap) (h:Ak) (kk:LK) (b:Nat) (k zero:Aa) (ok:Bool):Option Aa:=
 match IF (h.get b)with
 |some i=>bif PF kk k then Aeo Γ i k zero ok else none
 |none=>AA (mapOf (h.get b)) fun m=>AA (AbU Γ kk k m.1) fun r=>some (AkJ ok zero r)
def WC (Γ:Ap) (h:Ak) (kk:LK) (m k zero:Aa) (ok:Bool):Option Aa:=
 match m with
 |.nilMap=>some (Vc ok zero false)
 |.map b=>UG Γ h kk b k zero ok
 |_=>none
def WD (h:Ak) (x:Aa):Option Aa:=
 match x with
 |.nilMap=>some (lit .i64 (.ofNat 0))
 |.map b=>AA (mapOf (h.get b)) fun m=>some (lit .i64 (.ofNat (AdI m.1)))
 |_=>none
def SQ (e n:Nat) (l:List (Nat×Nat)):Bool:=
 List.rec (motive:=fun _=>Bool) false (fun x _ ih=>(Nat.beq x.1 e&&Nat.beq x.2 n) ||ih) l
def YL (ok:List (Nat×Nat)) (b:Nat) (B:Option Block):Option Aa:=
 match B with
 |some (.typed e vs)=>bif SQ e (Bc vs) ok then some (.ptr b 0)else none
 |_=>none
def Ow (h:Ak) (ok:List (Nat×Nat)) (x:Aa):Option Aa:=
 match x with
 |.ptr b 0=>YL ok b (h.get b)
 |_=>none
def u8A (v:Aa):Option Nat:=
 match v with
 |.int .u8 (.lit (.ofNat n))=>bif Nat.ble n 255 then some n else none
 |_=>none
def AeQ (l:List Aa):Option (List Nat):=
 List.rec (motive:=fun _=>Option (List Nat)) (some []) (fun v _ ih=>AA (u8A v) fun n=>AA ih fun l=>some (n::l)) l
def Nx (h:Ak) (b j len:Nat):Option Aa:=
 bif Nat.beq len 0 then some (.str [])else AA (cellsOf (h.get b)) fun vs=>AA (cut vs j len) fun r=>AA (AeQ r) fun s=>some (.str s)
def Xg (h:Ak) (x:Aa):Option Aa:=
 match x with
 |.nilSlice=>some (.str [])
 |.slice b off len _=>Nx h b off len
 |.gslice b off len _=>Nx h b off len
 |_=>none
def Dn (Γ:Ap) (tm:Tr Aa) (h:Ak) (o:NJ):Option Aa:=
 match o with
 |.load n x=>MA Γ h n (ev tm x)
 |.lookup kk zero ok x k=>WC Γ h kk (ev tm x) (ev tm k) zero ok
 |.lenM x=>WD h (ev tm x)
 |.uptr ok x=>Ow h ok (ev tm x)
 |.bstr x=>Xg h (ev tm x)
def M5 (id:Nat) (zero:List Aa) (l c:Option Nat):Option (Block×Aa):=
 AA l fun l=>AA c fun c=>bif Nat.ble l c&&Nat.ble c 1048576 then some (.cells (rep zero c),.slice id 0 l c)else none
def KK (t:Option Nat) (cs:List Aa):Block:=
 match t with
 |some e=>.typed e cs
 |none=>.cells cs
def XQ (tm:Tr Aa) (id:Nat) (o:AOp):Option (Block×Aa):=
 match o with
 |.box t x=>AA (ev tm x).cells fun cs=>some (KK t cs,.ptr id 0)
 |.zero t cs=>some (KK t cs,.ptr id 0)
 |.bslice len zero parts=>AA (H8 tm parts zero) fun cs=>some (.cells cs,.slice id 0 len len)
 |.mkSlice zero l c=>M5 id zero (C5 (ev tm l)) (C5 (ev tm c))
 |.mkMap=>some (.map [] 0,.map id)
inductive GN where
 |val (v:Aa) (h:Ak)
 |call (f:FuncId) (args:List Aa)
 |panic (v:Aa)
 |defer (f:FuncId) (args:List Aa)
def TM (h:Ak) (n:Nat) (a x:Aa):Option Ak:=
 match a with
 |.ptr b off=>AA (cellsOf (h.get b)) fun vs=>AA (Fw vs x off n) fun j=>some (h.set b (some (Aep (h.get b) j)))
 |_=>none
def LW (h:Ak) (size b j len:Nat):Option (Nat×List Aa):=
 bif Nat.beq len 0 then some (0,[])else AA (cellsOf (h.get b)) fun vs=>AA (cut vs j (len*size)) fun r=>some (len,r)
def byteCells (l:List Nat):List Aa:=
 List.rec (motive:=fun _=>List Aa) [] (fun c _ ih=>.int .u8 (.lit (.ofNat c))::ih) l
def JF (Γ:Ap) (i j n:Nat):Nat->Option (List Aa):=
 Nat.rec (motive:=fun _=>Nat->Option (List Aa)) (fun _=>some [])
  (fun _ ih k=>AA (OT i (.lit (.ofNat k)) Γ.elems) fun cs=>bif Nat.beq (Bc cs) j then AA (ih (k+1)) fun r=>some (cs++r)else none) n
def AfM (Γ:Ap) (size i j:Nat) (n:ST):Option (Nat×List Aa):=
 match n with
 |.lit (.ofNat m)=>bif Nat.beq size j then AA (JF Γ i j m 0) fun cs=>some (m,cs)else none
 |_=>none
def Jn (h:Ak) (size:Nat) (bytes:Bool) (x:Aa):Option (Nat×List Aa):=
 match x,bytes with
 |.lst _ i es n,false=>AfM h.fx size i es n
 |.nilSlice,false=>some (0,[])
 |.slice b off len _,false=>LW h size b off len
 |.gslice b off len _,false=>LW h size b off len
 |.str s,true=>bif Nat.beq size 1 then some (Ip s,byteCells s)else none
 |_,_=>none
def T1 (h:Ak) (size b j len c n:Nat) (new:List Aa):Option (Aa×Ak):=
 AA (cellsOf (h.get b)) fun vs=>AA (splice new (j+len*size) vs) fun q=>some (.slice b j (len+n) c,h.set b (some (.cells q)))
def Ik (h:Ak) (size len n:Nat) (old new:List Aa):Option (Aa×Ak):=
 bif Nat.ble (len+n) 1048576 then some (.gslice h.next 0 (len+n) size,h.add (.cells (old++new)))else none
def Xi (h:Ak) (size b j len q n:Nat) (new:List Aa):Option (Aa×Ak):=
 AA (cellsOf (h.get b)) fun vs=>bif Nat.beq size q&&Nat.ble (len+n) 1048576 then
  AA (cut vs j (len*size)) fun old=>some (.gslice h.next 0 (len+n) size,(h.set b none).add (.cells (old++new)))else none
def LB (x:Aa) (h:Ak):Option (Aa×Ak):=
 match x with
 |.lst f i es n=>some (.lst f i es n,h)
 |.vec b es n=>some (.vec b es n,h)
 |.nilSlice=>some (x,h)
 |.slice _ _ _ _=>some (x,h)
 |.gslice _ _ _ _=>some (x,h)
 |_=>none
def Ao9 (v:Aa):Bool:=
 match v with
 |.bool _=>true
 |.int _ _=>true
 |.str _=>true
 |.svar _=>true
 |.lst _ _ _ _=>true
 |.nilPtr=>true
 |.nilSlice=>true
 |_=>false
def loose (v:Aa):Aa:=
 match v with
 |.lst _ i es n=>.lst false i es n
 |v=>v
def CG (l:List Aa):List Aa:=List.rec (motive:=fun _=>List Aa) [] (fun v _ ih=>loose v::ih) l
def RB (l:List Aa):Bool:=List.rec (motive:=fun _=>Bool) true (fun v _ ih=>Ao9 v&&ih) l
def HI (size n:Nat):List Aa->Option (List (List Aa)):=
 Nat.rec (motive:=fun _=>List Aa->Option (List (List Aa))) (fun cs=>List.casesOn (motive:=fun _=>Option (List (List Aa))) cs (some []) (fun _ _=>none))
  (fun _ ih cs=>AA (taken size cs) fun c=>AA (ih (dropped size cs)) fun r=>some (c::r)) n
def Il (h:Ak) (size:Nat) (part:AE) (n:Nat) (new:List Aa):Option (ST×Block):=
 bif RB new then AA (HI size n (CG new)) fun q=>AA (J4 [part,.els q] h.fx.defs) fun j=>AA (EA j h.fx.Bc) fun t=>
  bif C0 h.fx .leq t (.lit (.ofNat 1048576))then some (t,.list j size)else none else none
def Xh (h:Ak) (size b j:Nat) (m:ST) (n:Nat) (new:List Aa):Option (Aa×Ak):=
 AA (MB (h.get b)) fun l=>bif Nat.beq size j&&Nat.beq l.2 j then
  AA (Il h size (.take l.1 m) n new) fun r=>some (.vec h.next size r.1,(h.set b none).add r.2)else none
def Xm (h:Ak) (size i j n:Nat) (new:List Aa):Option (Aa×Ak):=
 bif Nat.beq size j then AA (Il h size (.all i) n new) fun r=>some (.vec h.next size r.1,h.add r.2)else none
def P3 (h:Ak) (size:Nat) (x:Aa):Option (List AE):=
 match x with
 |.nilSlice=>some []
 |.slice b off len c=>bif Nat.beq len c then (bif Nat.beq len 0 then some []else AA (LW h size b off len) fun s=>bif RB s.2 then AA (HI size len (CG s.2)) fun j=>some [.els j]else none)else none
 |.lst true i j _=>bif Nat.beq size j then some [.all i]else none
 |.vec b j m=>AA (MB (h.get b)) fun l=>bif Nat.beq size j&&Nat.beq l.2 j then some [.take l.1 m]else none
 |_=>none
def AaI (p:List AE) (l:List (Nat×List AE)):Option Nat:=
 List.rec (motive:=fun _=>Option Nat) none (fun e _ ih=>bif AE.Po p e.2 then some e.1 else ih) l
def LD (h:Ak) (size:Nat) (x:Aa) (n:Nat) (new:List Aa):Option (Aa×Ak):=
 bif RB new then AA (P3 h size x) fun p=>AA (HI size n (CG new)) fun q=>AA (AaI (p++[.els q]) h.fx.defs) fun j=>AA (EA j h.fx.Bc) fun t=>
  bif C0 h.fx .leq t (.lit (.ofNat 1048576))then some (.vec h.next size t,h.add (.list j size))else none
 else none
def orR (a b:Option (Aa×Ak)):Option (Aa×Ak):=
 match a with
 |some r=>some r
 |none=>b
def Xj (h:Ak) (size:Nat) (x:Aa) (n:Nat) (new:List Aa):Option (Aa×Ak):=
 match x with
 |.vec b es m=>Xh h size b es m n new
 |.lst true i es _=>Xm h size i es n new
 |.nilSlice=>orR (LD h size .nilSlice n new) (Ik h size 0 n [] new)
 |.slice b off len c=>
  bif Nat.ble (len+n) c then T1 h size b off len c n new
  else orR (LD h size (.slice b off len c) n new) (AA (LW h size b off len) fun old=>Ik h size len n old.2 new)
 |.gslice b off len es=>Xi h size b off len es n new
 |_=>none
def GA (h:Ak) (size:Nat) (x:Aa) (n:Nat) (new:List Aa):Option (Aa×Ak):=
 bif Nat.beq n 0 then LB x h else Xj h size x n new
def AdD (v:Aa):Bool:=
 match v with
 |.int .u8 (.lit (.ofNat n))=>Nat.ble n 255
 |_=>false
def Xn (l:List Aa):Bool:=List.rec (motive:=fun _=>Bool) true (fun v _ ih=>AdD v&&ih) l
def Adl (h:Ak) (bytes:Bool) (y:Aa):Option (Nat×Nat):=
 match y,bytes with
 |.svar i,true=>AA (WB i h.fx.BQ) fun r=>some r.2
 |.str s,true=>some (Ip s,Ip s)
 |.anyStr n,true=>some (1,n)
 |y,false=>AA (Jn h 1 false y) fun s=>bif Xn s.2 then some (s.1,s.1)else none
 |_,_=>none
def Ho (o:Option Block):Option (ST×Nat):=
 match o with
 |some (.sbytes t e)=>some (t,e)
 |_=>none
def Xl (h:Ak) (e b n:Nat):Option (Aa×Ak):=
 match Ho (h.get b)with
 |some m=>bif Nat.beq m.2 e then AA (AbB m.1 n h.fx.C8) fun t=>some (.gbytes h.next,(h.set b none).add (.sbytes t e))else none
 |none=>AA (bytesOf (h.get b)) fun m=>bif Nat.beq m.2 e&&Nat.ble (m.1+n) 1048576 then some (.gbytes h.next,(h.set b none).add (.bytes (m.1+n) e))else none
def RJ (h:Ak) (e:Nat) (x:Aa) (lo n:Nat):Option (Aa×Ak):=
 match x with
 |.nilSlice=>bif Nat.beq lo 0 then (bif Nat.beq n 0 then some (x,h)else none)else bif Nat.ble n 1048576 then some (.gbytes h.next,h.add (.bytes n e))else none
 |.gbytes b=>Xl h e b n
 |_=>none
def hidden (x:Aa):Bool:=
 match x with
 |.nilSlice=>true
 |.gbytes _=>true
 |_=>false
def AkU (h:Ak) (x:Aa):Ak:=
 match x with
 |.vec b _ _=>h.set b none
 |_=>h
def LC (h:Ak) (size:Nat) (x:Aa) (i q:Nat) (n:ST):Option (Aa×Ak):=
 bif Nat.beq size q&&C0 h.fx .gtr n (.lit (.ofNat 0))then
  AA (P3 h size x) fun p=>AA (J4 (p++[.all i]) h.fx.defs) fun j=>AA (EA j h.fx.Bc) fun t=>
   bif C0 h.fx .leq t (.lit (.ofNat 1048576))then some (.vec h.next size t,(AkU h x).add (.list j size))else none
 else bif Nat.beq size q&&C0 h.fx .leq n (.lit (.ofNat 0))then LB x h else none
def Wx (y:Aa) (bytes:Bool):Option (Nat×Nat×ST):=
 match y,bytes with
 |.lst _ _ _ (.lit _),_=>none
 |.lst _ i es n,false=>some (i,es,n)
 |_,_=>none
def Vd (b q len x j:Nat) (v:Aa):Aa:=
 match v with
 |.slice b' off' len' c'=>bif Nat.beq b b'&&(Nat.beq q off'&&Nat.beq len len')then .lst (Nat.beq c' len) j x (.lit (.ofNat len))else v
 |.gslice b' off' len' _=>bif Nat.beq b b'&&(Nat.beq q off'&&Nat.beq len len')then .lst false j x (.lit (.ofNat len))else v
 |v=>v
def L0 (b q len x j:Nat) (l:List Aa):List Aa:=
 List.rec (motive:=fun _=>List Aa) [] (fun v _ ih=>Vd b q len x j v::ih) l
def Tr.map {α:Type} (g:α->α) (t:Tr α):Tr α:=
 Tr.rec (motive:=fun _=>Tr α) .nil (fun v _ _ l r=>.node (v.map g) l r) (fun n v _ t=>.over n (v.map g) t) t
def Pg (Γ:Ap) (q len v j:Nat) (vs:List Aa):Bool:=
 CN (AA (cut vs q (len*v)) fun cs=>bif RB cs then AA (HI v len (CG cs)) fun c=>AA (J4 [.els c] Γ.defs) fun j'=>some (Nat.beq j' j)else none)
def EY (h:Ak) (z:Nat×Nat×Nat×Nat×Nat) (new:List Aa):Ak×List Aa:=
 match h.get z.1 with
 |some (.cells vs)=>bif Pg h.fx z.2.1 z.2.2.1 z.2.2.2.1 z.2.2.2.2 vs then (h.set z.1 none,L0 z.1 z.2.1 z.2.2.1 z.2.2.2.1 z.2.2.2.2 new)else (h,new)
 |_=>(h,new)
def FV (l:List (Nat×Nat×Nat×Nat×Nat)):Ak->List Aa->Ak×List Aa:=
 List.rec (motive:=fun _=>Ak->List Aa->Ak×List Aa) (fun h n=>(h,n)) (fun z _ ih h n=>ih (EY h z n).1 (EY h z n).2) l
def AdZ (size:Nat) (x:Aa) (n:Nat) (r:Ak×List Aa):Option (Aa×Ak):=GA r.1 size x n r.2
def RI (h:Ak) (size:Nat) (x:Aa) (n:Nat) (new:List Aa):Option (Aa×Ak):=
 match x with
 |.vec b es m=>bif RB new then GA h size (.vec b es m) n new else AdZ size (.vec b es m) n (FV h.fx.Od h new)
 |x=>GA h size x n new
def Xk (h:Ak) (size:Nat) (bytes:Bool) (x y:Aa):Option (Aa×Ak):=
 match Wx y bytes with
 |some l=>LC h size x l.1 l.2.1 l.2.2
 |none=>AA (Jn h size bytes y) fun s=>RI h size x s.1 s.2
def T0 (h:Ak) (size:Nat) (j:Option Nat) (bytes:Bool) (x y:Aa):Option (Aa×Ak):=
 match j,hidden x with
 |some e,true=>AA (Adl h bytes y) fun s=>RJ h e x s.1 s.2
 |_,_=>Xk h size bytes x y
def Aeg (h:Ak) (b:Nat) (m:Nat×Nat) (e:Nat):Option GN:=
 bif Nat.beq m.2 e then some (.val (.anyStr m.1) (h.set b none))else none
def Aef (h:Ak) (b e:Nat):Option GN:=
 match Ho (h.get b)with
 |some m=>bif Nat.beq m.2 e then some (.val (.anyStr 1048576) (h.set b none))else none
 |none=>AA (bytesOf (h.get b)) fun m=>Aeg h b m e
def YK (h:Ak) (e:Nat) (p n:Aa):Option GN:=
 match p,n with
 |.nilPtr,.int .i64 (.lit (.ofNat 0))=>some (.val (.str []) h)
 |.ptr b 0,.glen c=>bif Nat.beq b c then Aef h b e else none
 |_,_=>none
def U8 (h:Ak) (x:Aa):Option GN:=some (.val x h)
def WX (h:Ak) (size b j m:Nat) (src:List Aa):Option (Aa×Ak):=
 bif Nat.beq m 0 then some (lit .i64 (.ofNat 0),h)
 else AA (cellsOf (h.get b)) fun vs=>AA (taken (m*size) src) fun r=>AA (splice r j vs) fun q=>some (lit .i64 (.ofNat m),h.set b (some (.cells q)))
def Acj (h:Ak) (size:Nat) (x:Aa) (n:Nat) (src:List Aa):Option (Aa×Ak):=
 match x with
 |.nilSlice=>some (lit .i64 (.ofNat 0),h)
 |.slice b off len _=>WX h size b off (bif Nat.ble n len then n else len) src
 |.gslice b off len _=>WX h size b off (bif Nat.ble n len then n else len) src
 |_=>none
def AeP (kk:LK) (k v:Aa) (j:Nat) (q:List Entry):Option (List Entry×Bool):=
 List.rec (motive:=fun _=>Option (List Entry×Bool)) (some ([⟨k,v,j⟩],true))
  (fun e q ih=>AA (OY kk k e.key) fun b=>bif b then some (⟨k,v,e.born⟩::q,false)else AA ih fun r=>some (e::r.1,r.2)) q
def Ab5 (h:Ak) (b i:Nat) (k v:Aa):Option Ak:=
 match v with
 |.agg cs=>bif RB cs then AA (Ab7 i k (CG cs) h.fx.Lx) fun j=>some (h.set b (some (.smap j)))else none
 |_=>none
def Ab6 (h:Ak) (kk:LK) (b:Nat) (k v:Aa):Option Ak:=
 match IF (h.get b)with
 |some i=>bif PF kk k then Ab5 h b i k v else none
 |none=>AA (mapOf (h.get b)) fun m=>bif k.single then AA (AeP kk k v m.2 m.1) fun r=>
   some (h.set b (some (.map r.1 (bif r.2 then m.2+1 else m.2))))else none
def UB (h:Ak) (kk:LK) (m k v:Aa):Option Ak:=
 match m with
 |.map b=>Ab6 h kk b k v
 |_=>none
def Nu (f:Aa) (args:List Aa):Option (FuncId×List Aa):=
 match f with
 |.func g first cap=>some (g,first++(args++cap))
 |_=>none
def Acn (h:Ak) (t:TypeId) (b:Nat):Option GN:=
 match IF (h.get b)with
 |some i=>some (.val (.iface t (.map h.next)) (h.add (.smap i)))
 |none=>AA (mapOf (h.get b)) fun m=>some (.val (.iface t (.map h.next)) (h.add (.map m.1 m.2)))
def Vy (h:Ak) (x:Aa):Option GN:=
 match x with
 |.iface t (.map b)=>Acn h t b
 |_=>none
def U2 (x:Aa):Option GN:=
 match x with
 |.iface t v=>some (.panic (.iface t v))
 |_=>none
def Kp (tm:Tr Aa) (h:Ak) (o:MOp):Option GN:=
 match o with
 |.store n a x=>AA (TM h n (ev tm a) (ev tm x)) fun j=>some (.val .any j)
 |.call f args=>AA (Nu (ev tm f) (RR tm args)) fun r=>some (.call r.1 r.2)
 |.append size u8 bytes x y=>AA (T0 h size u8 bytes (ev tm x) (ev tm y)) fun r=>some (.val r.1 r.2)
 |.copy size bytes x y=>AA (Jn h size bytes (ev tm y)) fun s=>AA (Acj h size (ev tm x) s.1 s.2) fun r=>some (.val r.1 r.2)
 |.mapUp kk m k v=>AA (UB h kk (ev tm m) (ev tm k) (ev tm v)) fun j=>some (.val .any j)
 |.clone x=>Vy h (ev tm x)
 |.panic x=>U2 (ev tm x)
 |.defer f args=>AA (Nu (ev tm f) (RR tm args)) fun r=>some (.defer r.1 r.2)
 |.recover=>none
 |.AeO e p n=>YK h e (ev tm p) (ev tm n)
 |.Abw x=>U8 h (ev tm x)
structure BO where
 args:List Aa
 pre:List Block
 res:Aa
 post:List (Option Block)
def Ae7 (v:Aa):Option Nat:=
 match v with
 |.ptr b _=>some b
 |.slice b _ _ _=>some b
 |.gslice b _ _ _=>some b
 |.map b=>some b
 |.vec b _ _=>some b
 |.vptr b _ _ _=>some b
 |.gbytes b=>some b
 |_=>none
def WQ (v:Aa):List Aa:=
 match v with
 |.agg cs=>cs
 |v=>[v]
def Apy (p a:Aa) (σ:List Nat):List Nat:=
 match Ae7 p,Ae7 a with
 |some i,some j=>bif Nat.ble (Ip σ) i then σ++[j]else σ
 |_,_=>σ
def AdQ (h:Ak) (b:Option Nat):List Aa:=
 match b with
 |some b=>(match h.get b with|some (.cells us)=>us|some (.typed _ us)=>us|_=>[])
 |none=>[]
def Ah3 (B:Block):List Aa:=
 match B with
 |.cells vs=>vs
 |.typed _ vs=>vs
 |_=>[]
def AaW (σ:List Nat) (v:Aa):Option Aa:=
 match v with
 |.ptr b o=>AA (Ca σ b) fun c=>some (.ptr c o)
 |.slice b o l c=>AA (Ca σ b) fun d=>some (.slice d o l c)
 |.gslice b o l e=>AA (Ca σ b) fun d=>some (.gslice d o l e)
 |.map b=>AA (Ca σ b) fun d=>some (.map d)
 |.vec b e n=>AA (Ca σ b) fun d=>some (.vec d e n)
 |.vptr b e j o=>AA (Ca σ b) fun d=>some (.vptr d e j o)
 |.anyStr n=>some (.anyStr n)
 |.gbytes b=>AA (Ca σ b) fun d=>some (.gbytes d)
 |.bool b=>some (.bool b)
 |.int k n=>some (.int k n)
 |.str s=>some (.str s)
 |.svar i=>some (.svar i)
 |.lst f i e n=>some (.lst f i e n)
 |.lptr i j o=>some (.lptr i j o)
 |.nilPtr=>some .nilPtr
 |.nilSlice=>some .nilSlice
 |.nilMap=>some .nilMap
 |.nilFunc=>some .nilFunc
 |.nilIface=>some .nilIface
 |_=>none
def Ws (σ:List Nat) (l:List Aa):Option (List Aa):=
 List.rec (motive:=fun _=>Option (List Aa)) (some []) (fun v _ ih=>AA (AaW σ v) fun u=>AA ih fun us=>some (u::us)) l
def Jx (σ:List Nat) (v:Aa):Option Aa:=
 match v with
 |.func f a c=>AA (Ws σ a) fun a=>AA (Ws σ c) fun c=>some (.func f a c)
 |v=>AaW σ v
def Acf (Γ:Ap) (j:Nat):Bool:=
 match EA j Γ.Bc with
 |some (.lit (.ofNat 0))=>true
 |_=>false
def AbI (a:Aa):Bool:=
 match a with
 |.nilSlice=>true
 |_=>false
def HB (Γ:Ap) (σ:List Nat) (p a:Aa):Bool:=
 match Jx σ p with
 |some v=>v.eq a||v.eq (loose a) ||(match v with|.lst false j _ n=>AbI a&&(Acf Γ j&&n.eq (.lit (.ofNat 0))) |_=>false)
 |none=>false
def Adc (ps:List Aa):List Aa->List Nat->List Nat:=
 List.rec (motive:=fun _=>List Aa->List Nat->List Nat) (fun _ σ=>σ) (fun p _ ih as σ=>List.casesOn (motive:=fun _=>List Nat) as σ (fun a as=>ih as (Apy p a σ))) ps
def VI (ps:List Aa):List Aa->List Nat->List Nat:=
 List.rec (motive:=fun _=>List Aa->List Nat->List Nat) (fun _ σ=>σ) (fun p _ ih as σ=>List.casesOn (motive:=fun _=>List Nat) as σ (fun a as=>ih as (Adc (WQ p) (WQ a) σ))) ps
def RT (h:Ak) (l:List Block):Nat->List Nat->List Nat:=
 List.rec (motive:=fun _=>Nat->List Nat->List Nat) (fun _ σ=>σ) (fun B _ ih i σ=>ih (i+1) (Adc (Ah3 B) (AdQ h (Ca σ i)) σ)) l
def Gr (Γ:Ap) (σ:List Nat) (ps:List Aa):List Aa->Bool:=
 List.rec (motive:=fun _=>List Aa->Bool) (fun as=>List.casesOn (motive:=fun _=>Bool) as true (fun _ _=>false))
  (fun p _ ih as=>List.casesOn (motive:=fun _=>Bool) as false (fun a as=>HB Γ σ p a&&ih as)) ps
def Ab2 (n:Nat) (l:List Nat):Bool:=List.rec (motive:=fun _=>Bool) false (fun m _ ih=>Nat.beq m n||ih) l
def II (l:List Nat):Bool:=List.rec (motive:=fun _=>Bool) true (fun n r ih=>!(Ab2 n r)&&ih) l
def G0 (l:List Block):Nat:=List.rec (motive:=fun _=>Nat) 0 (fun _ _ ih=>ih+1) l
def Mn (σ:List Nat) (l:List Aa):Option (List Aa):=
 List.rec (motive:=fun _=>Option (List Aa)) (some []) (fun v _ ih=>AA (Jx σ v) fun u=>AA ih fun us=>some (u::us)) l
def Ah0 (l:List Entry):List (Aa×List Aa)->Bool:=
 List.rec (motive:=fun _=>List (Aa×List Aa)->Bool) (fun y=>List.casesOn (motive:=fun _=>Bool) y true (fun _ _=>false))
  (fun e _ ih y=>List.casesOn (motive:=fun _=>Bool) y false (fun x y=>e.key.eq x.1&&((match e.val with|.agg cs=>RB cs&&Aa.Po (CG cs) x.2|_=>false)&&ih y))) l
def UF (i:Nat) (l:List (Nat×List (Aa×List Aa))):Option (List (Aa×List Aa)):=
 List.rec (motive:=fun _=>Option (List (Aa×List Aa))) none (fun e _ ih=>bif Nat.beq e.1 i then some e.2 else ih) l
def Abd (i j:Nat) (l:List (Nat×List AE)):Bool:=
 List.rec (motive:=fun _=>Bool) false (fun e _ ih=>(Nat.beq e.1 i&&(match e.2 with|[.take k _]=>Nat.beq k j|_=>false)) ||ih) l
def Ng (Γ:Ap) (σ:List Nat) (p a:Aa):Bool:=
 match p,a with
 |.agg ps,.agg as=>Gr Γ σ ps as
 |p,a=>HB Γ σ p a
def Ru (Γ:Ap) (σ:List Nat) (ps:List Entry):List Entry->Bool:=
 List.rec (motive:=fun _=>List Entry->Bool) (fun as=>List.casesOn (motive:=fun _=>Bool) as true (fun _ _=>false))
  (fun p _ ih as=>List.casesOn (motive:=fun _=>Bool) as false (fun a as=>HB Γ σ p.key a.key&&(HB Γ σ p.val a.val&&(Nat.beq p.born a.born&&ih as)))) ps
def Nf (Γ:Ap) (σ:List Nat) (B A:Block):Bool:=
 match B,A with
 |.cells ps,.cells as=>Gr Γ σ ps as
 |.typed e ps,.typed e' as=>Nat.beq e e'&&Gr Γ σ ps as
 |.list i es,.list j es'=>(Nat.beq i j||Abd i j Γ.defs)&&Nat.beq es es'
 |.smap i,.smap j=>Nat.beq i j
 |.map ps c,.map as d=>Nat.beq c d&&Ru Γ σ ps as
 |.smap i,.map es _=>CN (AA (UF i Γ.C6) fun l=>some (Ah0 es l))
 |.sbytes t e,.sbytes t' e'=>t.eq t'&&Nat.beq e e'
 |.sbytes t e,.bytes n e'=>t.eq (.lit (.ofNat n))&&Nat.beq e e'
 |.bytes n e,.bytes n' e'=>Nat.beq n n'&&Nat.beq e e'
 |_,_=>false
def eqB (Γ:Ap) (h:Ak) (σ:List Nat) (i:Nat) (B:Block):Bool:=
 match Ca σ i with
 |some b=>(match h.get b with|some A=>Nf Γ σ B A|none=>false)
 |none=>false
def Adr (σ:List Nat) (v:Aa):Option Aa:=
 match v with
 |.agg cs=>AA (Mn σ cs) fun cs=>some (.agg cs)
 |v=>Jx σ v
def AaT (σ:List Nat) (l:List Aa):Option (List Aa):=
 List.rec (motive:=fun _=>Option (List Aa)) (some []) (fun v _ ih=>AA (Adr σ v) fun u=>AA ih fun us=>some (u::us)) l
def Uz (σ:List Nat) (v:Aa):Option Aa:=
 match v with
 |.agg cs=>AA (Mn σ cs) fun cs=>some (.agg cs)
 |.tuple cs=>AA (AaT σ cs) fun cs=>some (.tuple cs)
 |v=>Jx σ v
def AaU (σ:List Nat) (l:List Entry):Option (List Entry):=
 List.rec (motive:=fun _=>Option (List Entry)) (some []) (fun e _ ih=>AA (Jx σ e.key) fun k=>AA (Jx σ e.val) fun v=>AA ih fun j=>some (⟨k,v,e.born⟩::j)) l
def X5 (σ:List Nat) (B:Block):Option Block:=
 match B with
 |.cells vs=>AA (Mn σ vs) fun vs=>some (.cells vs)
 |.typed e vs=>AA (Mn σ vs) fun vs=>some (.typed e vs)
 |.list i j=>some (.list i j)
 |.smap i=>some (.smap i)
 |.sbytes t e=>some (.sbytes t e)
 |.bytes n e=>some (.bytes n e)
 |.map j c=>AA (AaU σ j) fun j=>some (.map j c)
def Adu (σ:List Nat) (i:Nat) (B:Option Block) (h:Ak):Option Ak:=
 AA (Ca σ i) fun b=>match B with
  |some B=>AA (X5 σ B) fun B=>some (h.set b (some B))
  |none=>some (h.set b none)
def KA (Γ:Ap) (σ:List Nat) (ps:List Aa):List Aa->Bool:=
 List.rec (motive:=fun _=>List Aa->Bool) (fun as=>List.casesOn (motive:=fun _=>Bool) as true (fun _ _=>false))
  (fun p _ ih as=>List.casesOn (motive:=fun _=>Bool) as false (fun a as=>Ng Γ σ p a&&ih as)) ps
def Yj (Γ:Ap) (h:Ak) (σ:List Nat) (l:List Block):Nat->Bool:=
 List.rec (motive:=fun _=>Nat->Bool) (fun _=>true) (fun B _ ih i=>eqB Γ h σ i B&&ih (i+1)) l
def AV (l:List Block):Ak->Ak:=
 List.rec (motive:=fun _=>Ak->Ak) (fun h=>h) (fun B _ ih h=>ih (h.add B)) l
def Cv (l:List (Option Block)):Ak->Ak:=
 List.rec (motive:=fun _=>Ak->Ak) (fun h=>h) (fun B _ ih h=>ih ⟨Tr.set h.DD h.next B,h.next+1,h.fx⟩) l
def OG (σ:List Nat) (l:List (Option Block)):Nat->Ak->Option Ak:=
 List.rec (motive:=fun _=>Nat->Ak->Option Ak) (fun _ h=>some h) (fun B _ ih i h=>AA (Adu σ i B h) fun j=>ih (i+1) j) l
def Lb (l:List (Option Block)):Nat->Nat->List Nat:=
 List.rec (motive:=fun _=>Nat->Nat->List Nat) (fun _ _=>[]) (fun _ _ ih k n=>Nat.casesOn (motive:=fun _=>List Nat) k (n::ih 0 (n+1)) (fun k=>ih k n)) l
def SE (l:List (Option Block)):Nat:=List.rec (motive:=fun _=>Nat) 0 (fun _ _ ih=>ih+1) l
def Aew (x:BO) (args:List Aa) (h:Ak) (σ:List Nat):Bool:=
 Nat.beq (Ip σ) (G0 x.pre)&&(Nat.ble (G0 x.pre) (SE x.post)&&(II σ&&(KA h.fx σ x.args args&&Yj h.fx h σ x.pre 0)))
inductive NG where
 |ret (v:Aa)
 |panic (v:Aa)
abbrev Cl:=FuncId->List Aa->Ak->Option (NG×Ak)
structure Fr where
 tm:Tr Aa
 h:Ak
 df:List (FuncId×List Aa)
def DI (tm:Tr Aa) (d:Option Nat) (v:Aa):Tr Aa:=
 match d with
 |some d=>Tr.set tm d (some v)
 |none=>tm
def I7:Aa:=.tuple []
def VJ (j:Bool) (v:Option Aa):Option Bool:=
 match v with
 |some (.bool (.lit b))=>some (beq j b)
 |some (.tuple [])=>some false
 |_=>none
def Dd (tm:Tr Aa) (g:Option (Nat×Bool)):Option Bool:=
 match g with
 |none=>some true
 |some g=>VJ g.2 (Tr.get tm g.1)
inductive Cb where
 |go (f:Fr)
 |panic (v:Aa) (f:Fr)
def Ya (f:Fr) (d:Option Nat) (v:Aa):Cb:=.go ⟨DI f.tm d v,f.h,f.df⟩
def K3 (f:Fr) (d:Option Nat) (v:Aa) (h:Ak):Cb:=.go ⟨DI f.tm d v,h,f.df⟩
def AdR (f:Fr) (d:Option Nat) (r:NG) (h:Ak):Cb:=
 match r with
 |.ret v=>K3 f d v h
 |.panic v=>.panic v ⟨f.tm,h,f.df⟩
def Ahk (call:Cl) (f:Fr) (d:Option Nat) (r:GN):Option Cb:=
 match r with
 |.val v h=>some (K3 f d v h)
 |.call g args=>AA (call g args f.h) fun r=>some (AdR f d r.1 r.2)
 |.panic v=>some (.panic v f)
 |.defer g args=>some (.go ⟨DI f.tm d .any,f.h,(g,args)::f.df⟩)
def Wp (Γ:Ap) (call:Cl) (d:Option Nat) (f:Fr) (o:DC):Option Cb:=
 match o with
 |.p o=>AA (Iz Γ f.tm o) fun v=>some (Ya f d v)
 |.r o=>AA (Dn Γ f.tm f.h o) fun v=>some (Ya f d v)
 |.a o=>AA (XQ f.tm f.h.next o) fun r=>some (K3 f d r.2 (f.h.add r.1))
 |.m o=>AA (Kp f.tm f.h o) fun r=>Ahk call f d r
def Iw (Γ:Ap) (call:Cl) (s:Step) (f:Fr):Option Cb:=
 AA (Dd f.tm s.guard) fun w=>bif w then Wp Γ call s.dst f s.op else some (Ya f s.dst I7)
def goes (r:Cb) (k:Fr->Option Cb):Option Cb:=
 match r with
 |.go f=>k f
 |.panic v f=>some (.panic v f)
def Ut (Γ:Ap) (call:Cl) (l:List Step):Fr->Option Cb:=
 List.rec (motive:=fun _=>Fr->Option Cb) (fun f=>some (.go f)) (fun s _ ih f=>AA (Iw Γ call s f) fun x=>goes x ih) l
def Aa.eqs (x y:Aa):Bool:=
 match x,y with
 |.agg a,.agg b=>Aa.Po a b
 |.tuple a,.tuple b=>Aa.Po a b
 |x,y=>x.eq y
def AaL (v:Aa) (o:Option Aa):Bool:=
 match o with
 |some u=>v.eqs u
 |none=>false
def VB (Γ:Ap) (tm:Tr Aa) (o:NJ) (v:Aa) (n:Nat):List Ak->Bool:=
 Nat.rec (motive:=fun _=>List Ak->Bool) (fun _=>true)
  (fun _ ih hs=>List.casesOn (motive:=fun _=>Bool) hs false (fun h hs=>AaL v (Dn Γ tm h o)&&ih hs)) n
def forget (l:List Step):Tr Aa->Tr Aa:=
 List.rec (motive:=fun _=>Tr Aa->Tr Aa) (fun t=>t) (fun s _ ih t=>ih (match s.dst with|some d=>Tr.set t d none|none=>t)) l
def BK (o:DC):Bool:=
 match o with
 |.m _=>true
 |_=>false
def VN (Γ:Ap) (f:Fr) (o:NJ) (back:Nat) (hs:List Ak) (w:Option Bool):Bool:=
 match w with
 |some true=>(match Dn Γ f.tm f.h o with
  |some v=>VB Γ f.tm o v back hs
  |none=>false)
 |some false=>true
 |none=>false
def L5 (Γ:Ap) (s:Step) (f:Fr) (hs:List Ak):Bool:=
 match s.op,s.back with
 |.r o,n+1=>VN Γ f o (n+1) hs (Dd f.tm s.guard)
 |_,_=>true
def Vg (Γ:Ap) (tm:Tr Aa) (h:Ak) (id:Nat) (o:DC):Option (Aa×Option Block):=
 match o with
 |.p o=>AA (Iz Γ tm o) fun v=>some (v,none)
 |.r o=>AA (Dn Γ tm h o) fun v=>some (v,none)
 |.a o=>AA (XQ tm id o) fun r=>some (r.2,some r.1)
 |.m _=>none
def Hz (Γ:Ap) (tm:Tr Aa) (h:Ak) (id:Nat) (s:Step):Option (Aa×Option Block):=
 AA (Dd tm s.guard) fun w=>bif w then Vg Γ tm h id s.op else some (I7,none)
def Ge (h:Ak) (id:Nat) (b:Option Block):Ak:=
 match b with
 |some B=>⟨Tr.set h.DD id (some B),h.next,h.fx⟩
 |none=>h
def AdE (f:Fr) (d:Option Nat) (id:Nat) (r:Aa×Option Block):Cb:=.go ⟨DI f.tm d r.1,Ge f.h id r.2,f.df⟩
def Iv (Γ:Ap) (call:Cl) (s:Step) (id:Nat) (f:Fr):Option Cb:=
 bif BK s.op then Iw Γ call s f else AA (Hz Γ f.tm f.h id s) fun r=>some (AdE f s.dst id r)
def KJ (l:List Step):Nat->Bool:=
 List.rec (motive:=fun _=>Nat->Bool) (fun _=>true) (fun s _ ih k=>bif BK s.op then ih (k+1)else Nat.ble s.back k&&ih k) l
def SU (all rest:List Step) (r:Cb) (k:Fr->Option Cb):Option Cb:=
 match r with
 |.go f=>k f
 |.panic v f=>bif KJ rest 0 then some (.panic v ⟨forget all f.tm,f.h,f.df⟩)else none
def Aml (id:Nat) (B:Block) (l:List Ak):List Ak:=
 List.rec (motive:=fun _=>List Ak) [] (fun h _ ih=>⟨Tr.set h.DD id (some B),h.next,h.fx⟩::ih) l
def Lc (h j:Ak) (id:Nat):Option Block:=
 match h.get id with
 |none=>j.get id
 |some _=>none
def Mg (id:Nat) (B:Option Block) (hs:List Ak):List Ak:=
 match B with
 |some B=>Aml id B hs
 |none=>hs
def Ll (Γ:Ap) (call:Cl) (all l:List Step):Nat->Fr->List Ak->Option Cb:=
 List.rec (motive:=fun _=>Nat->Fr->List Ak->Option Cb) (fun _ f _=>some (.go f))
  (fun s r ih id f hs=>bif L5 Γ s f hs then AA (Iv Γ call s id f) fun x=>SU all r x fun j=>ih (id+1) j (bif BK s.op then f.h::hs else Mg id (Lc f.h j.h id) hs)else none) l
def BQ (l:List Step):Nat:=List.rec (motive:=fun _=>Nat) 0 (fun _ _ ih=>ih+1) l
def Hp (n:Nat) (f:Fr):Fr:=⟨f.tm,⟨f.h.DD,f.h.next+n,f.h.fx⟩,f.df⟩
inductive Ba where
 |normal
 |exit (id:Nat)
 |ret
 |panic (v:Aa)
def F8 (r:Cb):Ba×Fr:=
 match r with
 |.go f=>(.normal,f)
 |.panic v f=>(.panic v,f)
def Ahv (b q len x j:Nat) (v:Aa):Aa:=
 match v with
 |.agg cs=>.agg (L0 b q len x j cs)
 |.tuple cs=>.tuple (L0 b q len x j cs)
 |v=>Vd b q len x j v
def AkM (b q len v j:Nat) (B:Block):Block:=
 match B with
 |.cells vs=>.cells (L0 b q len v j vs)
 |.typed e vs=>.typed e (L0 b q len v j vs)
 |B=>B
def Rg (b i j:Nat) (t:ST) (v:Aa):Aa:=
 match v with
 |.vec b' es' n=>bif Nat.beq b b'&&(Nat.beq j es'&&n.eq t)then .lst false i j t else v
 |v=>v
def Hw (b i j:Nat) (t:ST) (l:List Aa):List Aa:=
 List.rec (motive:=fun _=>List Aa) [] (fun v _ ih=>Rg b i j t v::ih) l
def Aev (b i j:Nat) (t:ST) (v:Aa):Aa:=
 match v with
 |.agg cs=>.agg (Hw b i j t cs)
 |.tuple cs=>.tuple (Hw b i j t cs)
 |v=>Rg b i j t v
def AkL (b i j:Nat) (t:ST) (B:Block):Block:=
 match B with
 |.cells vs=>.cells (Hw b i j t vs)
 |.typed e vs=>.typed e (Hw b i j t vs)
 |B=>B
def Ri (Γ:Ap) (z:Nat×Nat×Nat×Nat×Nat) (f:Fr):Fr:=
 match f.h.get z.1 with
 |some (.cells vs)=>bif Pg Γ z.2.1 z.2.2.1 z.2.2.2.1 z.2.2.2.2 vs then
   ⟨Tr.map (Ahv z.1 z.2.1 z.2.2.1 z.2.2.2.1 z.2.2.2.2) f.tm,⟨Tr.map (AkM z.1 z.2.1 z.2.2.1 z.2.2.2.1 z.2.2.2.2) (Tr.set f.h.DD z.1 none),f.h.next,f.h.fx⟩,f.df⟩else f
 |some (.list i es)=>bif Nat.beq i z.2.2.2.2 then (match EA i Γ.Bc with
  |some t=>⟨Tr.map (Aev z.1 i es t) f.tm,⟨Tr.map (AkL z.1 i es t) (Tr.set f.h.DD z.1 none),f.h.next,f.h.fx⟩,f.df⟩
  |none=>f)else f
 |_=>f
def Ve (Γ:Ap) (l:List (Nat×Nat×Nat×Nat×Nat)):Fr->Fr:=
 List.rec (motive:=fun _=>Fr->Fr) (fun f=>f) (fun z _ ih f=>ih (Ri Γ z f)) l
def Qw (Γ:Ap) (r:Ba×Fr):Ba×Fr:=
 match r.1,Γ.Od with
 |.normal,z::l=>(.normal,Ve Γ (z::l) r.2)
 |_,_=>r
def Q1 (Γ:Ap) (call:Cl) (q:Bool) (j:List Step) (f:Fr):Option (Ba×Fr):=
 AA (bif q then Ll Γ call j j f.h.next (Hp (BQ j) f) []else Ut Γ call j f) fun r=>some (Qw Γ (F8 r))
def andThen (r:Ba×Fr) (k:Fr->Option (Ba×Fr)):Option (Ba×Fr):=
 match r.1 with
 |.normal=>k r.2
 |_=>some r
def Acl (v:Aa) (t e:Option (Ba×Fr)):Option (Ba×Fr):=
 match v with
 |.bool (.lit b)=>bif b then t else e
 |_=>none
def Gl (id:Nat) (r:Ba×Fr):Ba×Fr:=
 match r.1 with
 |.exit i=>(bif Nat.beq i id then .normal else .exit i,r.2)
 |_=>r
def TB (tm:Tr Aa) (l:List (Nat×Aa)):List Nat->List Nat:=
 List.rec (motive:=fun _=>List Nat->List Nat) (fun σ=>σ) (fun p _ ih σ=>ih (Adc (WQ p.2) (WQ (Em (Tr.get tm p.1))) σ)) l
def WR (Γ:Ap) (σ:List Nat) (tm:Tr Aa) (l:List (Nat×Aa)):Bool:=
 List.rec (motive:=fun _=>Bool) true (fun p _ ih=>Ng Γ σ p.2 (Em (Tr.get tm p.1))&&ih) l
def Uy (σ:List Nat) (l:List (Nat×Aa)):Tr Aa->Option (Tr Aa):=
 List.rec (motive:=fun _=>Tr Aa->Option (Tr Aa)) (fun t=>some t) (fun p _ ih t=>AA (Uz σ p.2) fun v=>ih (Tr.set t p.1 (some v))) l
def Ox (l:List (Nat×Aa)):Tr Aa->Tr Aa:=
 List.rec (motive:=fun _=>Tr Aa->Tr Aa) (fun t=>t) (fun p _ ih t=>ih (Tr.set t p.1 (some p.2))) l
def AdG (Γ:Ap) (σ:List Nat) (p a:List (FuncId×List Aa)):Bool:=
 match p,a with
 |[],[]=>true
 |[p],[a]=>Nat.beq p.1 a.1&&KA Γ σ p.2 a.2
 |_,_=>false
def YC (p a:List (FuncId×List Aa)) (σ:List Nat):List Nat:=
 match p,a with
 |[p],[a]=>Adc p.2 a.2 σ
 |_,_=>σ
def AaV (σ:List Nat) (p:List (FuncId×List Aa)):Option (List (FuncId×List Aa)):=
 match p with
 |[]=>some []
 |[p]=>AA (Mn σ p.2) fun l=>some [(p.1,l)]
 |_=>none
def Aex (Γ:Ap) (k:B4) (f:Fr) (σ:List Nat):Bool:=
 AdG Γ σ k.df f.df&&(Nat.beq (Ip σ) (G0 k.pre)&&(Nat.ble (G0 k.pre) (SE k.post)&&(II σ&&(WR Γ σ f.tm k.Xr&&Yj Γ f.h σ k.pre 0))))
def B4.MW (k:B4):Ba:=bif k.out then .ret else .exit k.id
def Acy (k:B4) (h:Ak) (σ:List Nat):Option (Ba×Fr):=
 AA (OG σ k.post 0 ⟨h.DD,h.next+(SE k.post-G0 k.pre),h.fx⟩) fun j=>AA (Uy σ k.NM .nil) fun tm=>AA (AaV σ k.df) fun df=>some (k.MW,⟨tm,j,df⟩)
def L9 (Γ:Ap) (k:B4) (f:Fr):Option (Ba×Fr):=
 bif Aex Γ k f (RT f.h k.pre 0 (YC k.df f.df (TB f.tm k.Xr [])))then Acy k f.h (RT f.h k.pre 0 (YC k.df f.df (TB f.tm k.Xr []))++Lb k.post (G0 k.pre) f.h.next)else none
def I0 (Γ:Ap) (cur:Nat) (f:Fr) (l:List B4):Option (Ba×Fr):=
 List.rec (motive:=fun _=>Option (Ba×Fr)) none (fun k _ ih=>bif Nat.beq k.id cur then (match L9 Γ k f with|some x=>some x|none=>ih)else ih) l
def iter (o body:Fr->Option (Ba×Fr)) (n:Nat):Fr->Option (Ba×Fr):=
 Nat.rec (motive:=fun _=>Fr->Option (Ba×Fr)) (fun _=>none) (fun _ ih f=>match o f with
  |some r=>some r
  |none=>AA (body f) fun r=>andThen r ih) n
def Fy (Γ:Ap) (call:Cl) (fuel:Nat) (c:IC):Nat->Fr->Option (Ba×Fr):=
 IC.rec (motive:=fun _=>Nat->Fr->Option (Ba×Fr))
  (fun _ f=>some (.normal,f))
  (fun d j _ f=>Q1 Γ call d j f)
  (fun _ _ a b k f=>AA (a k f) fun r=>andThen r fun q=>b k q)
  (fun c _ _ t e k f=>Acl (ev f.tm c) (t k f) (e k f))
  (fun id _ b _ f=>AA (b id f) fun r=>some (Gl id r))
  (fun _ b k f=>iter (fun f=>I0 Γ k f Γ.loops) (fun f=>b k f) fuel f)
  (fun id _ f=>some (.exit id,f))
  (fun _ f=>some (.ret,f)) c
def N6 (l:List Aa):Nat->Tr Aa->Tr Aa:=
 List.rec (motive:=fun _=>Nat->Tr Aa->Tr Aa) (fun _ t=>t) (fun v _ ih i t=>ih (i+1) (Tr.set t i (some v))) l
def exec (Γ:Ap) (call:Cl) (fuel:Nat) (c:IC) (f:Fr):Option (Ba×Fr):=Fy Γ call fuel c 0 f
def Qz (tm:Tr Aa) (h:Ak) (r:RO):Option Aa:=
 match r with
 |.tmp t=>some (Em (Tr.get tm t))
 |.cell t n=>MA h.fx h n (Em (Tr.get tm t))
def AaQ (tm:Tr Aa) (h:Ak) (l:List RO):Option (List Aa):=
 List.rec (motive:=fun _=>Option (List Aa)) (some []) (fun x _ ih=>AA (Qz tm h x) fun v=>AA ih fun vs=>some (v::vs)) l
def oneOf (vs:List Aa):Aa:=
 match vs with
 |[v]=>v
 |vs=>.tuple vs
inductive CA where
 |returning
 |panicking (v:Aa)
abbrev RP:=FuncId->List Aa->CA->Ak->Option (CA×Ak)
def QL (j:RP) (l:List (FuncId×List Aa)):CA->Ak->Option (CA×Ak):=
 List.rec (motive:=fun _=>CA->Ak->Option (CA×Ak)) (fun m h=>some (m,h)) (fun d _ ih m h=>AA (j d.1 d.2 m h) fun r=>ih r.1 r.2) l
def Aeq (F:Eu) (tm:Tr Aa) (r:CA×Ak):Option (NG×Ak):=
 match r.1 with
 |.returning=>AA (AaQ tm r.2 F.results) fun vs=>some (.ret (oneOf vs),r.2)
 |.panicking v=>some (.panic v,r.2)
def QF (e:Ba):Option CA:=
 match e with
 |.normal=>some .returning
 |.ret=>some .returning
 |.panic v=>some (.panicking v)
 |.exit _=>none
def Hg (F:Eu) (args:List Aa) (h:Ak):Fr:=⟨N6 args 0 (Tr.full Aa F.depth),h,[]⟩
def P0 (Γ:Ap) (call:Cl) (j:RP) (fuel:Nat) (F:Eu) (args:List Aa) (h:Ak):Option (NG×Ak):=
 AA (exec Γ call fuel F.body (Hg F args h)) fun r=>AA (QF r.1) fun m=>AA (QL j r.2.df m r.2.h) fun x=>Aeq F r.2.tm x
def FU (m:CA) (r:Ba×Fr):Option (CA×Ak):=
 match r.1,r.2.df with
 |.normal,[]=>some (m,r.2.h)
 |.ret,[]=>some (m,r.2.h)
 |_,_=>none
def recovered (m:CA):Aa:=
 match m with
 |.panicking v=>v
 |.returning=>.nilIface
def KI (Γ:Ap) (call:Cl) (fuel:Nat) (F:Eu) (args:List Aa) (m:CA) (h:Ak):Option (CA×Ak):=
 match F.body,F.results with
 |.seq (.region false (⟨dst,none,.m .recover,_⟩::steps)) rest,[]=>
  AA (Ut Γ call steps ⟨DI (Hg F args h).tm dst (recovered m),h,[]⟩) fun r=>AA (andThen (F8 r) fun f=>exec Γ call fuel rest f) fun r=>FU .returning r
 |body,[]=>AA (exec Γ call fuel body (Hg F args h)) fun r=>FU m r
 |_,_=>none
abbrev Bk:=List Aa->Ak->Option (NG×Ak)
def Q9 (o:Option Bk) (args:List Aa) (h:Ak) (k:Unit->Option (NG×Ak)):Option (NG×Ak):=
 match o with
 |some f=>(match f args h with|some r=>some r|none=>k ())
 |none=>k ()
def Lp (Γ:Ap) (j:FuncId->Option Bk) (DD:FuncId->Option Eu) (fuel d:Nat):Cl:=
 Nat.rec (motive:=fun _=>Cl) (fun _ _ _=>none)
  (fun _ ih f args h=>Q9 (j f) args h (fun _=>AA (DD f) fun F=>P0 Γ ih (fun f args m h=>AA (DD f) fun F=>KI Γ ih fuel F args m h) fuel F args h)) d
def Ap.bare (Γ:Ap):Ap:={Γ with loops:=[]}
def AeR (Γ:Ap) (j:FuncId->Option Bk) (DD:FuncId->Option Eu) (fuel d:Nat):Cl:=fun f args h=>
 AA (DD f) fun F=>P0 Γ (Lp Γ.bare j DD fuel d) (fun f args m h=>AA (DD f) fun F=>KI Γ.bare (Lp Γ.bare j DD fuel d) fuel F args m h) fuel F args h
def inK (k:IntKind) (t:ST):Bool:=
 match t with
 |.lit n=>bif HX k then ile (.negSucc (modulus k/2-1)) n&&ile n (.ofNat (modulus k/2-1))else ile (.ofNat 0) n&&ile n (.ofNat (modulus k-1))
 |_=>false
def WG (Γ:Ap) (t:ST):Bool:=
 match t with
 |.lit n=>inK .i64 (.lit n)
 |.conv k _=>UM k .i64
 |.bin .add k _ _=>UM k .i64
 |t=>CN (BS Γ.tests .geq t (.lit (.negSucc 9223372036854775807)))&&CN (BS Γ.tests .leq t (.lit (.ofNat 9223372036854775807)))
def MF (Γ:Ap):Bk:=fun args h=>
 match args with
 |[.int .i64 n,.int .i64 (.lit (.ofNat 10))]=>bif WG Γ n then some (.ret (.anyStr 21),h)else none
 |_=>none
def MG (Γ:Ap):Bk:=fun args h=>
 match args with
 |[.int .i64 n]=>bif WG Γ n then some (.ret (.anyStr 21),h)else none
 |_=>none
def SA (f:Nat) (l:List (Nat×Bk)):Option Bk:=
 List.rec (motive:=fun _=>Option Bk) none (fun x _ ih=>bif Nat.beq x.1 f then some x.2 else ih) l
def Acz (x:BO) (h:Ak) (σ:List Nat):Option (NG×Ak):=
 AA (OG σ x.post 0 ⟨h.DD,h.next+(SE x.post-G0 x.pre),h.fx⟩) fun j=>AA (Uz σ x.res) fun v=>some (.ret v,j)
def R4 (x:BO):Bk:=fun args h=>
 let σ:=RT h x.pre 0 (VI x.args args [])
 bif Aew x args h σ then Acz x h (σ++Lb x.post (G0 x.pre) h.next)else none
def JM (l:List BO):Bk:=
 List.rec (motive:=fun _=>Bk) (fun _ _=>none) (fun x _ ih args h=>match R4 x args h with|some y=>some y|none=>ih args h) l
def YO:Bk:=fun args h=>
 match args with
 |[]=>some (.ret yes,h)
 |_=>none
end
end
section
def strOf (s:ByteArray):List Nat:=s.data.toList.map (·.toNat)
mutual
def GB:Value->Aa
 |.bool b=>.bool (.lit b)
 |.int k n=>.int k (.lit n)
 |.string s=>.str (strOf s)
 |.pointer none=>.nilPtr
 |.slice none 0 0=>.nilSlice
 |.map none=>.nilMap
 |.nilFunc=>.nilFunc
 |.nilIface=>.nilIface
 |.agg ⟨cs⟩=>if (T6 cs).all (·.single)then .agg (T6 cs)else .any
 |_=>.any
def T6:List Value->List Aa
 |[]=>[]
 |v::r=>GB v::T6 r
end
def AD:Operand->Ct
 |.tmp t=>.tmp t
 |.const v=>.con (GB v)
 |.func f=>.con (.func f [] [])
 |.global _=>.con .any
def BU (l:List Operand):List Ct:=l.map AD
def AW (P:Program) (t:TypeId):Option Nat:=(P.info? t).map (·.size)
def DO (P:Program) (t:TypeId):Option (Option Nat):=
 match P.underlying t,P.info? t with
 |some (.struct _),some i|some (.array _ _),some i=>some (some i.size)
 |some _,some _=>some none
 |_,_=>none
def GR (P:Program) (t:TypeId):Option (List Aa):=
 match P.info? t with
 |some i=>i.zero.bind fun v=>(GB v).cells.bind fun cs=>if cs.all (·.single)then some cs else none
 |none=>none
def Dy {α:Type}:List (Option (List α))->Option (List α)
 |[]=>some []
 |some a::r=>(Dy r).map (a++·)
 |none::_=>none
def LK.no:LK->Nat
 |.bool=>0
 |.int=>1
 |.str=>2
def Cr (k:Nat) (l:List (Nat×LK)):List (Nat×LK):=l.map fun x=>(k+x.1,x.2)
def below (n:Nat) (l:List (Nat×LK)):Bool:=l.all fun x=>Nat.blt x.1 n
def leaves (P:Program):Nat->TypeId->Option (List (Nat×LK))
 |0,_=>none
 |d+1,t=>match P.underlying t with
  |some .bool=>some [(0,.bool)]
  |some (.int _)=>some [(0,.int)]
  |some .string=>some [(0,.str)]
  |some (.struct fs)=>if P.stoodInHeld t then none else Dy (fs.toList.map fun f=>if f.name= "_" then none else
    match leaves P d f.type,AW P f.type with
    |some l,some n=>if below n l&&Nat.ble (f.offset+n) (P.cellsOf t)then some (Cr f.offset l)else none
    |_,_=>none)
  |some (.array k e)=>match leaves P d e,AW P e with
   |some l,some n=>if below n l&&Nat.ble (k*n) (P.cellsOf t)then some ((List.range k).flatMap fun i=>Cr (i*n) l)else none
   |_,_=>none
  |_=>none
def DU:List (Nat×LK)->List (Nat×LK)->Bool
 |[],[]=>true
 |a::x,b::y=>Nat.beq a.1 b.1&&Nat.beq a.2.no b.2.no&&DU x y
 |_,_=>false
def K2 (P:Program) (t:TypeId):Bool:=
 match DO P t with
 |some (some _)=>true
 |_=>false
def QY (P:Program) (pl:List Co):Bool:=
 pl.all fun x=>(match leaves P 6 x.t with|some l=>DU l x.SF|none=>false)&&((P.info? x.t).map (·.comparable)).getD false&&beq (K2 P x.t) x.agg
def XW (P:Program) (t:TypeId):Option LK:=
 match P.underlying t with
 |some .bool=>some .bool
 |some (.int _)=>some .int
 |some .string=>some .str
 |_=>none
def DX:Operand->Bool
 |.const .nilIface=>true
 |_=>false
def partsOf (j:Nat->Option (Nat×Nat)):List (Nat×Operand)->Option (List (Nat×Nat×Ct))
 |[]=>some []
 |(i,x)::r=>match j i,partsOf j r with
  |some (off,size),some ps=>some ((off,size,AD x)::ps)
  |_,_=>none
def RC (P:Program) (pl:List Co) (j:Bool) (t:TypeId) (x y:Operand):Option POp:=
 match P.underlying t with
 |some .bool=>some (.eqs j .bool (AD x) (AD y))
 |some (.pointer e)=>(AW P e).bind fun _=>some (.eqs j .ptr (AD x) (AD y))
 |some (.slice _)=>some (.eqs j .slice (AD x) (AD y))
 |some (.map _ _)=>some (.eqs j .map (AD x) (AD y))
 |some (.func _ _ _)=>some (.eqs j .func (AD x) (AD y))
 |some (.struct _) |some (.array _ _)=>match leaves P 6 t with
  |some l=>if P.eqGuardType P.depth t then none else some (.eqs j (.plain l) (AD x) (AD y))
  |none=>none
 |some (.interface ms)=>if QY P pl then some (.eqs j (.iface (ms.isEmpty||DX x||DX y) pl) (AD x) (AD y))else none
 |_=>none
def WY (P:Program) (pl:List Co) (op:BinOp) (t:TypeId) (x y:Operand):Option POp:=
 match P.underlying t,op with
 |some (.int _),_=>some (.bin op (AD x) (AD y))
 |some .string,_=>some (.bin op (AD x) (AD y))
 |some _,.eql=>RC P pl false t x y
 |some _,.neq=>RC P pl true t x y
 |_,_=>none
def u8T (P:Program) (e:TypeId) (size:Nat):Option Nat:=
 match P.underlying e,P.info? e with
 |some (.int .u8),some i=>(match i.zero with|some (.int .u8 (.ofNat 0))=>if Nat.beq size 1 then some e else none|_=>none)
 |_,_=>none
def ED (P:Program) (e:TypeId) (bytes:Bool) (x y:Operand):Option DC:=
 match P.info? e with
 |some i=>if i.bytes<=1048576&&(i.zero.map fun v=>Nat.beq v.cells.size i.size).getD false then some (.m (.append i.size (u8T P e i.size) bytes (AD x) (AD y)))else none
 |none=>none
def fieldsOf (P:Program) (t:TypeId):List Field:=
 match P.underlying t with
 |some (.struct fs)=>fs.toList
 |_=>[]
def Abk (P:Program) (t:TypeId):Bool:=
 match fieldsOf P t with
 |f::_=>(match P.underlying f.type with|some (.pointer u)=>Nat.beq u t|_=>false)
 |[]=>false
def Ab0 (P:Program) (t:TypeId):Bool:=
 Abk P t||(match fieldsOf P t with|f::_=>Abk P f.type|[]=>false)
def RY (P:Program) (t:TypeId):Option Nat:=if Ab0 P t then some t else none
def GY (P:Program) (p:TypeId->Nat->Bool):List (Nat×Nat):=
 (List.range P.types.size).filterMap fun e=>if Ab0 P e then (match P.info? e with|some i=>if Nat.ble 1 i.size&&p e i.size then some (e,i.size)else none|none=>none)else none
def Np (P:Program) (s d:TypeId) (x:Operand):Option DC:=
 match P.underlying s,P.underlying d with
 |some (.int _),some (.int k)=>some (.p (.conv k (AD x)))
 |some .string,some .string=>some (.p (.same (AD x)))
 |some (.slice e),some .string=>(match P.underlying e with|some (.int .u8)=>some (.r (.bstr (AD x))) |_=>none)
 |some (.pointer t),some .unsafePointer=>(match AW P t with|some (_+1)=>some (.r (.uptr (GY P fun _ _=>true) (AD x))) |_=>none)
 |some .unsafePointer,some (.pointer u)=>(AW P u).map fun _=>.r (.uptr (GY P fun e n=>liesAt P P.depth e (n/P.cellsOf e) 0 u 1) (AD x))
 |_,_=>none
def IX (P:Program) (t:TypeId) (ok:Bool) (x:Operand):Option DC:=
 match P.underlying t,P.info? t with
 |some (.interface _),_=>none
 |some _,some i=>if ok then i.zero.map fun z=>.p (.assert t (some (GB z)) (AD x))else some (.p (.assert t none (AD x)))
 |_,_=>none
def EX (P:Program) (c:Call):Option DC:=
 match c.callee with
 |.value (.func f)=>match P.funcs[f]? with
  |some fn=>if fn.body.isSome then some (.m (.call (AD (.func f)) (BU c.args.toList)))
   else if fn.name== "maps.clone" &&fn.origin== "" then (match c.args.toList with|[x]=>some (.m (.clone (AD x))) |_=>none)
   else if fn.name== "internal/abi.NoEscape" &&fn.origin== "" then (match c.args.toList with|[x]=>some (.m (.Abw (AD x))) |_=>none)
   else none
  |none=>none
 |.value f=>some (.m (.call (AD f) (BU c.args.toList)))
 |.invoke _ _=>none
 |.builtin b=>match b,c.args.toList,c.argTypes.toList with
  |.len,[x],[t]=>match P.underlying t with
   |some .string=>some (.p (.Ahm (AD x)))
   |some (.slice _)=>some (.p (.Ahn (AD x)))
   |some (.array n _)=>some (.p (.mv (.con (lit .i64 (.ofNat n)))))
   |some (.map _ _)=>some (.r (.lenM (AD x)))
   |_=>none
  |.append,[x,y],[t,u]=>match P.underlying t,P.underlying u with
   |some (.slice e),some (.slice _)=>ED P e false x y
   |some (.slice e),some .string=>ED P e true x y
   |_,_=>none
  |.copy,[x,y],[t,u]=>match P.underlying t,P.underlying u with
   |some (.slice e),some (.slice _)=>(AW P e).map fun n=>.m (.copy n false (AD x) (AD y))
   |some (.slice e),some .string=>(AW P e).map fun n=>.m (.copy n true (AD x) (AD y))
   |_,_=>none
  |.max,xs,_=>some (.p (.big true (BU xs)))
  |.min,xs,_=>some (.p (.big false (BU xs)))
  |.recover,[],_=>some (.m .recover)
  |.unsafeSliceData,[x],_=>some (.p (.AaJ (AD x)))
  |.unsafeString,[p,n],[pt,_]=>match P.underlying pt with
   |some (.pointer e)=>if Nat.beq (P.cellsOf e) 1 then some (.m (.AeO e (AD p) (AD n)))else none
   |_=>none
  |_,_,_=>none
def Dq (P:Program) (pl:List Co) (o:Oper):Option DC:=
 match o.op with
 |.move x|.assign x=>some (.p (.mv (AD x)))
 |.pick c a b=>some (.p (.pick (AD c) (AD a) (AD b)))
 |.alloc t=>(GR P t).map fun z=>.a (.zero (RY P t) z)
 |.box t x=>some (.a (.box (RY P t) (AD x)))
 |.build t parts=>match P.underlying t,GR P t with
  |some (.struct fs),some z=>if fs.all fun f=>(P.info? f.type).isSome then (partsOf (fun i=>(fs[i]?).bind fun f=>(AW P f.type).map fun n=>(f.offset,n)) parts.toList).map fun ps=>.p (.build z ps)else none
  |some (.array _ e),some z=>(AW P e).bind fun n=>(partsOf (fun i=>some (i*n,n)) parts.toList).map fun ps=>.p (.build z ps)
  |_,_=>none
 |.buildSlice t len parts=>match P.underlying t with
  |some (.slice e)=>match AW P e,GR P e with
   |some n,some z=>if len*n<=65536&&z.length==n then (partsOf (fun i=>some (i*n,n)) parts.toList).map fun ps=>.a (.bslice len (List.replicate len z).flatten ps)else none
   |_,_=>none
  |_=>none
 |.insert t m k v|.mapUpdate t m k v=>match P.underlying t with
  |some (.map kt _)=>(XW P kt).map fun kk=>.m (.mapUp kk (AD m) (AD k) (AD v))
  |_=>none
 |.load t x=>(DO P t).map fun n=>.r (.load n (AD x))
 |.store t a x=>(AW P t).map fun n=>.m (.store n (AD a) (AD x))
 |.nilCheck x=>some (.p (.Ahi (AD x)))
 |.binOp op t x y _=>(WY P pl op t x y).map .p
 |.unOp op _ x=>some (.p (.un op (AD x)))
 |.convert s d x=>Np P s d x
 |.typeAssert x _ t ok=>IX P t ok x
 |.makeInterface t x=>match P.underlying t with
  |some (.interface _)=>none
  |some _=>some (.p (.iface t (AD x)))
  |none=>none
 |.makeFunc (.func f) a c=>some (.p (.func f (BU a.toList) (BU c.toList)))
 |.makeMap t r=>match P.underlying t,r with
  |some (.map _ _),none|some (.map _ _),some (.const (.int _ _))=>some (.a .mkMap)
  |_,_=>none
 |.makeSlice t l c=>match P.underlying t with
  |some (.slice e)=>match P.info? e,GR P e with
   |some i,some z=>if i.bytes<=1048576&&z.length==i.size then some (.a (.mkSlice z (AD l) (AD c)))else none
   |_,_=>none
  |_=>none
 |.slice t x lo hi mx=>match P.underlying t,mx with
  |some .string,none=>some (.p (.subs (AD x) (lo.map AD) (hi.map AD)))
  |some (.slice e),none=>(AW P e).map fun n=>.p (.reslice n (AD x) (lo.map AD) (hi.map AD) none)
  |some (.slice e),some m=>if hi.isSome then (AW P e).map fun n=>.p (.reslice n (AD x) (lo.map AD) (hi.map AD) (some (AD m)))else none
  |_,_=>none
 |.fieldAddr t x f=>match P.underlying t with
  |some (.struct fs)=>(fs[f]?).bind fun g=>match AW P g.type with
   |some (_+1)=>some (.p (.Vi g.offset (AD x)))
   |_=>none
  |_=>none
 |.field t x f=>match P.underlying t with
  |some (.struct fs)=>(fs[f]?).bind fun g=>(DO P g.type).map fun n=>.p (.field g.offset n (AD x))
  |_=>none
 |.indexAddr t x i=>match P.underlying t with
  |some (.slice e)=>(AW P e).map fun n=>.p (.Ahs n (AD x) (AD i))
  |some (.array len e)=>(AW P e).map fun n=>.p (.UO len n (AD x) (AD i))
  |_=>none
 |.index t x i=>match P.underlying t with
  |some (.array len e)=>match AW P e,DO P e with
   |some n,some a=>some (.p (.idx len n a (AD x) (AD i)))
   |_,_=>none
  |some .string=>some (.p (.Ahr (AD x) (AD i)))
  |_=>none
 |.lookup t x k ok=>match P.underlying t with
  |some (.map kt e)=>match P.info? e,XW P kt with
   |some i,some kk=>i.zero.map fun z=>.r (.lookup kk (GB z) ok (AD x) (AD k))
   |_,_=>none
  |_=>none
 |.extract x i=>some (.p (.ext (AD x) i))
 |.panic x=>some (.m (.panic (AD x)))
 |.call c=>EX P c
 |.defer {callee:=.value f,args,.. }=>some (.m (.defer (AD f) (BU args.toList)))
 |_=>none
def guardOf (q:Array Oper):Option (Nat×Bool)->Option (Option (Nat×Bool))
 |none=>some none
 |some (j,want)=>match (q[j]?).bind (·.dst)with
  |some d=>some (some (d,want))
  |none=>none
def stepOf (P:Program) (pl:List Co) (nt:Nat) (j:Array Oper) (o:Oper) (back:Nat):Option Step:=
 match Dq P pl o,guardOf j o.guard with
 |some op,some g=>if (o.dst.all fun d=>Nat.blt d nt)&&(g.all fun x=>Nat.blt x.1 nt)then some ⟨o.dst,g,op,back⟩else none
 |_,_=>none
def B3 {α:Type}:List (Option α)->Option (List α)
 |[]=>some []
 |some a::r=>(B3 r).map (a::·)
 |none::_=>none
def Q8 (before:Array Nat) (n:Nat):List Nat->List Nat->List Nat
 |[],done=>done++(List.range n).filter fun i=>!done.contains i
 |m::ms,done=>Q8 before n ms (done++(List.range n).filter fun i=>!done.contains i&&(i==m||(before.getD m 0).testBit i))
def Ct.names:Ct->List Nat
 |.tmp t=>[t]
 |.con _=>[]
def POp.BU:POp->List Ct
 |.mv x|.Ahi x|.un _ x|.conv _ x|.same x|.iface _ x|.Vi _ x|.field _ _ x|.ext x _|.Ahm x|.Ahn x|.assert _ _ x|.AaJ x=>[x]
 |.pick c a b=>[c,a,b]
 |.build _ ps=>ps.map (·.2.2)
 |.bin _ x y|.eqs _ _ x y|.Ahs _ x y|.UO _ _ x y|.idx _ _ _ x y|.Ahr x y=>[x,y]
 |.func _ a c=>a++c
 |.subs x lo hi=>x::(lo.toList++hi.toList)
 |.reslice _ x lo hi mx=>x::(lo.toList++(hi.toList++mx.toList))
 |.big _ xs=>xs
def NJ.BU:NJ->List Ct
 |.load _ x|.lenM x|.uptr _ x|.bstr x=>[x]
 |.lookup _ _ _ x k=>[x,k]
def AOp.BU:AOp->List Ct
 |.box _ x=>[x]
 |.zero _ _|.mkMap=>[]
 |.bslice _ _ ps=>ps.map (·.2.2)
 |.mkSlice _ l c=>[l,c]
def MOp.BU:MOp->List Ct
 |.store _ a x|.append _ _ _ a x|.copy _ _ a x|.AeO _ a x=>[a,x]
 |.call f args|.defer f args=>f::args
 |.mapUp _ m k v=>[m,k,v]
 |.clone x|.panic x|.Abw x=>[x]
 |.recover=>[]
def DC.BU:DC->List Ct
 |.p o=>o.BU
 |.r o=>o.BU
 |.a o=>o.BU
 |.m o=>o.BU
def Step.names (s:Step):List Nat:=
 match s.guard with
 |some g=>g.1::s.op.BU.flatMap Ct.names
 |none=>s.op.BU.flatMap Ct.names
def VA (W:Nat->Nat->Bool) (x y:Nat×Step):Bool:=
 !(Nat.beq x.1 y.1)&&(!BK y.2.op||W x.1 y.1)&&
 (match x.2.dst with
  |some d=>(match y.2.dst with|some e=>!(Nat.beq e d) |none=>true)&&(!(y.2.names.any (Nat.beq d)) ||W x.1 y.1)
  |none=>true)&&
 (match y.2.dst with
  |some d=>!(x.2.names.any (Nat.beq d)) ||W x.1 y.1
  |none=>true)
def N4 (W:Nat->Nat->Bool) (x:Nat):List (Nat×Step)->Nat->Bool
 |[],_=>true
 |y::r,k=>if BK y.2.op then N4 W x r (k+1)else (Nat.blt k y.2.back||W x y.1)&&N4 W x r k
def Aek (s:Step):Bool:=
 match s.dst with
 |some d=>!(s.names.any (Nat.beq d))
 |none=>true
def okD (W:Nat->Nat->Bool):List (Nat×Step)->Bool
 |[]=>true
 |x::r=>Aek x.2&&(r.all (VA W x)&&((!BK x.2.op||N4 W x.1 r 0)&&okD W r))
def CO (j:Array Oper) (i:Nat):List Nat:=
 match j[i]? with
 |some o=>(o.after.toList.filter (Region.binds .any)).map (·.on)
 |none=>[]
def XV (j:Array Oper):List Nat->Bool
 |[]=>true
 |i::r=>(CO j i).all (fun e=>Nat.blt e i&&!(r.any (Nat.beq e)))&&XV j r
def waits (before:List Nat) (i j:Nat):Bool:=(before.getD j 0).testBit i
def I4 (q:Array Oper) (before:List Nat):Bool:=
 (List.range q.size).all fun j=>(List.range q.size).all fun i=>!(waits before i j) ||
  (CO q j).any fun e=>Nat.blt e j&&(Nat.beq e i||waits before i e)
def Acw (before:Array Nat) (muts j:List Nat) (i:Nat):Nat:=
 let seen:=(j.takeWhile (·!=i)).filter muts.contains
 (seen.filter fun m=>!(before.getD i 0).testBit m).length
def Ach (q:Array Oper) (before j:List Nat) (v:List Step):Bool:=
 Nat.beq j.length v.length&&Nat.beq j.length q.size&&((List.range q.size).all (fun i=>j.any (Nat.beq i))&&(j.all (fun i=>Nat.blt i q.size)&&(XV q j&&(I4 q before&&okD (waits before) (j.zip v)))))
def Nn (P:Program) (pl:List Co) (nt:Nat) (j:Array Oper):Option (List Step):=
 let before:=Region.before j
 match B3 (j.toList.map (Dq P pl))with
 |none=>none
 |some iops=>
  let muts:=(List.range j.size).filter fun i=>(iops[i]?.map BK).getD false
  let q:=Q8 before j.size muts []
  match B3 (q.map fun i=>(j[i]?).bind fun o=>stepOf P pl nt j o (Acw before muts q i))with
  |some steps=>if Ach j before.toList q steps then some steps else none
  |none=>none
def Gv (P:Program) (pl:List Co) (nt:Nat) (j:Array Oper) (q:Bool):Option (List Step):=
 if q then Nn P pl nt j else B3 (j.toList.map fun o=>stepOf P pl nt j o 0)
def AS (P:Program) (pl:List Co) (nt:Nat):Code->Option IC
 |.skip=>some .skip
 |.region _ ops draw=>(Gv P pl nt ops draw).map (.region draw)
 |.seq a b=>match AS P pl nt a,AS P pl nt b with
  |some a,some b=>some (.seq a b)
  |_,_=>none
 |.cond c a b=>match AS P pl nt a,AS P pl nt b with
  |some a,some b=>some (.cond (AD c) a b)
  |_,_=>none
 |.block id b=>(AS P pl nt b).map (.block id)
 |.loop b=>(AS P pl nt b).map .loop
 |.exit id=>some (.exit id)
 |.ret=>some .ret
 |.refuse _=>some (.cond (.con .any) .skip .skip)
 |_=>none
def Gu (P:Program):ResultVar->Option RO
 |.tmp t=>some (.tmp t)
 |.cell a t=>(DO P t).map (.cell a)
def AdJ (n:Nat):Nat:=Nat.log2 (n+1)+1
def EC (P:Program) (pl:List Co) (fn:Func):Option Eu:=
 match fn.body with
 |none=>none
 |some c=>match AS P pl fn.ntmps c,B3 (fn.results.toList.map (Gu P))with
  |some body,some results=>some {depth:=AdJ fn.ntmps,results,body}
  |_,_=>none
end
section
inductive PV where
 |bool (b:Bool)
 |int (k:IntKind) (n:Int)
 |str (s:List Nat)
 |list (es:Nat) (l:List (List PV))
 |nilp
structure Env where
 val:Nat->Int
 AO:Nat->Option Obj:=fun _=>none
 str:Nat->List Nat:=fun _=>[]
 lst:Nat->List (List PV):=fun _=>[]
 map:Nat->List (List Nat×List PV):=fun _=>[]
instance:Coe Env (Nat->Int):=⟨Env.val⟩
theorem QT (a b:Int):ile a b=decide (a<=b):=by
 rw [Bool.eq_iff_iff]
 cases a<;>cases b<;>simp [ile]<;>omega
theorem QV (a b:Int):Y8 a b=(a==b):=by
 rw [Bool.eq_iff_iff]
 cases a<;>cases b<;>simp [Y8]<;>omega
theorem QU {a b:Int}:Y8 a b=true↔a=b:=by rw [QV];simp
theorem Ahp (a b:Int):ilt a b=decide (a<b):=by
 unfold ilt;rw [QT,Bool.eq_iff_iff];simp
theorem Di {a b:IntKind}:UM a b=true↔a=b:=by
 cases a<;>cases b<;>simp [UM,UL]
theorem Hq {a b:BinOp}:NR a b=true↔a=b:=by
 cases a<;>cases b<;>simp [NR,XF]
theorem beq_eq (a b:Bool):beq a b=(a==b):=by cases a<;>cases b<;>rfl
theorem L6 (n:Int) (m:Nat) (j:0<m):(Fg n m:Int)=n%(m:Int):=by
 cases n with
 |ofNat a=>simp [Fg]
 |negSucc a=>
  have h:=Nat.mod_lt a j
  simp only [Fg]
  rw [Int.negSucc_emod a (by omega:(0:Int)<(m:Int))]
  omega
theorem Ad6 (n:Int) (m:Nat) (j:0<m):Fg n m<m:=by
 cases n with
 |ofNat a=>exact Nat.mod_lt _ j
 |negSucc a=>simp only [Fg];have h:=Nat.mod_lt a j;omega
theorem Hr (k:IntKind):0<modulus k:=by cases k<;>decide
theorem IJ (k:IntKind):(2:Int)^k.bits=(modulus k:Int):=by cases k<;>rfl
theorem QE (k:IntKind):(2:Int)^(k.bits-1)*2=(modulus k:Int):=by cases k<;>rfl
theorem Uq (k:IntKind):HX k=k.signed:=by cases k<;>rfl
theorem FY (k:IntKind) (n:Int) (m:Nat) (h:n%(2^k.bits:Int)=(m:Int)) (v:m<modulus k):k.wrap n=back k m:=by
 have x:=QE k
 unfold IntKind.wrap back
 simp only [h]
 rw [IJ,Uq]
 cases hs:k.signed with
 |false=>simp
 |true=>
  simp only [Bool.true_and]
  by_cases hc:modulus k<=m+m
  ·have q:Nat.ble (modulus k) (m+m)=true:=by simpa using hc
   have j:decide ((m:Int)>=2^(k.bits-1))=true:=by simp;omega
   rw [if_pos (by simpa using j),q]
   simp only [cond_true]
   omega
  ·have q:Nat.ble (modulus k) (m+m)=false:=by
    cases h':Nat.ble (modulus k) (m+m)with
    |false=>rfl
    |true=>exact absurd (Nat.le_of_ble_eq_true h') hc
   have j:¬((m:Int)>=2^(k.bits-1)):=by omega
   rw [if_neg (by simpa using j),q]
   rfl
theorem GU (k:IntKind) (n:Int):KS k n=k.wrap n:=by
 unfold KS
 exact (FY k n _ (by rw [IJ,L6 _ _ (Hr k)]) (Ad6 _ _ (Hr k))).symm
theorem Wz (k:IntKind) (x:Int):Fg x (modulus k)=(BitVec.ofInt k.bits x).toNat:=by
 rw [BitVec.toNat_ofInt]
 have h:=L6 x (modulus k) (Hr k)
 have e:((2^k.bits:Nat):Int)=(modulus k:Int):=by cases k<;>rfl
 rw [e,<-h]
 exact (Int.toNat_natCast _).symm
theorem Ji (k:IntKind):2^k.bits=modulus k:=by cases k<;>rfl
theorem HM (op:BinOp) (k:IntKind) (x y:Int) (h:op=.and∨op=.or∨op=.xor∨op=.andNot):Nz op k x y=bits op k x y:=by
 unfold Nz bits
 rw [Wz,Wz]
 generalize BitVec.ofInt k.bits x=a
 generalize BitVec.ofInt k.bits y=b
 have hb:∀r:BitVec k.bits,back k r.toNat=k.wrap (r.toNat:Int):=fun r=>by
  have j:r.toNat<modulus k:=by rw [<-Ji];exact r.isLt
  exact (FY k _ _ (by rw [IJ];exact Int.emod_eq_of_lt (by omega) (by omega)) j).symm
 rcases h with rfl|rfl|rfl|rfl<;>simp only [W0]<;>rw [<-hb]
 ·rw [BitVec.toNat_and];rfl
 ·rw [BitVec.toNat_or];rfl
 ·rw [BitVec.toNat_xor];rfl
 ·rw [BitVec.toNat_and,BitVec.toNat_not,Ji];rfl
def Ai (op:BinOp) (k:IntKind) (x y:Int):Int:=
 match op with
 |.add=>k.wrap (x+y)
 |.sub=>k.wrap (x-y)
 |.mul=>k.wrap (x*y)
 |.quo=>k.wrap (x.tdiv y)
 |.rem=>x.tmod y
 |.shl=>k.wrap (x*2^min y.toNat k.bits)
 |.shr=>x.fdiv (2^min y.toNat k.bits)
 |op=>bits op k x y
def Es (op:BinOp) (x y:Int):Bool:=
 match op with
 |.eql=>x==y
 |.neq=>x !=y
 |.lss=>decide (x<y)
 |.leq=>decide (x<=y)
 |.gtr=>decide (x>y)
 |_=>decide (x>=y)
def ST.den (ρ:Nat->Int):ST->Int
 |.lit n=>n
 |.var i=>ρ i
 |.bin op k a b=>Ai op k (a.den ρ) (b.den ρ)
 |.conv k a=>k.wrap (a.den ρ)
def SB.den (ρ:Nat->Int):SB->Bool
 |.lit b=>b
 |.cmp op a b=>Es op (a.den ρ) (b.den ρ)
 |.no a=>!(a.den ρ)
theorem ST.AX:∀{a b:ST},a.eq b=true->a=b
 |.lit a,.lit b,h=>by simp only [ST.eq]at h;rw [QU.1 h]
 |.var i,.var j,h=>by simp only [ST.eq]at h;rw [Nat.eq_of_beq_eq_true h]
 |.bin o k a b,.bin o' k' a' b',h=>by
  simp only [ST.eq,aT]at h
  obtain ⟨⟨⟨q,x⟩,v⟩,z⟩:=h
  rw [Hq.1 q,Di.1 x,ST.AX v,ST.AX z]
 |.conv k a,.conv k' a',h=>by
  simp only [ST.eq,aT]at h
  rw [Di.1 h.1,ST.AX h.2]
 |.lit _,.var _,h|.lit _,.bin ..,h|.lit _,.conv ..,h|.var _,.lit _,h|.var _,.bin ..,h|.var _,.conv ..,h
 |.bin ..,.lit _,h|.bin ..,.var _,h|.bin ..,.conv ..,h|.conv ..,.lit _,h|.conv ..,.var _,h|.conv ..,.bin ..,h=>by simp [ST.eq]at h
theorem SB.AX:∀{a b:SB},a.eq b=true->a=b
 |.lit a,.lit b,h=>by simp only [SB.eq,beq_eq]at h;simp at h;rw [h]
 |.cmp o a b,.cmp o' a' b',h=>by
  simp only [SB.eq,aT]at h
  rw [Hq.1 h.1.1,ST.AX h.1.2,ST.AX h.2]
 |.no a,.no b,h=>by simp only [SB.eq]at h;rw [SB.AX h]
 |.lit _,.cmp ..,h|.lit _,.no _,h|.cmp ..,.lit _,h|.cmp ..,.no _,h|.no _,.lit _,h|.no _,.cmp ..,h=>by simp [SB.eq]at h
def DT (ρ:Env):Aa->Option (List Nat)
 |.str s=>some s
 |.svar i=>some (ρ.str i)
 |_=>none
def KR (ρ:Env):Aa->PV->Prop
 |.bool b,p=>p=.bool (b.den ρ)
 |.int k n,p=>p=.int k (n.den ρ)
 |.str s,p=>p=.str s
 |.svar i,p=>p=.str (ρ.str i)
 |.lst f i es n,p=>f=false/\p=.list es (ρ.lst i)/\n.den ρ=((ρ.lst i).length:Int)
 |.nilPtr,p=>p=.nilp
 |_,_=>False
def DS (ρ:Env):List Aa->List PV->Prop
 |[],ps=>ps=[]
 |a::as,ps=>∃p rest,ps=p::rest/\KR ρ a p/\DS ρ as rest
def TA (ρ:Env) (a:Aa) (p:PV):Prop:=
 match a with
 |.nilSlice=>∃j,p=.list j []
 |a=>KR ρ a p
def C9 (ρ:Env):List Aa->List PV->Prop
 |[],ps=>ps=[]
 |a::as,ps=>∃p rest,ps=p::rest/\TA ρ a p/\C9 ρ as rest
def DQ (ρ:Env):List (List Aa)->List (List PV)->Prop
 |[],ps=>ps=[]
 |a::as,ps=>∃p rest,ps=p::rest/\C9 ρ a p/\DQ ρ as rest
def F3 (ρ:Env):AE->List (List PV)->Prop
 |.els es,l=>DQ ρ es l
 |.all i,l=>l=ρ.lst i
 |.take i n,l=>0<=n.den ρ/\n.den ρ<=((ρ.lst i).length:Int)/\l=(ρ.lst i).take (n.den ρ).toNat
 |.drop i n,l=>0<=n.den ρ/\n.den ρ<=((ρ.lst i).length:Int)/\l=(ρ.lst i).drop (n.den ρ).toNat
def Bu (ρ:Env):List AE->List (List PV)->Prop
 |[],l=>l=[]
 |p::ps,l=>∃a b,l=a++b/\F3 ρ p a/\Bu ρ ps b
def AcF (ρ:Env):List (Aa×List Aa)->List (List Nat×List PV)->Prop
 |[],l=>l=[]
 |x::r,l=>∃s ps rest,l=(s,ps)::rest/\DT ρ x.1=some s/\C9 ρ x.2 ps/\AcF ρ r rest
def Bh:List (List Nat×List PV)->List Nat->Option (List PV)
 |[],_=>none
 |e::r,k=>if e.1=k then some e.2 else Bh r k
def Bv:List (List Nat×List PV)->List Nat->List PV->List (List Nat×List PV)
 |[],k,v=>[(k,v)]
 |e::r,k,v=>if e.1=k then (k,v)::r else e::Bv r k v
structure Ap.AG (Γ:Ap) (ρ:Env):Prop where
 DJ:∀x∈Γ.DJ,x.1.den ρ=x.2
 tests:∀x∈Γ.tests,Es x.1 (x.2.1.den ρ) (x.2.2.1.den ρ)=x.2.2.2
 strs:∀x∈Γ.strs,∃s t,DT ρ x.1=some s/\DT ρ x.2.1=some t/\x.2.2=decide (s=t):=by intro _ h;cases h
 E3:∀x∈Γ.E3,∃s t,DT ρ x.1=some s/\DT ρ x.2.1=some t/\DT ρ x.2.2=some (s++t)/\s.length+t.length<=1048576:=by intro _ h;cases h
 BQ:∀x∈Γ.BQ,x.2.1.den ρ=((ρ.str x.1).length:Int)/\x.2.2.1<=(ρ.str x.1).length/\(ρ.str x.1).length<=x.2.2.2:=by intro _ h;cases h
 Bc:∀x∈Γ.Bc,x.2.den ρ=((ρ.lst x.1).length:Int):=by intro _ h;cases h
 elems:∀x∈Γ.elems,∃ps,0<=x.2.1.den ρ/\(ρ.lst x.1)[(x.2.1.den ρ).toNat]?=some ps/\DS ρ x.2.2 ps:=by intro _ h;cases h
 defs:∀x∈Γ.defs,Bu ρ x.2 (ρ.lst x.1):=by intro _ h;cases h
 looks:∀x∈Γ.looks,∃s,DT ρ x.2.1=some s/\(match x.2.2 with
  |some cs=>∃ps,Bh (ρ.map x.1) s=some ps/\DS ρ cs ps
  |none=>Bh (ρ.map x.1) s=none):=by intro _ h;cases h
 Lx:∀x∈Γ.Lx,∃s ps,DT ρ x.2.1=some s/\C9 ρ x.2.2.1 ps/\ρ.map x.2.2.2=Bv (ρ.map x.1) s ps:=by intro _ h;cases h
 C8:∀x∈Γ.C8,x.1.den ρ+x.2.1<=x.2.2.den ρ/\x.2.2.den ρ<=1048576:=by intro _ h;cases h
 C6:∀x∈Γ.C6,AcF ρ x.2 (ρ.map x.1):=by intro _ h;cases h
theorem Ap.AG.none (ρ:Env):({}:Ap).AG ρ where
 DJ:=fun _ h=>(by cases h)
 tests:=fun _ h=>(by cases h)
theorem Le:∀{l:List (ST×Int)} {t:ST} {n:Int},J3 l t=some n->(t,n)∈l
 |[],_,_,h=>by simp [J3]at h
 |(s,m)::r,t,n,h=>by
  simp only [J3]at h
  cases e:s.eq t with
  |true=>
   rw [e]at h
   simp only [cond_true,oI]at h
   rw [ST.AX e,h]
   exact List.mem_cons_self
  |false=>rw [e]at h;exact List.mem_cons_of_mem _ (Le h)
theorem Dh:∀{l:List (BinOp×ST×ST×Bool)} {op:BinOp} {a b:ST} {v:Bool},BS l op a b=some v->(op,a,b,v)∈l
 |[],_,_,_,_,h=>by simp [BS]at h
 |(o,s,t,u)::r,op,a,b,v,h=>by
  simp only [BS]at h
  cases e:NR o op&&s.eq a&&t.eq b with
  |true=>
   rw [e]at h
   simp only [cond_true,oI]at h
   simp only [aT]at e
   rw [Hq.1 e.1.1,ST.AX e.1.2,ST.AX e.2,h]
   exact List.mem_cons_self
  |false=>rw [e]at h;exact List.mem_cons_of_mem _ (Dh h)
section
variable {Γ:Ap} {ρ:Env} (hΓ:Γ.AG ρ)
include hΓ
theorem Kr (t:ST):(numOf Γ t).den ρ=t.den ρ:=by
 unfold numOf
 split
 ·rename_i n h;exact (hΓ.DJ _ (Le h)).symm
 ·rfl
omit hΓ in
theorem RG {op:BinOp} {k:IntKind} {a b n:Int} (h:RH op k a b=some n):
  n=Ai op k a b/\(op=.quo∨op=.rem->b≠0)/\Ft op=false/\DK op=false:=by
 cases op<;>simp only [RH,oI,reduceCtorEq]at h
 case add|sub|mul=>exact ⟨by rw [<-h,GU];rfl,by simp,rfl,rfl⟩
 case quo|rem=>
  cases e:Y8 b 0 with
  |true=>rw [e]at h;simp at h
  |false=>
   rw [e]at h
   simp only [cond_false,oI]at h
   refine ⟨by rw [<-h];first|(rw [GU];rfl) |rfl,fun _ hb=>?_,rfl,rfl⟩
   rw [QU.2 hb]at e;cases e
 case and|or|xor|andNot=>exact ⟨by rw [<-h,HM _ _ _ _ (by simp)];rfl,by simp,rfl,rfl⟩
theorem HN {op:BinOp} {k:IntKind} {a b t:ST} (h:arith Γ op k a b=some t):
  t.den ρ=Ai op k (a.den ρ) (b.den ρ)/\(op=.quo∨op=.rem->b.den ρ≠0)/\Ft op=false/\DK op=false:=by
 have z:∀{t},V9 Γ op k a b=some t->t.den ρ=Ai op k (a.den ρ) (b.den ρ)/\(op=.quo∨op=.rem->b.den ρ≠0)/\Ft op=false/\DK op=false:=fun {t} h=>by
  unfold V9 at h
  cases e:total op b||WV Γ op b with
  |false=>rw [e]at h;simp at h
  |true=>
   rw [e]at h
   simp only [cond_true,oI]at h
   rw [Bool.or_eq_true]at e
   refine ⟨by rw [<-h,Kr hΓ];rfl,fun q=>?_,?_,?_⟩
   ·rcases e with e|e
    ·rcases q with rfl|rfl<;>cases b<;>simp [total,QV]at e<;>simpa [ST.den]using e
    ·have key:BS Γ.tests .eql b (.lit 0)=some false:=by
      have j:(match BS Γ.tests .eql b (.lit 0)with|some v=>!v|none=>false)=true:=by rcases q with rfl|rfl<;>exact e
      cases hv:BS Γ.tests .eql b (.lit 0)with
      |none=>rw [hv]at j;cases j
      |some v=>
       rw [hv]at j
       cases v with
       |false=>rfl
       |true=>cases j
     have A:Es .eql (b.den ρ) ((ST.lit 0).den ρ)=false:=hΓ.tests _ (Dh key)
     simpa [Es,ST.den]using A
   ·rcases e with e|e<;>cases op<;>first|rfl|(simp [total]at e) |(simp [WV]at e)
   ·rcases e with e|e<;>cases op<;>first|rfl|(simp [total]at e) |(simp [WV]at e)
 unfold arith at h
 split at h
 ·rename_i x y
  cases e:RH op k x y with
  |none=>rw [e]at h;simp [AA]at h
  |some n=>
   rw [e]at h
   simp only [AA,oI]at h
   rw [<-h]
   exact RG e
 ·exact z h
omit hΓ in
theorem Nq {op:BinOp} {a b:Int} {v:Bool} (h:Acm op a b=some v):v=Es op a b/\Ft op=true:=by
 cases op<;>simp only [Acm,oI,reduceCtorEq]at h<;>subst h<;>refine ⟨?_,rfl⟩<;>simp [Es,QV,QT,Ahp,bne]<;>rfl
theorem CC {op:BinOp} {a b:ST} {s:SB} (h:compare Γ op a b=some s):s.den ρ=Es op (a.den ρ) (b.den ρ)/\Ft op=true:=by
 have q:∀{s},Nl Γ op a b=some s->s.den ρ=Es op (a.den ρ) (b.den ρ)/\Ft op=true:=fun {s} h=>by
  unfold Nl at h
  cases e:Ft op with
  |false=>rw [e]at h;simp at h
  |true=>
   rw [e]at h
   simp only [cond_true]at h
   split at h
   ·rename_i v j
    simp only [oI]at h
    subst h
    exact ⟨(hΓ.tests _ (Dh j)).symm,rfl⟩
   ·simp only [oI]at h
    subst h
    exact ⟨rfl,rfl⟩
 unfold compare at h
 split at h
 ·rename_i x y
  cases e:Acm op x y with
  |none=>rw [e]at h;simp [AA]at h
  |some v=>
   rw [e]at h
   simp only [AA,oI]at h
   rw [<-h]
   exact Nq e
 ·exact q h
theorem On (k:IntKind) (a:ST):(convert Γ k a).den ρ=k.wrap (a.den ρ):=by
 unfold convert
 split
 ·simp [ST.den,GU]
 ·rw [Kr hΓ];rfl
theorem NS {b:ST} (h:natural Γ b=true):0<=b.den ρ:=by
 unfold natural at h
 split at h
 ·rw [QT]at h;simpa [ST.den]using h
 ·rename_i hb
  cases e:BS Γ.tests .geq b (.lit (.ofNat 0))with
  |none=>rw [e]at h;cases h
  |some v=>
   rw [e]at h
   cases v with
   |false=>cases h
   |true=>
    have:=hΓ.tests _ (Dh e)
    simpa [Es,ST.den]using this
end
theorem Jq {op:BinOp} {k yk:IntKind} {x y n:Int} (h:Qu op k x y=some n):Op.shift op k x yk y=pure (.int k n):=by
 cases y with
 |negSucc y=>simp [Qu]at h
 |ofNat y=>
  simp only [Qu]at h
  have q:(bif Nat.ble y k.bits then y else k.bits)=min y k.bits:=by
   cases e:Nat.ble y k.bits with
   |true=>simp only [cond_true];have:=Nat.le_of_ble_eq_true e;omega
   |false=>
         simp only [cond_false];have:¬y<=k.bits:=fun h=>by rw [Nat.ble_eq_true_of_le h]at e;cases e
         omega
  rw [q]at h
  have j:Int.ofNat (2^min y k.bits)=(2:Int)^min y k.bits:=by simp
  unfold Op.shift
  rw [if_neg (by simp)]
  cases op<;>simp only [Me,oI,reduceCtorEq]at h
  ·rw [<-h,GU,j];rfl
  ·rw [<-h,j];rfl
theorem Su {op:BinOp} {k yk:IntKind} {x y:Int} (hs:DK op=true) (v:0<=y):Op.shift op k x yk y=pure (.int k (Ai op k x y)):=by
 obtain ⟨n,rfl⟩:=Int.eq_ofNat_of_zero_le v
 refine Jq ?_
 have q:(bif Nat.ble n k.bits then n else k.bits)=min n k.bits:=by
  cases e:Nat.ble n k.bits with
  |true=>simp only [cond_true];have:=Nat.le_of_ble_eq_true e;omega
  |false=>
        simp only [cond_false];have:¬n<=k.bits:=fun h=>by rw [Nat.ble_eq_true_of_le h]at e;cases e
        omega
 have j:Int.ofNat (2^min n k.bits)=(2:Int)^min n k.bits:=by simp
 show Me op k x (bif Nat.ble n k.bits then n else k.bits)=_
 rw [q]
 cases op<;>simp only [DK,Bool.false_eq_true]at hs
 ·simp only [Me,Ai,GU,j,Int.toNat_natCast]
 ·simp only [Me,Ai,j,Int.toNat_natCast]
theorem Tz {op:BinOp} {t:TypeId} {k:IntKind} {x y:Int} (h:op=.quo∨op=.rem->y≠0) (hc:Ft op=false) (hs:DK op=false):
  binOp op t (.int k x) (.int k y)=pure (.int k (Ai op k x y)):=by
 cases op<;>first|(simp [Ft,XF]at hc;done) |(simp [DK]at hs;done) |skip
 case add|sub|mul=>simp [binOp,Op.intArith,Ai]
 case quo|rem=>have:=h (by simp);simp [binOp,Op.intDiv,Ai,this]
 case and|or|xor|andNot=>simp [binOp,Ai];rfl
theorem Yu {op:BinOp} {t:TypeId} {k:IntKind} {x y:Int} (hc:Ft op=true):binOp op t (.int k x) (.int k y)=pure (.bool (Es op x y)):=by
 cases op<;>first|(simp [Ft,XF]at hc;done) |skip
 all_goals (simp [binOp,Op.intCmp,Es])
end
section
section
variable {α:Type}
theorem Tr.DL (v:Option α) (l r:Tr α) (n:Nat):
  (Tr.node v l r).get n=bif Nat.beq n 0 then v else bif Nat.beq (n%2) 1 then l.get (n/2)else r.get (n/2-1):=rfl
theorem Tr.ET (m:Nat) (v:Option α) (t:Tr α) (n:Nat):(Tr.over m v t).get n=bif Nat.beq n m then v else t.get n:=rfl
theorem Tr.set_nil (n:Nat) (x:Option α):(Tr.nil:Tr α).set n x=.over n x .nil:=rfl
theorem Tr.AaH (v:Option α) (l r:Tr α) (n:Nat) (x:Option α):
  (Tr.node v l r).set n x=bif Nat.beq n 0 then .node x l r else bif Nat.beq (n%2) 1 then .node v (l.set (n/2) x) r else .node v l (r.set (n/2-1) x):=rfl
theorem Tr.AaG (m:Nat) (v:Option α) (t:Tr α) (n:Nat) (x:Option α):
  (Tr.over m v t).set n x=bif Nat.beq n m then .over m x t else .over m v (t.set n x):=rfl
theorem AH {β:Type} (m n:Nat) (a b:β):(bif Nat.beq m n then a else b)=if m=n then a else b:=by
 by_cases h:m=n
 ·subst h;simp
 ·have:Nat.beq m n=false:=by
   cases e:Nat.beq m n with
   |false=>rfl
   |true=>exact absurd (Nat.eq_of_beq_eq_true e) h
  rw [this,if_neg h];rfl
theorem Tr.Bb:∀(t:Tr α) (n m:Nat) (x:Option α),(t.set n x).get m=if m=n then x else t.get m
 |.nil,n,m,x=>by rw [Tr.set_nil,Tr.ET,AH]
 |.over k v t,n,m,x=>by
  rw [Tr.AaG,AH]
  by_cases h:n=k
  ·subst h
   rw [if_pos rfl,Tr.ET,Tr.ET,AH,AH]
   by_cases h2:m=n<;>simp [h2]
  ·rw [if_neg h,Tr.ET,Tr.ET,AH,AH,Tr.Bb t n m x]
   by_cases h2:m=k
   ·subst h2;rw [if_pos rfl,if_neg (Ne.symm h),if_pos rfl]
   ·rw [if_neg h2,if_neg h2]
 |.node v l r,n,m,x=>by
  rw [Tr.AaH,AH,AH]
  by_cases h0:n=0
  ·rw [if_pos h0,Tr.DL,Tr.DL]
   simp only [AH]
   by_cases h2:m=0
   ·rw [if_pos h2,if_pos (by omega)]
   ·rw [if_neg h2,if_neg (by omega:¬m=n),if_neg h2]
  ·rw [if_neg h0]
   by_cases h1:n%2=1
   ·rw [if_pos h1,Tr.DL,Tr.DL]
    simp only [AH]
    rw [Tr.Bb l]
    by_cases h2:m=0
    ·rw [if_pos h2,if_neg (by omega),if_pos h2]
    ·rw [if_neg h2,if_neg h2]
     by_cases h3:m%2=1
     ·rw [if_pos h3,if_pos h3]
      by_cases h4:m=n
      ·rw [if_pos h4,if_pos (by omega)]
      ·rw [if_neg h4,if_neg (by omega)]
     ·rw [if_neg h3,if_neg h3,if_neg (by intro e;subst e;exact h3 h1)]
   ·rw [if_neg h1,Tr.DL,Tr.DL]
    simp only [AH]
    rw [Tr.Bb r]
    by_cases h2:m=0
    ·rw [if_pos h2,if_neg (by omega),if_pos h2]
    ·rw [if_neg h2,if_neg h2]
     by_cases h3:m%2=1
     ·rw [if_pos h3,if_pos h3,if_neg (by intro e;subst e;exact h1 h3)]
     ·rw [if_neg h3,if_neg h3]
      by_cases h4:m=n
      ·rw [if_pos h4,if_pos (by omega)]
      ·rw [if_neg h4,if_neg (by omega)]
theorem Tr.JB:∀(n m:Nat),(Tr.full α n).get m=none
 |0,m=>rfl
 |n+1,m=>by
  show (Tr.node none (Tr.full α n) (Tr.full α n)).get m=none
  rw [Tr.DL,AH,AH,Tr.JB,Tr.JB]
  split<;>first|rfl|(split<;>rfl)
end
def BE (m:Nat):Nat:=m%1048577
def BL (m:Nat):Nat:=m/1048577
def NY (len cap:Nat):Nat:=len+1048577*cap
theorem Bs {len cap:Nat} (h:len<=1048576):BE (NY len cap)=len:=by unfold BE NY;omega
theorem BF {len cap:Nat} (h:len<=1048576):BL (NY len cap)=cap:=by unfold BL NY;omega
abbrev Yy:=Nat×Nat×Nat
structure As where
 spot:Nat->Option Yy
 AU:Nat->Option Obj
instance:CoeFun As fun _=>Nat->Option Yy:=⟨As.spot⟩
def As.none:As:=⟨fun _=>Option.none,fun _=>Option.none⟩
def I2 (AU:Nat->Option Obj) (r:Nat) (a:Array Value) (e:TypeId):Prop:=∃fr:Nat×Nat,AU r=some (.cells a e fr)
theorem I2.mono {AU ice':Nat->Option Obj} (j:∀g o,AU g=some o->ice' g=some o) {r:Nat} {a:Array Value} {e:TypeId} (h:I2 AU r a e):I2 ice' r a e:=by obtain ⟨fr,h⟩:=h;exact ⟨fr,j _ _ h⟩
section
variable (AU:Nat->Option Obj)
mutual
def GQ:PV->Value->Prop
 |.bool b,v=>v=.bool b
 |.int k n,v=>v=.int k n
 |.str s,v=>∃b:ByteArray,v=.string b/\strOf b=s
 |.list es l,v=>∃c,l.length<=c/\((l=[]/\∃p,v=.slice p 0 c)∨∃r δ a e,v=.slice (some ⟨r,δ,none⟩) l.length c/\I2 AU r a e/\BG es a δ l)
 |.nilp,v=>v=.pointer none
def AK (a:Array Value) (δ:Nat):List PV->Prop
 |[]=>True
 |p::ps=>(∃u,a[δ]?=some u/\GQ p u)/\AK a (δ+1) ps
def BG (j:Nat) (a:Array Value) (δ:Nat):List (List PV)->Prop
 |[]=>True
 |ps::r=>ps.length=j/\AK a δ ps/\BG j a (δ+j) r
end
def Jc:List (List Nat×List PV)->List MapEntry->Prop
 |[],ms=>ms=[]
 |e::es,ms=>∃m rest,ms=m::rest/\(∃b:ByteArray,m.key=.string b/\strOf b=e.1)/\(∃a:Array Value,m.val=.agg a/\a.size=e.2.length/\AK AU a 0 e.2)/\Jc es rest
end
section
variable (ρ:Env) (μ:As)
mutual
def Ag:Aa->Value->Prop
 |.any,_=>True
 |.bool b,v=>v=.bool (b.den ρ)
 |.int k n,v=>v=.int k (n.den ρ)
 |.str s,v=>∃b:ByteArray,v=.string b/\strOf b=s
 |.ptr b off,v=>∃r δ m,μ b=some (r,δ,m)/\v=.pointer (some ⟨r,δ+off,none⟩)
 |.nilPtr,v=>v=.pointer none
 |.slice b off len c,v=>∃r δ m,μ b=some (r,δ,m)/\v=.slice (some ⟨r,δ+off,none⟩) len c/\len<=c
 |.gslice b off len es,v=>∃r δ m c,μ b=some (r,δ,m)/\v=.slice (some ⟨r,δ+off,none⟩) len c/\len<=c/\off+c*es<=m
 |.nilSlice,v=>v=.slice none 0 0
 |.map b,v=>∃r,μ b=some (r,0,0)/\v=.map (some r)
 |.nilMap,v=>v=.map none
 |.func f a c,v=>∃q z:Array Value,v=.func (.func f) q z/\A6 a q.toList/\A6 c z.toList
 |.nilFunc,v=>v=.nilFunc
 |.iface t x,v=>∃u,v=.iface t u/\Ag x u
 |.nilIface,v=>v=.nilIface
 |.agg cs,v=>∃a:Array Value,v=.agg a/\Aw cs a.toList
 |.tuple vs,v=>∃a:Array Value,v=.tuple a/\A6 vs a.toList
 |.anyStr n,v=>∃b:ByteArray,v=.string b/\1<=b.size/\b.size<=n
 |.gbytes b,v=>∃r m,μ b=some (r,0,m)/\v=.slice (some ⟨r,0,none⟩) (BE m) (BL m)/\1<=BE m/\BE m<=BL m
 |.glen b,v=>∃r m,μ b=some (r,0,m)/\v=.int .i64 (BE m:Nat)
 |.svar i,v=>∃b:ByteArray,v=.string b/\strOf b=ρ.str i
 |.lst full i es n,v=>GQ μ.AU (.list es (ρ.lst i)) v/\n.den ρ=((ρ.lst i).length:Int)/\(full=true->∃p,v=.slice p (ρ.lst i).length (ρ.lst i).length)
 |.lptr i j off,v=>∃r δ a e ps,v=.pointer (some ⟨r,δ+off,none⟩)/\I2 μ.AU r a e/\0<=j.den ρ/\(ρ.lst i)[(j.den ρ).toNat]?=some ps/\AK μ.AU a δ ps
 |.vec b _ n,v=>∃r m k,μ b=some (r,0,m)/\v=.slice (some ⟨r,0,none⟩) k (BL m)/\n.den ρ=(k:Int)/\k<=BE m/\BE m<=BL m
 |.vptr b es j off,v=>∃r m,μ b=some (r,0,m)/\v=.pointer (some ⟨r,(j.den ρ).toNat*es+off,none⟩)/\0<=j.den ρ
def A6:List Aa->List Value->Prop
 |[],vs=>vs=[]
 |a::as,vs=>∃v rest,vs=v::rest/\Ag a v/\A6 as rest
def Aw:List Aa->List Value->Prop
 |[],vs=>vs=[]
 |a::as,vs=>∃v rest,vs=v::rest/\(a.single=true/\Ag a v)/\Aw as rest
end
end
structure As.le (μ μ':As):Prop where
 to:∀b x,μ b=some x->μ' b=some x
 AU:∀g o,μ.AU g=some o->μ'.AU g=some o
theorem As.le_refl (μ:As):μ.le μ:=⟨fun _ _ h=>h,fun _ _ h=>h⟩
theorem As.le_trans {μ μ' j:As} (h:μ.le μ') (q:μ'.le j):μ.le j:=⟨fun _ _ e=>q.to _ _ (h.to _ _ e),fun _ _ e=>q.AU _ _ (h.AU _ _ e)⟩
section
variable {AU ice':Nat->Option Obj} (h:∀g o,AU g=some o->ice' g=some o)
include h
mutual
theorem GQ.mono:∀{p:PV} {v:Value},GQ AU p v->GQ ice' p v
 |.bool _,_,e=>e
 |.int _ _,_,e=>e
 |.str _,_,e=>e
 |.nilp,_,e=>e
 |.list es l,v,e=>by
  simp only [GQ]at e⊢
  obtain ⟨c,hc,e⟩:=e
  refine ⟨c,hc,?_⟩
  rcases e with e|⟨r,δ,a,t,e1,e2,e3⟩
  ·exact .inl e
  ·exact .inr ⟨r,δ,a,t,e1,e2.mono h,BG.mono e3⟩
theorem AK.mono:∀{ps:List PV} {a:Array Value} {δ:Nat},AK AU a δ ps->AK ice' a δ ps
 |[],_,_,_=>trivial
 |p::ps,a,δ,e=>by
  simp only [AK]at e⊢
  obtain ⟨⟨u,j,v⟩,q⟩:=e
  exact ⟨⟨u,j,GQ.mono v⟩,AK.mono q⟩
theorem BG.mono:∀{l:List (List PV)} {j:Nat} {a:Array Value} {δ:Nat},BG AU j a δ l->BG ice' j a δ l
 |[],_,_,_,_=>trivial
 |ps::r,j,a,δ,e=>by
  simp only [BG]at e⊢
  obtain ⟨q,v,x⟩:=e
  exact ⟨q,AK.mono v,BG.mono x⟩
end
theorem Jc.mono:∀{l:List (List Nat×List PV)} {ms:List MapEntry},Jc AU l ms->Jc ice' l ms
 |[],_,e=>e
 |_::_,_,e=>let ⟨m,rest,e1,e2,⟨a,e3,e4,e5⟩,e6⟩:=e;⟨m,rest,e1,e2,⟨a,e3,e4,AK.mono h e5⟩,Jc.mono e6⟩
end
section
variable {ρ:Env} {μ μ':As} (h:μ.le μ')
include h
mutual
theorem Ag.mono:∀{a:Aa} {v:Value},Ag ρ μ a v->Ag ρ μ' a v
 |.any,_,_=>trivial
 |.bool _,_,e=>e
 |.int _ _,_,e=>e
 |.str _,_,e=>e
 |.ptr b off,_,e=>let ⟨r,δ,m,e1,e2⟩:=e;⟨r,δ,m,h.to _ _ e1,e2⟩
 |.nilPtr,_,e=>e
 |.slice b off len cap,_,e=>let ⟨r,δ,m,e1,e2⟩:=e;⟨r,δ,m,h.to _ _ e1,e2⟩
 |.gslice b off len es,_,e=>let ⟨r,δ,m,c,e1,e2⟩:=e;⟨r,δ,m,c,h.to _ _ e1,e2⟩
 |.nilSlice,_,e=>e
 |.map b,_,e=>let ⟨r,e1,e2⟩:=e;⟨r,h.to _ _ e1,e2⟩
 |.nilMap,_,e=>e
 |.func f a c,_,e=>let ⟨a',c',e1,e2,e3⟩:=e;⟨a',c',e1,A6.mono e2,A6.mono e3⟩
 |.nilFunc,_,e=>e
 |.iface t x,_,e=>let ⟨u,e1,e2⟩:=e;⟨u,e1,Ag.mono e2⟩
 |.nilIface,_,e=>e
 |.agg cs,_,e=>let ⟨a,e1,e2⟩:=e;⟨a,e1,Aw.mono e2⟩
 |.tuple vs,_,e=>let ⟨a,e1,e2⟩:=e;⟨a,e1,A6.mono e2⟩
 |.anyStr _,_,e=>e
 |.gbytes _,_,e=>let ⟨r,m,e1,e2⟩:=e;⟨r,m,h.to _ _ e1,e2⟩
 |.glen _,_,e=>let ⟨r,m,e1,e2⟩:=e;⟨r,m,h.to _ _ e1,e2⟩
 |.svar _,_,e=>e
 |.lst _ _ _ _,_,e=>⟨GQ.mono h.AU e.1,e.2⟩
 |.lptr _ _ _,_,e=>let ⟨r,δ,a,t,ps,e1,e2,e3,e4,e5⟩:=e;⟨r,δ,a,t,ps,e1,(e2.mono h.AU),e3,e4,AK.mono h.AU e5⟩
 |.vec _ _ _,_,e=>let ⟨r,m,k,e1,e2⟩:=e;⟨r,m,k,h.to _ _ e1,e2⟩
 |.vptr _ _ _ _,_,e=>let ⟨r,m,e1,e2⟩:=e;⟨r,m,h.to _ _ e1,e2⟩
theorem A6.mono:∀{as:List Aa} {vs:List Value},A6 ρ μ as vs->A6 ρ μ' as vs
 |[],_,e=>e
 |_::_,_,e=>let ⟨v,rest,e1,e2,e3⟩:=e;⟨v,rest,e1,Ag.mono e2,A6.mono e3⟩
theorem Aw.mono:∀{as:List Aa} {vs:List Value},Aw ρ μ as vs->Aw ρ μ' as vs
 |[],_,e=>e
 |_::_,_,e=>let ⟨v,rest,e1,⟨e2,e2'⟩,e3⟩:=e;⟨v,rest,e1,⟨e2,Ag.mono e2'⟩,Aw.mono e3⟩
end
end
section
variable {ρ:Env} {μ:As}
theorem Aw.length:∀{as:List Aa} {vs:List Value},Aw ρ μ as vs->as.length=vs.length
 |[],_,e=>by simp only [Aw]at e;rw [e];rfl
 |_::_,_,e=>by
  simp only [Aw]at e
  obtain ⟨v,rest,rfl,_,h⟩:=e
  simp [Aw.length h]
theorem Aw.get:∀{as:List Aa} {vs:List Value} {i:Nat} {a:Aa},Aw ρ μ as vs->as[i]?=some a->∃v,vs[i]?=some v/\a.single=true/\Ag ρ μ a v
 |[],_,i,_,_,h=>by simp at h
 |b::as,_,i,a,e,h=>by
  simp only [Aw]at e
  obtain ⟨v,rest,rfl,hb,j⟩:=e
  cases i with
  |zero=>simp only [List.getElem?_cons_zero,oI]at h;subst h;exact ⟨v,rfl,hb⟩
  |succ i=>simpa using Aw.get j (by simpa using h)
theorem Aw.Kq:∀{as:List Aa} {vs:List Value},as.length=vs.length->(∀(i:Nat) (a:Aa),as[i]?=some a->∃v,vs[i]?=some v/\a.single=true/\Ag ρ μ a v)->Aw ρ μ as vs
 |[],vs,hl,_=>by simp only [Aw];exact List.eq_nil_of_length_eq_zero (by simpa using hl.symm)
 |a::as,[],hl,_=>by simp at hl
 |a::as,v::vs,hl,h=>by
  simp only [Aw]
  obtain ⟨u,j,q⟩:=h 0 a rfl
  simp only [List.getElem?_cons_zero,oI]at j
  subst j
  exact ⟨v,vs,rfl,q,Aw.Kq (by simpa using hl) fun i b hb=>by simpa using h (i+1) b (by simpa using hb)⟩
theorem Aw.append:∀{as bs:List Aa} {vs us:List Value},Aw ρ μ as vs->Aw ρ μ bs us->Aw ρ μ (as++bs) (vs++us)
 |[],_,_,_,h,h'=>by simp only [Aw]at h;subst h;exact h'
 |_::_,_,_,_,h,h'=>by
  simp only [Aw]at h
  obtain ⟨v,rest,rfl,j,q⟩:=h
  simp only [List.cons_append,Aw]
  exact ⟨v,_,rfl,j,Aw.append q h'⟩
theorem A6.append:∀{as bs:List Aa} {vs us:List Value},A6 ρ μ as vs->A6 ρ μ bs us->A6 ρ μ (as++bs) (vs++us)
 |[],_,_,_,h,h'=>by simp only [A6]at h;subst h;exact h'
 |_::_,_,_,_,h,h'=>by
  simp only [A6]at h
  obtain ⟨v,rest,rfl,j,q⟩:=h
  simp only [List.cons_append,A6]
  exact ⟨v,_,rfl,j,A6.append q h'⟩
theorem A6.get:∀{as:List Aa} {vs:List Value} {i:Nat} {a:Aa},A6 ρ μ as vs->as[i]?=some a->∃v,vs[i]?=some v/\Ag ρ μ a v
 |[],_,i,_,_,h=>by simp at h
 |b::as,_,i,a,e,h=>by
  simp only [A6]at e
  obtain ⟨v,rest,rfl,hb,j⟩:=e
  cases i with
  |zero=>simp only [List.getElem?_cons_zero,oI]at h;subst h;exact ⟨v,rfl,hb⟩
  |succ i=>simpa using A6.get j (by simpa using h)
theorem Ag.QA {a:Aa} {v:Value} (h:Ag ρ μ a v) (hs:a.single=true):v.oneCell'=true:=by
 cases a<;>simp only [Aa.single,Bool.false_eq_true]at hs<;>simp only [Ag]at h
 case bool|int|nilPtr|nilSlice|nilMap|nilFunc|nilIface=>subst h;rfl
 case str=>obtain ⟨_,rfl,_⟩:=h;rfl
 case ptr=>obtain ⟨_,_,_,_,rfl⟩:=h;rfl
 case slice=>obtain ⟨_,_,_,_,rfl,_⟩:=h;rfl
 case gslice=>obtain ⟨_,_,_,_,_,rfl,_⟩:=h;rfl
 case map=>obtain ⟨_,_,rfl⟩:=h;rfl
 case func=>obtain ⟨_,_,rfl,_⟩:=h;rfl
 case iface=>obtain ⟨_,rfl,_⟩:=h;rfl
 case anyStr=>obtain ⟨_,rfl,_⟩:=h;rfl
 case gbytes=>obtain ⟨_,_,_,rfl,_⟩:=h;rfl
 case glen=>obtain ⟨_,_,_,rfl⟩:=h;rfl
 case svar=>obtain ⟨_,rfl,_⟩:=h;rfl
 case lst=>
  simp only [GQ]at h
  obtain ⟨⟨_,_,⟨_,_,rfl⟩|⟨_,_,_,_,rfl,_⟩⟩,_⟩:=h<;>rfl
 case lptr=>obtain ⟨_,_,_,_,_,rfl,_⟩:=h;rfl
 case vec=>obtain ⟨_,_,_,_,rfl,_⟩:=h;rfl
 case vptr=>obtain ⟨_,_,_,rfl,_⟩:=h;rfl
theorem Ag.cells {a:Aa} {v:Value} {cs:List Aa} (h:Ag ρ μ a v) (hc:a.cells=some cs):Aw ρ μ cs v.cells.toList:=by
 cases a<;>simp only [Aa.cells,oI,reduceCtorEq]at hc
 case agg=>
  subst hc
  simp only [Ag]at h
  obtain ⟨a,rfl,h⟩:=h
  exact h
 all_goals
  subst hc
  have q:v.cells.toList=[v]:=by
   have j:=h.QA (by rfl)
   cases v<;>first|rfl|(simp [Value.oneCell']at j)
  rw [q]
  simp only [Aw]
  exact ⟨v,[],rfl,⟨by rfl,h⟩,rfl⟩
end
section
variable (ρ:Env) (μ:As)
def AcQ (e:Entry) (m:MapEntry):Prop:=e.key.single=true/\Ag ρ μ e.key m.key/\Ag ρ μ e.val m.val/\m.born=e.born
def BM:List Entry->List MapEntry->Prop
 |[],ms=>ms=[]
 |e::es,ms=>∃m rest,ms=m::rest/\AcQ ρ μ e m/\BM es rest
def C4:Block->Option Obj->Nat×Nat->Prop
 |.cells vs,o,(δ,m)=>∃c e,o=some (.cells c e (0,0))/\δ+m<=c.size/\∀(i:Nat) (a:Aa),vs[i]?=some a->∃v,c[δ+i]?=some v/\a.single=true/\Ag ρ μ a v
 |.map es j,o,δ=>δ=(0,0)/\∃ms:Array MapEntry,o=some (.map ms j)/\BM ρ μ es ms.toList
 |.typed e vs,o,(δ,m)=>∃c,o=some (.cells c e (0,0))/\(δ=0/\c.size=vs.length)/\δ+m<=c.size/\∀(i:Nat) (a:Aa),vs[i]?=some a->∃v,c[δ+i]?=some v/\a.single=true/\Ag ρ μ a v
 |.bytes n e,o,(δ,m)=>∃c,o=some (.cells c e (0,0))/\δ=0/\1<=BE m/\BE m<=n/\n<=1048576/\BE m<=BL m/\BL m<=c.size/\∀i,i<BL m->∃x:UInt8,c[i]?=some (.int .u8 x.toNat)
 |.sbytes t e,o,(δ,m)=>∃c,o=some (.cells c e (0,0))/\δ=0/\1<=BE m/\(BE m:Int)<=t.den ρ/\t.den ρ<=1048576/\BE m<=BL m/\BL m<=c.size/\∀i,i<BL m->∃x:UInt8,c[i]?=some (.int .u8 x.toNat)
 |.list i es,o,(δ,m)=>∃c e,o=some (.cells c e (0,0))/\δ=0/\(ρ.lst i).length<=BE m/\BE m<=1048576/\BE m<=BL m/\BL m*es<=c.size/\BG μ.AU es c 0 (ρ.lst i)
 |.smap i,o,δ=>δ=(0,0)/\∃(ms:Array MapEntry) (j:Nat),o=some (.map ms j)/\Jc μ.AU (ρ.map i) ms.toList
def AJ (h:Ak) (r:Nat):Prop:=∃b B δ,h.get b=some B/\μ b=some (r,δ)
structure Y6 (h:Ak) (w:World):Prop where
 AO:∀g o,ρ.AO g=some o->w.heap[g]?=some o/\¬AJ μ h g
 AU:∀g o,μ.AU g=some o->w.heap[g]?=some o/\¬AJ μ h g
 facts:h.fx.AG ρ
structure AI (h:Ak) (w:World):Prop where
 fresh:∀b,h.next<=b->μ b=none
 blk:∀b B,h.get b=some B->∃r δ,μ b=some (r,δ)/\C4 ρ μ B w.heap[r]? δ
 inj:∀b b' B B' r δ δ',h.get b=some B->h.get b'=some B'->μ b=some (r,δ)->μ b'=some (r,δ')->b=b'
 AO:Y6 ρ μ h w
end
section
variable {ρ:Env} {μ μ':As}
theorem AcQ.mono (h:μ.le μ') {e:Entry} {m:MapEntry} (x:AcQ ρ μ e m):AcQ ρ μ' e m:=⟨x.1,x.2.1.mono h,x.2.2.1.mono h,x.2.2.2⟩
theorem BM.mono (h:μ.le μ'):∀{j:List Entry} {ms:List MapEntry},BM ρ μ j ms->BM ρ μ' j ms
 |[],_,e=>e
 |_::_,_,e=>let ⟨m,rest,e1,e2,e3⟩:=e;⟨m,rest,e1,e2.mono h,BM.mono h e3⟩
theorem C4.mono (h:μ.le μ') {B:Block} {o:Option Obj} {δ:Nat×Nat} (x:C4 ρ μ B o δ):C4 ρ μ' B o δ:=by
 cases B with
 |cells vs=>
  obtain ⟨c,e,j,z,hc⟩:=x
  exact ⟨c,e,j,z,fun i a ha=>let ⟨v,h1,h2,h3⟩:=hc i a ha;⟨v,h1,h2,h3.mono h⟩⟩
 |map es clock=>
  obtain ⟨C,ms,j,M⟩:=x
  exact ⟨C,ms,j,M.mono h⟩
 |typed t vs=>
  obtain ⟨c,j,hs,z,hc⟩:=x
  exact ⟨c,j,hs,z,fun i a ha=>let ⟨v,h1,h2,h3⟩:=hc i a ha;⟨v,h1,h2,h3.mono h⟩⟩
 |bytes n t=>exact x
 |sbytes n t=>exact x
 |list i es=>obtain ⟨c,e,A,q,I,H,L,N,J⟩:=x;exact ⟨c,e,A,q,I,H,L,N,BG.mono h.AU J⟩
 |smap i=>obtain ⟨C,ms,c,A,q⟩:=x;exact ⟨C,ms,c,A,Jc.mono h.AU q⟩
theorem C4.some {B:Block} {o:Option Obj} {δ:Nat×Nat} (x:C4 ρ μ B o δ):∃x,o=some x:=by
 cases B with
 |cells vs=>obtain ⟨c,e,j,_⟩:=x;exact ⟨_,j⟩
 |map es clock=>obtain ⟨_,ms,j,_⟩:=x;exact ⟨_,j⟩
 |typed t vs=>obtain ⟨c,j,_⟩:=x;exact ⟨_,j⟩
 |bytes n t=>obtain ⟨c,j,_⟩:=x;exact ⟨_,j⟩
 |sbytes n t=>obtain ⟨c,j,_⟩:=x;exact ⟨_,j⟩
 |list i es=>obtain ⟨c,e,j,_⟩:=x;exact ⟨_,j⟩
 |smap i=>obtain ⟨_,ms,c,j,_⟩:=x;exact ⟨_,j⟩
theorem AI.lt {h:Ak} {w:World} (H:AI ρ μ h w) {b:Nat} {B:Block} {r:Nat} {δ:Nat×Nat} (hb:h.get b=some B) (q:μ b=some (r,δ)):r<w.heap.size:=by
 obtain ⟨z,A,j,hB⟩:=H.blk b B hb
 rw [q]at j
 simp only [oI,Prod.mk.injEq]at j
 obtain ⟨rfl,rfl⟩:=j
 obtain ⟨x,v⟩:=hB.some
 rcases Nat.lt_or_ge r w.heap.size with h'|h'
 ·exact h'
 ·simp [Array.getElem?_eq_none h']at v
theorem AI.Fp {h:Ak} {w:World} (H:AI ρ μ h w) {b:Nat} {B:Block} (hb:h.get b=some B):b<h.next:=by
 obtain ⟨r,δ,j,_⟩:=H.blk b B hb
 rcases Nat.lt_or_ge b h.next with h'|h'
 ·exact h'
 ·rw [H.fresh b h']at j;cases j
end
structure Av (ρ:Env) (μ:As) (h:Ak) (w:World) (μ':As) (h':Ak) (w':World):Prop where
 le:μ.le μ'
 rel:AI ρ μ' h' w'
 size:w.heap.size<=w'.heap.size
 kept:∀r,r<w.heap.size->¬AJ μ h r->w'.heap[r]?=w.heap[r]?/\¬AJ μ' h' r
 os:w'.os=w.os
 output:w'.output=w.output
 next:h.next<=h'.next
 old:∀b,b<h.next->μ' b=μ b
 icy:∀g o,μ'.AU g=some o->μ.AU g=some o∨AJ μ h g∨w.heap.size<=g
 fx:h'.fx=h.fx
theorem Av.refl {ρ:Env} {μ:As} {h:Ak} {w:World} (H:AI ρ μ h w):Av ρ μ h w μ h w:=
 ⟨μ.le_refl,H,Nat.le_refl _,fun _ _ h=>⟨rfl,h⟩,rfl,rfl,Nat.le_refl _,fun _ _=>rfl,fun _ _ h=>.inl h,rfl⟩
theorem Av.trans {ρ:Env} {μ μ' v:As} {h B x:Ak} {w w' z:World} (g:Av ρ μ h w μ' B w') (j:Av ρ μ' B w' v x z):
  Av ρ μ h w v x z where
 le:=As.le_trans g.le j.le
 rel:=j.rel
 size:=Nat.le_trans g.size j.size
 kept:=fun r C q=>by
  obtain ⟨e,H⟩:=g.kept r C q
  obtain ⟨J,A⟩:=j.kept r (Nat.lt_of_lt_of_le C g.size) H
  exact ⟨J.trans e,A⟩
 os:=j.os.trans g.os
 output:=j.output.trans g.output
 next:=Nat.le_trans g.next j.next
 old:=fun b hb=>(j.old b (Nat.lt_of_lt_of_le hb g.next)).trans (g.old b hb)
 icy:=fun k o I=>by
  rcases j.icy k o I with h1|h1|h1
  ·exact g.icy k o h1
  ·rcases Nat.lt_or_ge k w.heap.size with hlt|hge
   ·by_cases q:AJ μ h k
    ·exact .inr (.inl q)
    ·exact absurd h1 (g.kept k hlt q).2
   ·exact .inr (.inr hge)
  ·exact .inr (.inr (Nat.le_trans g.size h1))
 fx:=j.fx.trans g.fx
theorem AI.drew {ρ:Env} {μ:As} {h:Ak} {w:World} (H:AI ρ μ h w):AI ρ μ h {w with drawn:=w.drawn+1}:=⟨H.fresh,H.blk,H.inj,⟨H.AO.AO,H.AO.AU,H.AO.facts⟩⟩
theorem Y6.of {ρ:Env} {μ μ':As} {h j:Ak} {w w':World} (F:Y6 ρ μ h w) (v:∀r,r<w.heap.size->¬AJ μ h r->w'.heap[r]?=w.heap[r]?/\¬AJ μ' j r) (z:μ'.AU=μ.AU) (B:j.fx=h.fx):Y6 ρ μ' j w':=by
 have key:∀g (o:Obj),w.heap[g]?=some o/\¬AJ μ h g->w'.heap[g]?=some o/\¬AJ μ' j g:=fun g o ⟨h1,h2⟩=>by
  obtain ⟨A,x⟩:=v g (Array.getElem?_eq_some_iff.1 h1).1 h2
  exact ⟨A.trans h1,x⟩
 exact ⟨fun g o q=>key g o (F.AO g o q),fun g o q=>key g o (F.AU g o (z▸q)),B▸F.facts⟩
theorem AI.Ga {ρ:Env} {μ μ':As} {h j:Ak} {w w':World} (H:AI ρ μ h w) (q:∀r,r<w.heap.size->¬AJ μ h r->w'.heap[r]?=w.heap[r]?/\¬AJ μ' j r) (v:μ'.AU=μ.AU:=by rfl) (x:j.fx=h.fx:=by rfl):
  Y6 ρ μ' j w':=H.AO.of q v x
theorem Av.drew {ρ:Env} {μ:As} {h:Ak} {w:World} (H:AI ρ μ h w):Av ρ μ h w μ h {w with drawn:=w.drawn+1}:=
 ⟨μ.le_refl,H.drew,Nat.le_refl _,fun _ _ h=>⟨rfl,h⟩,rfl,rfl,Nat.le_refl _,fun _ _=>rfl,fun _ _ h=>.inl h,rfl⟩
def As.put (μ:As) (b:Nat) (x:Yy):As:=⟨fun c=>if c=b then some x else μ c,μ.AU⟩
theorem As.QM {μ:As} {b:Nat} {x:Yy} (h:μ b=Option.none):μ.le (μ.put b x):=⟨fun c y e=>by
 simp only [As.put]
 by_cases hc:c=b
 ·subst hc;rw [h]at e;cases e
 ·rw [if_neg hc];exact e,fun _ _ e=>e⟩
theorem As.BD (μ:As) (b:Nat) (x:Yy):μ.put b x b=some x:=by simp [As.put]
theorem As.BZ (μ:As) {b c:Nat} (x:Yy) (h:c≠b):μ.put b x c=μ c:=by simp [As.put,h]
theorem Ak.Bb (h:Ak) (b c:Nat) (o:Option Block):(h.set b o).get c=if c=b then o else h.get c:=Tr.Bb _ _ _ _
theorem Ak.JC (h:Ak) (c:Nat) (B:Block):(h.add B).get c=if c=h.next then some B else h.get c:=Tr.Bb _ _ _ _
theorem Ak.J1 (h:Ak) (b:Nat) (o:Option Block):(h.set b o).next=h.next:=rfl
theorem Ak.J2 (h:Ak) (B:Block):(h.add B).next=h.next+1:=rfl
theorem World.Ds (w:World) (o:Obj) {r:Nat} (j:r<w.heap.size):(w.alloc o).heap[r]?=w.heap[r]?:=by
 show (w.heap.push o)[r]?=_
 rw [Array.getElem?_push,if_neg (by omega)]
theorem World.heap_alloc_new (w:World) (o:Obj):(w.alloc o).heap[w.heap.size]?=some o:=by
 show (w.heap.push o)[w.heap.size]?=_
 simp
theorem Av.add {ρ:Env} {μ:As} {h:Ak} {w:World} (H:AI ρ μ h w) (B:Block) (o:Obj) (δ:Nat×Nat)
  (hB:∀μ':As,μ.le μ'->C4 ρ μ' B (some o) δ):Av ρ μ h w (μ.put h.next (w.heap.size,δ)) (h.add B) (w.alloc o):=by
 have A:μ.le (μ.put h.next (w.heap.size,δ)):=As.QM (H.fresh _ (Nat.le_refl _))
 have z:∀b q r v,(h.add B).get b=some q->μ.put h.next (w.heap.size,δ) b=some (r,v)->(b=h.next/\r=w.heap.size)∨(h.get b=some q/\μ b=some (r,v)/\r<w.heap.size):=fun b q r v hb j=>by
  rw [Ak.JC]at hb
  by_cases e:b=h.next
  ·subst e
   rw [As.BD]at j
   simp only [oI,Prod.mk.injEq]at j
   exact .inl ⟨rfl,j.1.symm⟩
  ·rw [if_neg e]at hb
   rw [As.BZ _ _ e]at j
   exact .inr ⟨hb,j,H.lt hb j⟩
 have x:∀r,r<w.heap.size->¬AJ μ h r->(w.alloc o).heap[r]?=w.heap[r]?/\¬AJ (μ.put h.next (w.heap.size,δ)) (h.add B) r:=fun r C L=>⟨World.Ds _ _ C,by
  rintro ⟨b,q,v,hb,j⟩
  rcases z _ _ _ _ hb j with ⟨_,e⟩|⟨g,n,_⟩
  ·omega
  ·exact L ⟨b,q,v,g,n⟩⟩
 refine ⟨A,⟨fun b hb=>?_,fun b q hb=>?_,fun b O P Q r N M J I m1 m2=>?_,H.Ga x⟩,?_,x,rfl,rfl,Nat.le_succ _,fun b hb=>As.BZ _ _ (by omega),fun _ _ h=>.inl h,rfl⟩
 ·rw [Ak.J2]at hb
  rw [As.BZ _ _ (by omega)]
  exact H.fresh b (by omega)
 ·rw [Ak.JC]at hb
  by_cases e:b=h.next
  ·subst e
   rw [if_pos rfl]at hb
   simp only [oI]at hb
   subst hb
   exact ⟨_,_,As.BD _ _ _,by rw [World.heap_alloc_new];exact hB _ A⟩
  ·rw [if_neg e]at hb
   obtain ⟨r,v,j,C⟩:=H.blk b q hb
   exact ⟨r,v,by rw [As.BZ _ _ e];exact j,by rw [World.Ds _ _ (H.lt hb j)];exact C.mono A⟩
 ·rcases z _ _ _ _ J m1 with ⟨e1,e2⟩|⟨g1,n1,l1⟩<;>rcases z _ _ _ _ I m2 with ⟨e3,e4⟩|⟨g2,n2,l2⟩
  ·rw [e1,e3]
  ·omega
  ·omega
  ·exact H.inj _ _ _ _ _ _ _ g1 g2 n1 n2
 ·show w.heap.size<=(w.heap.push o).size;simp
theorem AI.drop {ρ:Env} {μ:As} {h:Ak} {w:World} (H:AI ρ μ h w) (j:Ak) (A:j.next=h.next) (q:j.fx=h.fx) (hs:∀b B,j.get b=some B->h.get b=some B):AI ρ μ j w:=
 ⟨fun b hb=>H.fresh b (A▸hb),fun b B hb=>H.blk b B (hs b B hb),fun _ _ _ _ _ _ _ z x m1 m2=>H.inj _ _ _ _ _ _ _ (hs _ _ z) (hs _ _ x) m1 m2,
  H.Ga (fun _ _ v=>⟨rfl,fun ⟨c,B,δ,hc,hm⟩=>v ⟨c,B,δ,hs c B hc,hm⟩⟩) rfl q⟩
theorem Av.change {ρ:Env} {μ:As} {h:Ak} {w w':World} (H:AI ρ μ h w) {b:Nat} {C:Block} {r:Nat} {δ:Nat×Nat} (hb:h.get b=some C) (x:μ b=some (r,δ)) (B:Block)
  (J:∀i,i≠r->w'.heap[i]?=w.heap[i]?) (V:w'.heap.size=w.heap.size) (O:w'.os=w.os) (I:w'.output=w.output) (hB:C4 ρ μ B w'.heap[r]? δ):Av ρ μ h w μ (h.set b (some B)) w':=by
 have v:∀s,s<w.heap.size->¬AJ μ h s->w'.heap[s]?=w.heap[s]?/\¬AJ μ (h.set b (some B)) s:=fun s hs L=>by
  have z:s≠r:=fun e=>L ⟨b,C,δ,hb,e▸x⟩
  refine ⟨J s z,?_⟩
  rintro ⟨c,q,A,hc,j⟩
  rw [Ak.Bb]at hc
  by_cases e:c=b
  ·subst e
   rw [x]at j
   simp only [oI,Prod.mk.injEq]at j
   exact z j.1.symm
  ·rw [if_neg e]at hc
   exact L ⟨c,q,A,hc,j⟩
 refine ⟨μ.le_refl,⟨fun c hc=>H.fresh c hc,fun c q hc=>?_,fun c Y B1 B2 s Z X Q P m1 m2=>?_,H.Ga v⟩,by omega,v,O,I,Nat.le_refl _,fun _ _=>rfl,fun _ _ h=>.inl h,rfl⟩
 ·rw [Ak.Bb]at hc
  by_cases e:c=b
  ·subst e
   rw [if_pos rfl]at hc
   simp only [oI]at hc
   subst hc
   exact ⟨r,δ,x,hB⟩
  ·rw [if_neg e]at hc
   obtain ⟨s,A,j,R⟩:=H.blk c q hc
   refine ⟨s,A,j,?_⟩
   rw [J s (fun U=>e (H.inj _ _ _ _ _ _ _ hc hb j (U▸x)))]
   exact R
 ·have M:∀c q,(h.set b (some B)).get c=some q->∃N,h.get c=some N:=fun c q hc=>by
   rw [Ak.Bb]at hc
   by_cases e:c=b
   ·exact ⟨C,e▸hb⟩
   ·rw [if_neg e]at hc;exact ⟨q,hc⟩
  obtain ⟨_,g1⟩:=M _ _ Q
  obtain ⟨_,g2⟩:=M _ _ P
  exact H.inj _ _ _ _ _ _ _ g1 g2 m1 m2
end
section
theorem Ac {α β:Type} {o:Option α} {f:α->Option β} {b:β} (h:AA o f=some b):∃a,o=some a/\f a=some b:=by
 cases o with
 |none=>exact absurd h (by simp [AA])
 |some a=>exact ⟨a,rfl,h⟩
theorem Aq {α:Type} {c:Bool} {x:Option α} {b:α} (h:(bif c then x else none)=some b):c=true/\x=some b:=by
 cases c with
 |false=>simp at h
 |true=>exact ⟨rfl,h⟩
theorem AL {a b:Nat}:Nat.ble a b=true↔a<=b:=⟨Nat.le_of_ble_eq_true,Nat.ble_eq_true_of_le⟩
theorem Ij {a b:Nat}:Nat.blt a b=true↔a<b:=AL
theorem Ao {a b:Nat}:Nat.beq a b=true↔a=b:=⟨Nat.eq_of_beq_eq_true,fun h=>by subst h;simp⟩
theorem J5:∀l:List Aa,Bc l=l.length
 |[]=>rfl
 |_::r=>by show Bc r+1=_;rw [J5 r];rfl
theorem Ks:∀(l:List Aa) (n:Nat),nth l n=l[n]?
 |[],n=>by simp;rfl
 |x::r,0=>rfl
 |x::r,n+1=>by show nth r n=_;rw [Ks r n];simp
theorem IW:∀(n:Nat) (l:List Aa),dropped n l=l.drop n
 |0,l=>rfl
 |n+1,[]=>rfl
 |n+1,x::r=>by show dropped n r=_;rw [IW n r];rfl
theorem FZ:∀{n:Nat} {l r:List Aa},taken n l=some r->r=l.take n/\n<=l.length
 |0,l,r,h=>by
  have h:some []=some r:=h
  simp only [oI]at h
  subst h;simp
 |n+1,[],r,h=>by have h:none=some r:=h;cases h
 |n+1,x::l,r,h=>by
  have h:(AA (taken n l) fun r=>some (x::r))=some r:=h
  obtain ⟨s,hs,j⟩:=Ac h
  simp only [oI]at j
  subst j
  obtain ⟨rfl,hl⟩:=FZ hs
  exact ⟨rfl,by simp;omega⟩
theorem JP {j r:List Aa} {i n:Nat} (h:cut j i n=some r):r.length=n/\(n=0∨i+n<=j.length)/\∀k,r[k]?=if k<n then j[i+k]? else none:=by
 unfold cut at h
 rw [IW]at h
 obtain ⟨rfl,hl⟩:=FZ h
 rw [List.length_drop]at hl
 refine ⟨by simp;omega,by omega,fun k=>?_⟩
 rw [List.getElem?_take]
 split
 ·rw [List.getElem?_drop]
 ·rfl
theorem OH:∀{vs j r:List Aa},over vs j=some r->r.length=j.length/\vs.length<=j.length/\∀k,r[k]?=if k<vs.length then vs[k]? else j[k]?
 |[],j,r,h=>by
  have h:some j=some r:=h
  simp only [oI]at h
  subst h;simp
 |v::vs,[],r,h=>by have h:none=some r:=h;cases h
 |v::vs,x::j,r,h=>by
  have h:(AA (over vs j) fun r=>some (v::r))=some r:=h
  obtain ⟨s,hs,q⟩:=Ac h
  simp only [oI]at q
  subst q
  obtain ⟨A,z,B⟩:=OH hs
  refine ⟨by simp [A],by simpa using z,fun k=>?_⟩
  cases k with
  |zero=>simp
  |succ k=>simp [B k]
theorem Hh {vs:List Aa}:∀{i:Nat} {j r:List Aa},splice vs i j=some r->
  r.length=j.length/\i+vs.length<=j.length/\∀k,r[k]?=if i<=k/\k<i+vs.length then vs[k-i]? else j[k]?
 |0,j,r,h=>by
  have h:over vs j=some r:=h
  obtain ⟨q,A,v⟩:=OH h
  exact ⟨q,by omega,fun k=>by rw [v k];simp⟩
 |i+1,[],r,h=>by have h:none=some r:=h;cases h
 |i+1,x::j,r,h=>by
  have h:(AA (splice vs i j) fun r=>some (x::r))=some r:=h
  obtain ⟨s,hs,z⟩:=Ac h
  simp only [oI]at z
  subst z
  obtain ⟨q,A,v⟩:=Hh hs
  refine ⟨by simp [q],by simp;omega,fun k=>?_⟩
  cases k with
  |zero=>rw [if_neg (by omega)];rfl
  |succ k=>
   rw [List.getElem?_cons_succ,List.getElem?_cons_succ,v k]
   by_cases hk:i<=k/\k<i+vs.length
   ·rw [if_pos hk,if_pos (by omega)];congr 1;omega
   ·rw [if_neg hk,if_neg (by omega)]
theorem AaR (z:List Aa):∀n,rep z n=(List.replicate n z).flatten
 |0=>rfl
 |n+1=>by show z++rep z n=_;rw [AaR z n,List.replicate_succ,List.flatten_cons]
theorem IG (z:List Aa):∀n,(rep z n).length=n*z.length
 |0=>by simp [show rep z 0=[]from rfl]
 |n+1=>by
  show (z++rep z n).length=_
  rw [lA,IG z n,Nat.succ_mul];omega
theorem Wq (z:List Aa):∀(n k:Nat),k<n*z.length->(rep z n)[k]?=z[k%z.length]?
 |0,k,h=>by omega
 |n+1,k,h=>by
  show (z++rep z n)[k]?=_
  by_cases hk:k<z.length
  ·rw [List.getElem?_append_left hk,Nat.mod_eq_of_lt hk]
  ·rw [List.getElem?_append_right (by omega),Wq z n _ (by rw [Nat.succ_mul]at h;omega)]
   rw [<-Nat.mod_eq_sub_mod (by omega)]
theorem Df:∀l:List Nat,Ip l=l.length
 |[]=>rfl
 |_::r=>by show Ip r+1=_;rw [Df r];rfl
theorem Fo:∀(l:List Nat) (n:Nat),Ca l n=l[n]?
 |[],n=>by simp;rfl
 |x::r,0=>rfl
 |x::r,n+1=>by show Ca r n=_;rw [Fo r n];simp
theorem La:∀(n:Nat) (l:List Nat),M3 n l=l.drop n
 |0,l=>rfl
 |n+1,[]=>rfl
 |n+1,x::r=>by show M3 n r=_;rw [La n r];rfl
theorem KZ:∀{n:Nat} {l r:List Nat},U6 n l=some r->r=l.take n
 |0,l,r,h=>by
  have h:some []=some r:=h
  simp only [oI]at h
  subst h;simp
 |n+1,[],r,h=>by have h:none=some r:=h;cases h
 |n+1,x::l,r,h=>by
  have h:(AA (U6 n l) fun r=>some (x::r))=some r:=h
  obtain ⟨s,hs,j⟩:=Ac h
  simp only [oI]at j
  subst j
  rw [KZ hs];rfl
theorem Dt:∀{a b:List Nat},Ot a b=true↔a=b
 |[],[]=>by simp;rfl
 |[],b::y=>by constructor<;>intro h<;>(first|cases h|(have h:false=true:=h;cases h))
 |a::x,[]=>by constructor<;>intro h<;>(first|cases h|(have h:false=true:=h;cases h))
 |a::x,b::y=>by
  show (Nat.beq a b&&Ot x y)=true↔_
  rw [aT,Ao,Dt,List.cons.injEq]
theorem WT:∀l:List Entry,AdI l=l.length
 |[]=>rfl
 |_::r=>by show AdI r+1=_;rw [WT r];rfl
theorem Kf {a b:ByteArray} (h:strOf a=strOf b):a=b:=by
 unfold strOf at h
 have:a.data.toList=b.data.toList:=by
  generalize a.data.toList=x at h
  generalize b.data.toList=y at h
  induction x generalizing y with
  |nil=>cases y with
   |nil=>rfl
   |cons _ _=>simp at h
  |cons c x ih=>cases y with
   |nil=>simp at h
   |cons d y=>
    simp only [List.map_cons,List.cons.injEq]at h
    rw [UInt8.toNat_inj.1 h.1,ih y h.2]
 cases a;cases b
 simp only at this
 congr 1
 exact Array.toList_inj.1 this
theorem CB (a b:ByteArray):Ot (strOf a) (strOf b)=(a.toList==b.toList):=by
 rw [Bool.eq_iff_iff,Dt,ByteArray.toList_eq,ByteArray.toList_eq]
 simp only [beq_iff_eq]
 constructor
 ·intro h;rw [Kf h]
 ·intro h;unfold strOf;rw [h]
theorem ZS (a b:ByteArray):ltL (strOf a) (strOf b)=Op.bytesLess a.toList b.toList:=by
 rw [ByteArray.toList_eq,ByteArray.toList_eq]
 unfold strOf
 generalize a.data.toList=x
 generalize b.data.toList=y
 induction x generalizing y with
 |nil=>cases y<;>rfl
 |cons c x ih=>
  cases y with
  |nil=>rfl
  |cons d y=>
   show (Nat.blt c.toNat d.toNat||(Nat.beq c.toNat d.toNat&&ltL (x.map (·.toNat)) (y.map (·.toNat))))=(decide (c<d) ||(c==d&&Op.bytesLess x y))
   rw [ih y]
   congr 1
   ·rw [Bool.eq_iff_iff,Ij];simp [UInt8.lt_iff_toNat_lt]
   ·congr 1
    rw [Bool.eq_iff_iff,Ao];simp [UInt8.toNat_inj]
theorem B8 (a:ByteArray):(strOf a).length=a.size:=by
 unfold strOf;rw [List.length_map];rfl
theorem beq_iff' {a b:Bool}:beq a b=true↔a=b:=by rw [beq_eq];simp
theorem Aa.Tl {x y:Aa} (h:x.eqC y=true):x=y:=by
 unfold Aa.eqC at h
 split at h<;>first
  |rfl
  |(cases h;done)
  |(simp only [aT,Ao]at h;obtain ⟨⟨⟨rfl,rfl⟩,rfl⟩,rfl⟩:=h;rfl)
  |(simp only [aT,Ao]at h;obtain ⟨rfl,rfl⟩:=h;rfl)
  |(rw [Ao]at h;rw [h];done)
  |(rw [Dt]at h;rw [h];done)
  |(rw [SB.AX h];done)
  |(rw [aT,Di]at h;obtain ⟨rfl,h⟩:=h;rw [ST.AX h];done)
  |(rw [aT,aT,aT,beq_iff',Ao,Ao]at h;obtain ⟨rfl,rfl,rfl,h⟩:=h;rw [ST.AX h];done)
  |(rw [aT,aT,Ao,Ao]at h;obtain ⟨rfl,h,rfl⟩:=h;rw [ST.AX h];done)
  |(rw [aT,aT,Ao,Ao]at h;obtain ⟨rfl,rfl,h⟩:=h;rw [ST.AX h];done)
  |(rw [aT,aT,aT,Ao,Ao,Ao]at h;obtain ⟨rfl,rfl,h,rfl⟩:=h;rw [ST.AX h];done)
theorem Aa.K9:∀{x y:List Aa},Aa.AdH x y=true->x=y
 |[],[],_=>rfl
 |[],_::_,h=>by cases h
 |_::_,[],h=>by cases h
 |a::x,b::y,h=>by
  have h:(a.eqC b&&Aa.AdH x y)=true:=h
  rw [aT]at h
  rw [Aa.Tl h.1,Aa.K9 h.2]
theorem Aa.Dj {x y:Aa} (h:x.eq y=true):x=y:=by
 unfold Aa.eq at h
 split at h
 ·rw [aT,aT,Ao]at h
  obtain ⟨rfl,j,q⟩:=h
  rw [Aa.K9 j,Aa.K9 q]
 ·exact Aa.Tl h
theorem Aa.Da:∀{x y:List Aa},Aa.Po x y=true->x=y
 |[],[],_=>rfl
 |[],_::_,h=>by cases h
 |_::_,[],h=>by cases h
 |a::x,b::y,h=>by
  have h:(a.eq b&&Aa.Po x y)=true:=h
  rw [aT]at h
  rw [Aa.Dj h.1,Aa.Da h.2]
theorem Pn:∀{x y:List (List Aa)},Ahz x y=true->x=y
 |[],[],_=>rfl
 |[],_::_,h=>by cases h
 |_::_,[],h=>by cases h
 |a::x,b::y,h=>by
  have h:(Aa.Po a b&&Ahz x y)=true:=h
  rw [aT]at h
  rw [Aa.Da h.1,Pn h.2]
theorem AE.Dj {x y:AE} (h:x.eq y=true):x=y:=by
 unfold AE.eq at h
 split at h
 ·rw [Pn h]
 ·rw [Nat.eq_of_beq_eq_true h]
 ·rw [aT]at h;rw [Nat.eq_of_beq_eq_true h.1,ST.AX h.2]
 ·rw [aT]at h;rw [Nat.eq_of_beq_eq_true h.1,ST.AX h.2]
 ·cases h
theorem AE.Da:∀{x y:List AE},AE.Po x y=true->x=y
 |[],[],_=>rfl
 |[],_::_,h=>by cases h
 |_::_,[],h=>by cases h
 |a::x,b::y,h=>by
  have h:(a.eq b&&AE.Po x y)=true:=h
  rw [aT]at h
  rw [AE.Dj h.1,AE.Da h.2]
theorem FO {x y:Aa} {v:Bool}:∀{l:List (Aa×Aa×Bool)},M7 x y l=some v->(x,y,v)∈l
 |[],h=>by cases h
 |e::r,h=>by
  have h:(bif x.eq e.1&&y.eq e.2.1 then some e.2.2 else M7 x y r)=some v:=h
  cases c:x.eq e.1&&y.eq e.2.1 with
  |true=>
   rw [c]at h
   simp only [cond_true,oI]at h
   rw [aT]at c
   rw [Aa.Dj c.1,Aa.Dj c.2,<-h]
   exact List.mem_cons_self
  |false=>rw [c]at h;exact List.mem_cons_of_mem _ (FO h)
theorem OU {x y v:Aa}:∀{l:List (Aa×Aa×Aa)},AbA x y l=some v->(x,y,v)∈l
 |[],h=>by cases h
 |e::r,h=>by
  have h:(bif x.eq e.1&&y.eq e.2.1 then some e.2.2 else AbA x y r)=some v:=h
  cases c:x.eq e.1&&y.eq e.2.1 with
  |true=>
   rw [c]at h
   simp only [cond_true,oI]at h
   rw [aT]at c
   rw [Aa.Dj c.1,Aa.Dj c.2,<-h]
   exact List.mem_cons_self
  |false=>rw [c]at h;exact List.mem_cons_of_mem _ (OU h)
theorem Kv {i:Nat} {v:ST×Nat×Nat}:∀{l:List (Nat×ST×Nat×Nat)},WB i l=some v->(i,v)∈l
 |[],h=>by cases h
 |e::r,h=>by
  have h:(bif Nat.beq e.1 i then some e.2 else WB i r)=some v:=h
  cases c:Nat.beq e.1 i with
  |true=>
   rw [c]at h
   simp only [cond_true,oI]at h
   rw [<-h,<-Nat.eq_of_beq_eq_true c]
   exact List.mem_cons_self
  |false=>rw [c]at h;exact List.mem_cons_of_mem _ (Kv h)
theorem Cy {i:Nat} {v:ST}:∀{l:List (Nat×ST)},EA i l=some v->(i,v)∈l
 |[],h=>by cases h
 |e::r,h=>by
  have h:(bif Nat.beq e.1 i then some e.2 else EA i r)=some v:=h
  cases c:Nat.beq e.1 i with
  |true=>
   rw [c]at h
   simp only [cond_true,oI]at h
   rw [<-h,<-Nat.eq_of_beq_eq_true c]
   exact List.mem_cons_self
  |false=>rw [c]at h;exact List.mem_cons_of_mem _ (Cy h)
theorem Ie {i:Nat} {t:ST} {v:List Aa}:∀{l:List (Nat×ST×List Aa)},OT i t l=some v->(i,t,v)∈l
 |[],h=>by cases h
 |e::r,h=>by
  have h:(bif Nat.beq e.1 i&&e.2.1.eq t then some e.2.2 else OT i t r)=some v:=h
  cases c:Nat.beq e.1 i&&e.2.1.eq t with
  |true=>
   rw [c]at h
   simp only [cond_true,oI]at h
   rw [aT]at c
   rw [<-Nat.eq_of_beq_eq_true c.1,<-ST.AX c.2,<-h]
   exact List.mem_cons_self
  |false=>rw [c]at h;exact List.mem_cons_of_mem _ (Ie h)
theorem OS {i:Nat} {k:Aa} {v:Option (List Aa)}:∀{l:List (Nat×Aa×Option (List Aa))},Ab8 i k l=some v->(i,k,v)∈l
 |[],h=>by cases h
 |e::r,h=>by
  have h:(bif Nat.beq e.1 i&&k.eq e.2.1 then some e.2.2 else Ab8 i k r)=some v:=h
  cases c:Nat.beq e.1 i&&k.eq e.2.1 with
  |true=>
   rw [c]at h
   simp only [cond_true,oI]at h
   rw [aT]at c
   rw [<-Nat.eq_of_beq_eq_true c.1,Aa.Dj c.2,<-h]
   exact List.mem_cons_self
  |false=>rw [c]at h;exact List.mem_cons_of_mem _ (OS h)
theorem OQ {i j:Nat} {k:Aa} {cs:List Aa}:∀{l:List (Nat×Aa×List Aa×Nat)},Ab7 i k cs l=some j->(i,k,cs,j)∈l
 |[],h=>by cases h
 |e::r,h=>by
  have h:(bif Nat.beq e.1 i&&(k.eq e.2.1&&Aa.Po cs e.2.2.1)then some e.2.2.2 else Ab7 i k cs r)=some j:=h
  cases c:Nat.beq e.1 i&&(k.eq e.2.1&&Aa.Po cs e.2.2.1)with
  |true=>
   rw [c]at h
   simp only [cond_true,oI]at h
   rw [aT,aT]at c
   rw [<-Nat.eq_of_beq_eq_true c.1,Aa.Dj c.2.1,Aa.Da c.2.2,<-h]
   exact List.mem_cons_self
  |false=>rw [c]at h;exact List.mem_cons_of_mem _ (OQ h)
theorem OV {t u:ST} {n:Nat}:∀{l:List (ST×Nat×ST)},AbB t n l=some u->∃m,n<=m/\(t,m,u)∈l
 |[],h=>by cases h
 |e::r,h=>by
  have h:(bif t.eq e.1&&Nat.ble n e.2.1 then some e.2.2 else AbB t n r)=some u:=h
  cases c:t.eq e.1&&Nat.ble n e.2.1 with
  |true=>
   rw [c]at h
   simp only [cond_true,oI]at h
   rw [aT]at c
   refine ⟨e.2.1,Nat.le_of_ble_eq_true c.2,?_⟩
   rw [ST.AX c.1,<-h]
   exact List.mem_cons_self
  |false=>
   rw [c]at h
   obtain ⟨m,q,j⟩:=OV h
   exact ⟨m,q,List.mem_cons_of_mem _ j⟩
theorem EI {p:List AE} {j:Nat}:∀{l:List (Nat×List AE)},J4 p l=some j->(j,p)∈l
 |[],h=>by cases h
 |e::r,h=>by
  have h:(bif AE.Po p e.2 then some e.1 else J4 p r)=some j:=h
  cases c:AE.Po p e.2 with
  |true=>
   rw [c]at h
   simp only [cond_true,oI]at h
   rw [AE.Da c,<-h]
   exact List.mem_cons_self
  |false=>rw [c]at h;exact List.mem_cons_of_mem _ (EI h)
theorem OA {p:List AE} {j:Nat}:∀{l:List (Nat×List AE)},AaI p l=some j->(j,p)∈l
 |[],h=>by cases h
 |e::r,h=>by
  have h:(bif AE.Po p e.2 then some e.1 else AaI p r)=some j:=h
  cases c:AE.Po p e.2 with
  |true=>
   rw [c]at h
   simp only [cond_true,oI]at h
   rw [AE.Da c,<-h]
   exact List.mem_cons_self
  |false=>rw [c]at h;exact List.mem_cons_of_mem _ (OA h)
end
section
section
variable {P:Program} {Γ:Ap} {ρ:Env} {μ:As} {tm:Tr Aa} {a:Act} {w:World}
def AT (ρ:Env) (μ:As) (tm:Tr Aa) (a:Act):Prop:=∀t,Ag ρ μ (Em (tm.get t)) (a.tmps.getD t undef)
theorem AT.mono {j:As} (q:AT ρ μ tm a) (h:μ.le j):AT ρ j tm a:=fun t=>(q t).mono h
mutual
theorem Db:∀v:Value,Ag ρ μ (GB v) v
 |.bool b=>by simp only [GB,Ag,SB.den]
 |.int k n=>by simp only [GB,Ag,ST.den]
 |.string s=>by simp only [GB,Ag];exact ⟨s,rfl,rfl⟩
 |.pointer none=>by simp only [GB,Ag]
 |.pointer (some _)=>trivial
 |.slice none 0 0=>by simp only [GB,Ag]
 |.slice none 0 (_+1)=>trivial
 |.slice none (_+1) _=>trivial
 |.slice (some _) _ _=>trivial
 |.map none=>by simp only [GB,Ag]
 |.map (some _)=>trivial
 |.nilFunc=>by simp only [GB,Ag]
 |.nilIface=>by simp only [GB,Ag]
 |.agg ⟨cs⟩=>by
  simp only [GB]
  split
  ·rename_i h
   simp only [Ag]
   exact ⟨⟨cs⟩,rfl,N9 cs h⟩
  ·trivial
 |.float _ _=>trivial
 |.complex _ _ _=>trivial
 |.chan _=>trivial
 |.func _ _ _=>trivial
 |.iface _ _=>trivial
 |.tuple _=>trivial
theorem N9:∀l:List Value,(T6 l).all (·.single)=true->Aw ρ μ (T6 l) l
 |[],_=>by simp only [T6,Aw]
 |v::r,h=>by
  simp only [T6,List.all_cons,aT]at h
  simp only [T6,Aw]
  exact ⟨v,r,rfl,⟨h.1,Db v⟩,N9 r h.2⟩
end
theorem Au (j:AT ρ μ tm a) (x:Operand):Ag ρ μ (ev tm (AD x)) (a.eval x):=by
 cases x with
 |tmp t=>exact j t
 |const v=>exact Db v
 |global g=>trivial
 |func f=>
  show Ag ρ μ (.func f [] []) (.func (.func f) #[] #[])
  simp only [Ag]
  exact ⟨#[],#[],rfl,by simp only [A6],by simp only [A6]⟩
theorem FT (j:AT ρ μ tm a):∀l:List Operand,A6 ρ μ (RR tm (BU l)) (l.map a.eval)
 |[]=>by show A6 ρ μ [] [];simp only [A6]
 |x::r=>by
  show A6 ρ μ (ev tm (AD x)::RR tm (BU r)) _
  simp only [A6,List.map_cons]
  exact ⟨_,_,rfl,Au j x,FT j r⟩
theorem AT.put (q:AT ρ μ tm a) {d:Option Tmp} {v:Aa} {u:Value} (hd:∀t,d=some t->t<a.tmps.size) (h:Ag ρ μ v u):AT ρ μ (DI tm d v) (a.put d u):=by
 cases d with
 |none=>exact q
 |some d=>
  intro t
  show Ag ρ μ (Em ((tm.set d (some v)).get t)) ((a.tmps.setIfInBounds d u).getD t undef)
  rw [Tr.Bb]
  have j:=hd d rfl
  by_cases e:t=d
  ·subst e
   rw [if_pos rfl]
   simpa [Array.getD_eq_getD_getElem?,j,Em]using h
  ·rw [if_neg e]
   have:=q t
   simpa [Array.getD_eq_getD_getElem?,Array.getElem?_setIfInBounds_ne (Ne.symm e)]using this
theorem Act.Md (d:Option Tmp) (u:Value):(a.put d u).tmps.size=a.tmps.size:=by
 cases d<;>simp [Act.put]
theorem Ag.int {k:IntKind} {n:ST} {v:Value} (h:Ag ρ μ (.int k n) v):v=.int k (n.den ρ):=by simpa only [Ag]using h
theorem Ag.bool {b:SB} {v:Value} (h:Ag ρ μ (.bool b) v):v=.bool (b.den ρ):=by simpa only [Ag]using h
theorem Ag.agg {cs:List Aa} {v:Value} (h:Ag ρ μ (.agg cs) v):∃a:Array Value,v=.agg a/\Aw ρ μ cs a.toList:=by simpa only [Ag]using h
theorem Ag.tuple {cs:List Aa} {v:Value} (h:Ag ρ μ (.tuple cs) v):∃a:Array Value,v=.tuple a/\A6 ρ μ cs a.toList:=by simpa only [Ag]using h
theorem Ag.str {s:List Nat} {v:Value} (h:Ag ρ μ (.str s) v):∃b:ByteArray,v=.string b/\strOf b=s:=by simpa only [Ag]using h
theorem Ag.ptr {b j:Nat} {v:Value} (h:Ag ρ μ (.ptr b j) v):∃r δ m,μ b=some (r,δ,m)/\v=.pointer (some ⟨r,δ+j,none⟩):=by simpa only [Ag]using h
theorem Ag.slice {b j len c:Nat} {v:Value} (h:Ag ρ μ (.slice b j len c) v):
  ∃r δ m,μ b=some (r,δ,m)/\v=.slice (some ⟨r,δ+j,none⟩) len c/\len<=c:=by simpa only [Ag]using h
theorem Ag.gslice {b j len q:Nat} {v:Value} (h:Ag ρ μ (.gslice b j len q) v):
  ∃r δ m c,μ b=some (r,δ,m)/\v=.slice (some ⟨r,δ+j,none⟩) len c/\len<=c/\j+c*q<=m:=by simpa only [Ag]using h
theorem Ag.NT {b:Nat} {v:Value} (h:Ag ρ μ (.map b) v):∃r,μ b=some (r,0,0)/\v=.map (some r):=by simpa only [Ag]using h
theorem Ag.func {f:FuncId} {x c:List Aa} {v:Value} (h:Ag ρ μ (.func f x c) v):∃j q:Array Value,v=.func (.func f) j q/\A6 ρ μ x j.toList/\A6 ρ μ c q.toList:=by simpa only [Ag]using h
theorem Ag.iface {t:TypeId} {x:Aa} {v:Value} (h:Ag ρ μ (.iface t x) v):∃u,v=.iface t u/\Ag ρ μ x u:=by simpa only [Ag]using h
theorem Ag.anyStr {n:Nat} {v:Value} (h:Ag ρ μ (.anyStr n) v):∃b:ByteArray,v=.string b/\1<=b.size/\b.size<=n:=by simpa only [Ag]using h
theorem Ag.gbytes {b:Nat} {v:Value} (h:Ag ρ μ (.gbytes b) v):∃r m,μ b=some (r,0,m)/\v=.slice (some ⟨r,0,none⟩) (BE m) (BL m)/\1<=BE m/\BE m<=BL m:=by simpa only [Ag]using h
theorem Ag.glen {b:Nat} {v:Value} (h:Ag ρ μ (.glen b) v):∃r m,μ b=some (r,0,m)/\v=.int .i64 (BE m:Nat):=by simpa only [Ag]using h
theorem Ag.svar {i:Nat} {v:Value} (h:Ag ρ μ (.svar i) v):∃b:ByteArray,v=.string b/\strOf b=ρ.str i:=by simpa only [Ag]using h
theorem Ag.lst {f:Bool} {i j:Nat} {n:ST} {v:Value} (h:Ag ρ μ (.lst f i j n) v):GQ μ.AU (.list j (ρ.lst i)) v/\n.den ρ=((ρ.lst i).length:Int)/\(f=true->∃p,v=.slice p (ρ.lst i).length (ρ.lst i).length):=by simpa only [Ag]using h
theorem Ag.lptr {i q:Nat} {j:ST} {v:Value} (h:Ag ρ μ (.lptr i j q) v):∃r δ a e ps,v=.pointer (some ⟨r,δ+q,none⟩)/\I2 μ.AU r a e/\0<=j.den ρ/\(ρ.lst i)[(j.den ρ).toNat]?=some ps/\AK μ.AU a δ ps:=by simpa only [Ag]using h
theorem Ag.vec {b j:Nat} {n:ST} {v:Value} (h:Ag ρ μ (.vec b j n) v):∃r m k,μ b=some (r,0,m)/\v=.slice (some ⟨r,0,none⟩) k (BL m)/\n.den ρ=(k:Int)/\k<=BE m/\BE m<=BL m:=by simpa only [Ag]using h
theorem Ag.vptr {b x q:Nat} {j:ST} {v:Value} (h:Ag ρ μ (.vptr b x j q) v):∃r m,μ b=some (r,0,m)/\v=.pointer (some ⟨r,(j.den ρ).toNat*x+q,none⟩)/\0<=j.den ρ:=by simpa only [Ag]using h
theorem Ag.D7 {f:Bool} {i q:Nat} {n:ST} {v:Value} (h:Ag ρ μ (.lst f i q n) v):∃p c,v=.slice p (ρ.lst i).length c/\(ρ.lst i).length<=c/\n.den ρ=((ρ.lst i).length:Int)/\
  ((ρ.lst i).length≠0->∃r δ a e,p=some ⟨r,δ,none⟩/\I2 μ.AU r a e/\BG μ.AU q a δ (ρ.lst i)):=by
 obtain ⟨x,j,_⟩:=h.lst
 simp only [GQ]at x
 obtain ⟨c,hc,⟨e,p,rfl⟩|⟨r,δ,a,t,rfl,A,z⟩⟩:=x
 ·exact ⟨p,c,by rw [e];rfl,hc,j,fun h=>absurd (by rw [e];rfl) h⟩
 ·exact ⟨_,c,rfl,hc,j,fun _=>⟨r,δ,a,t,rfl,A,z⟩⟩
theorem BG.get {AU:Nat->Option Obj} {j:Nat} {a:Array Value}:∀{l:List (List PV)} {δ:Nat},BG AU j a δ l->∀(i:Nat) (ps:List PV),l[i]?=some ps->ps.length=j/\AK AU a (δ+i*j) ps
 |[],_,_,i,ps,h=>by simp at h
 |qs::r,δ,e,i,ps,h=>by
  simp only [BG]at e
  obtain ⟨v,z,A⟩:=e
  cases i with
  |zero=>
   simp only [List.getElem?_cons_zero,oI]at h
   subst h
   exact ⟨v,by simpa using z⟩
  |succ i=>
   obtain ⟨q,x⟩:=BG.get A i ps (by simpa using h)
   exact ⟨q,by rw [Nat.add_mul,Nat.one_mul];rw [show δ+(i*j+j)=δ+j+i*j by omega];exact x⟩
section
variable {AU:Nat->Option Obj} {a:Array Value}
theorem AK.append_iff:∀{x y:List PV} {δ:Nat},AK AU a δ (x++y)↔AK AU a δ x/\AK AU a (δ+x.length) y
 |[],y,δ=>by simp only [List.nil_append,AK,true_and,lN,Nat.add_zero]
 |p::x,y,δ=>by
  simp only [List.cons_append,AK,lC]
  rw [AK.append_iff (x:=x) (y:=y) (δ:=δ+1),and_assoc]
  rw [show δ+1+x.length=δ+(x.length+1) by omega]
theorem Bx {j:Nat}:∀{l:List (List PV)} {δ:Nat},BG AU j a δ l↔(∀ps∈l,ps.length=j)/\AK AU a δ l.flatten
 |[],δ=>by simp only [BG,List.flatten_nil,AK,List.not_mem_nil,false_implies,implies_true,and_self]
 |ps::l,δ=>by
  simp only [BG,List.flatten_cons,AK.append_iff,Bx (l:=l),List.mem_cons,forall_eq_or_imp]
  constructor
  ·rintro ⟨h1,h2,h3,h4⟩
   exact ⟨⟨h1,h3⟩,h2,by rw [h1];exact h4⟩
  ·rintro ⟨⟨h1,h3⟩,h2,h4⟩
   exact ⟨h1,h2,h3,by rw [h1]at h4;exact h4⟩
theorem BB {j:Nat}:∀{l:List (List PV)},(∀ps∈l,ps.length=j)->l.flatten.length=l.length*j
 |[],_=>by simp
 |ps::l,h=>by
  rw [List.flatten_cons,lA,BB fun x q=>h x (List.mem_cons_of_mem _ q),h ps List.mem_cons_self,lC,Nat.add_mul]
  omega
end
theorem GQ.TF {x:Aa} {p:PV} {v:Value} (hd:KR ρ x p) (h:GQ μ.AU p v):Ag ρ μ x v/\x.single=true:=by
 cases x<;>simp only [KR]at hd
 case bool|int|nilPtr=>subst hd;simp only [GQ]at h;exact ⟨by simp only [Ag];exact h,rfl⟩
 case str=>subst hd;simp only [GQ]at h;exact ⟨by simp only [Ag];exact h,rfl⟩
 case svar=>subst hd;simp only [GQ]at h;exact ⟨by simp only [Ag];exact h,rfl⟩
 case lst f i es n=>
  obtain ⟨rfl,rfl,j⟩:=hd
  exact ⟨by simp only [Ag];exact ⟨h,j,fun e=>by cases e⟩,rfl⟩
theorem AK.TF {c:Array Value}:∀{j:List Aa} {ps:List PV} {δ:Nat},DS ρ j ps->AK μ.AU c δ ps->j.length=ps.length/\∀(i:Nat) (x:Aa),j[i]?=some x->∃v,c[δ+i]?=some v/\x.single=true/\Ag ρ μ x v
 |[],ps,δ,hd,h=>by
  simp only [DS]at hd
  subst hd
  exact ⟨rfl,fun i x H=>by simp at H⟩
 |x::j,ps,δ,hd,h=>by
  simp only [DS]at hd
  obtain ⟨p,rest,rfl,M,C⟩:=hd
  simp only [AK]at h
  obtain ⟨⟨u,J,N⟩,L⟩:=h
  obtain ⟨B,I⟩:=AK.TF C L
  refine ⟨by simp [B],fun i y q=>?_⟩
  cases i with
  |zero=>
   simp only [List.getElem?_cons_zero,oI]at q
   subst q
   obtain ⟨z,A⟩:=N.TF M
   exact ⟨u,J,A,z⟩
  |succ i=>
   obtain ⟨v,z,A⟩:=I i y (by simpa using q)
   exact ⟨v,by rw [<-z];congr 1;omega,A⟩
theorem AK.cs {c:Array Value} {j:List Aa} {ps:List PV} (hd:DS ρ j ps) (h:AK μ.AU c 0 ps) (hs:c.size=ps.length):Aw ρ μ j c.toList:=by
 obtain ⟨C,z⟩:=AK.TF hd h
 refine Aw.Kq (by rw [C,<-hs];rfl) fun i x A=>?_
 obtain ⟨v,q,B⟩:=z i x A
 exact ⟨v,by rw [Array.getElem?_toList];simpa using q,B⟩
theorem BH {x:Aa} {s:List Nat} {v:Value} (hs:DT ρ x=some s) (h:Ag ρ μ x v):∃b:ByteArray,v=.string b/\strOf b=s:=by
 cases x<;>simp only [DT,oI,reduceCtorEq]at hs
 case str=>subst hs;exact h.str
 case svar=>subst hs;exact h.svar
theorem EB (hΓ:Γ.AG ρ) {op:BinOp} {x y:ST} (h:C0 Γ op x y=true):Es op (x.den ρ) (y.den ρ)=true:=by
 unfold C0 at h
 split at h
 ·rename_i v q
  obtain ⟨j,_⟩:=CC hΓ q
  subst h
  exact j.symm
 ·cases h
theorem IN (hΓ:Γ.AG ρ) {x y:ST} (h:C0 Γ .geq x y=true):y.den ρ<=x.den ρ:=by simpa [Es]using EB hΓ h
theorem UK (hΓ:Γ.AG ρ) {x y:ST} (h:C0 Γ .gtr x y=true):y.den ρ<x.den ρ:=by simpa [Es]using EB hΓ h
theorem ME (hΓ:Γ.AG ρ) {x y:ST} (h:C0 Γ .lss x y=true):x.den ρ<y.den ρ:=by simpa [Es]using EB hΓ h
theorem ES (hΓ:Γ.AG ρ) {x y:ST} (h:C0 Γ .leq x y=true):x.den ρ<=y.den ρ:=by simpa [Es]using EB hΓ h
theorem UA {x:Aa} {n:Nat} (h:C5 x=some n):∃k,x=.int k (.lit (.ofNat n)):=by
 unfold C5 at h
 split at h
 ·rename_i k m
  simp only [oI]at h
  exact ⟨k,by rw [h]⟩
 ·cases h
theorem Cg {x:Aa} {n:Nat} {v:Value} (h:C5 x=some n) (j:Ag ρ μ x v):∃k,v=.int k (n:Int):=by
 obtain ⟨k,rfl⟩:=UA h
 exact ⟨k,j.int⟩
def Bj (P:Program) (ρ:Env) (μ:As) (a:Act) (o:Oper) (w:World) (v:Aa):Prop:=∃j,(execOp a.eval o).run P w=.ok (.value j) w/\Ag ρ μ v j
theorem Ed (P:Program) (w:World) (t:TypeId) {n:Option Nat} (h:DO P t=some n):
  (isAgg t).run P w=.ok n.isSome w/\(∀m,n=some m->(sizeOf t).run P w=.ok m w):=by
 unfold DO at h
 split at h
 ·rename_i fs i q v
  simp only [oI]at h
  subst h
  refine ⟨by simp [isAgg,run_underlying q],fun m j=>?_⟩
  simp only [oI]at j
  subst j
  simp [sizeOf,typeInfo,v]
 ·rename_i k e i q v
  simp only [oI]at h
  subst h
  refine ⟨by simp [isAgg,run_underlying q],fun m j=>?_⟩
  simp only [oI]at j
  subst j
  simp [sizeOf,typeInfo,v]
 ·rename_i d i x z q v
  simp only [oI]at h
  subst h
  refine ⟨?_,fun m j=>by cases j⟩
  cases d<;>first|(simp [isAgg,run_underlying q];done) |skip
  ·exact (z _ _ rfl).elim
  ·exact (x _ rfl).elim
 ·cases h
theorem Bn {t:TypeId} {n:Nat} (h:AW P t=some n):(sizeOf t).run P w=.ok n w:=by
 unfold AW at h
 cases e:P.info? t with
 |none=>rw [e]at h;cases h
 |some i=>
  rw [e]at h
  simp only [Option.map_some,oI]at h
  simp [sizeOf,typeInfo,e,h]
theorem Aw.extract {cs r:List Aa} {x:Array Value} {j n:Nat} (h:Aw ρ μ cs x.toList) (hc:cut cs j n=some r):Aw ρ μ r (x.extract j (j+n)).toList:=by
 obtain ⟨B,C,A⟩:=JP hc
 have hl:cs.length=x.size:=by simpa using h.length
 refine Aw.Kq ?_ fun i b hb=>?_
 ·rw [B,Array.length_toList,Array.size_extract]
  omega
 ·rw [A]at hb
  split at hb
  ·rename_i H
   obtain ⟨v,q,hs,z⟩:=h.get hb
   refine ⟨v,?_,hs,z⟩
   rw [Array.getElem?_toList,Array.getElem?_extract]
   rw [Array.getElem?_toList]at q
   rw [if_pos (by omega)]
   exact q
  ·cases hb
theorem Mx {t:TypeId} {n:Option Nat} {cs:List Aa} {x:Array Value} {j:Nat} {v:Aa} (I:DO P t=some n) (C:Aw ρ μ cs x.toList) (h:J0 cs j n=some v):
  ∃q,(part t x j).run P w=.ok q w/\Ag ρ μ v q:=by
 obtain ⟨B,H⟩:=Ed P w t I
 unfold J0 at h
 cases n with
 |none=>
  simp only at h
  rw [Ks]at h
  obtain ⟨q,A,_,z⟩:=C.get h
  rw [Array.getElem?_toList]at A
  exact ⟨q,by simp [part,B,A],z⟩
 |some n=>
  simp only at h
  obtain ⟨r,z,h⟩:=Ac h
  simp only [oI]at h
  subst h
  refine ⟨.agg (x.extract j (j+n)),by simp [part,B,H n rfl],?_⟩
  simp only [Ag]
  exact ⟨_,rfl,C.extract z⟩
theorem SX {o:Oper} {x:Operand} (j:o.op=.move x∨o.op=.assign x) (q:AT ρ μ tm a):Bj P ρ μ a o w (ev tm (AD x)):=
 ⟨a.eval x,by rcases j with j|j<;>simp [execOp,j],Au q x⟩
theorem US {o:Oper} {c x y:Operand} (q:o.op=.pick c x y) (j:AT ρ μ tm a) {v:Aa} (h:Abi (ev tm (AD c)) (ev tm (AD x)) (ev tm (AD y))=some v):Bj P ρ μ a o w v:=by
 have hc:=Au j c
 unfold Abi at h
 split at h
 ·rename_i b hb
  rw [hb]at hc
  have hc:=hc.bool
  simp only [oI]at h
  subst h
  refine ⟨if b then a.eval x else a.eval y,?_,?_⟩
  ·simp [execOp,q,hc,asBool,SB.den]
  ·cases b
   ·exact Au j y
   ·exact Au j x
 ·cases h
theorem UT {o:Oper} {x:Operand} (A:o.op=.nilCheck x) (C:AT ρ μ tm a) {v:Aa} (h:Abz (ev tm (AD x))=some v):Bj P ρ μ a o w v:=by
 have q:=Au C x
 unfold Abz at h
 split at h
 ·rename_i b B hb
  simp only [oI]at h
  rw [hb]at q
  subst h
  have z:=q
  obtain ⟨r,δ,_,_,e⟩:=q.ptr
  exact ⟨a.eval x,by simp [execOp,A,e],z⟩
 ·rename_i f y c hb
  simp only [oI]at h
  rw [hb]at q
  subst h
  have z:=q
  obtain ⟨_,_,e,_⟩:=q.func
  exact ⟨a.eval x,by simp [execOp,A,e],z⟩
 ·rename_i i j B hb
  simp only [oI]at h
  rw [hb]at q
  subst h
  have z:=q
  obtain ⟨r,δ,_,_,_,e,_⟩:=q.lptr
  exact ⟨a.eval x,by simp [execOp,A,e],z⟩
 ·rename_i b H j B hb
  simp only [oI]at h
  rw [hb]at q
  subst h
  have z:=q
  obtain ⟨r,m,_,e,_⟩:=q.vptr
  exact ⟨a.eval x,by simp [execOp,A,e],z⟩
 ·cases h
theorem SY {o:Oper} {t:TypeId} {x:Operand} (j:o.op=.makeInterface t x) (q:AT ρ μ tm a) (hc:P.concrete t=true):Bj P ρ μ a o w (.iface t (ev tm (AD x))):=
 ⟨.iface t (a.eval x),by simp [execOp,j,run_makeInterface,hc],by simp only [Ag];exact ⟨_,rfl,Au q x⟩⟩
theorem UZ {o:Oper} {f:FuncId} {x c:Array Operand} (q:o.op=.makeFunc (.func f) x c) (j:AT ρ μ tm a):Bj P ρ μ a o w (.func f (RR tm (BU x.toList)) (RR tm (BU c.toList))):=
 ⟨.func (.func f) (x.map a.eval) (c.map a.eval),by simp [execOp,q,Instr.makeFunc],by
  simp only [Ag]
  exact ⟨_,_,rfl,by simpa using FT j x.toList,by simpa using FT j c.toList⟩⟩
theorem Yc {o:Oper} {x:Operand} {i:Nat} (z:o.op=.extract x i) (C:AT ρ μ tm a) {v:Aa} (h:Ahx (ev tm (AD x)) i=some v):Bj P ρ μ a o w v:=by
 have q:=Au C x
 unfold Ahx at h
 split at h
 ·rename_i vs hb
  rw [hb]at q
  obtain ⟨y,e,A⟩:=q.tuple
  rw [Ks]at h
  obtain ⟨B,j,H⟩:=A.get h
  rw [Array.getElem?_toList]at j
  exact ⟨B,by simp [execOp,z,e,Instr.extract,j],H⟩
 ·cases h
theorem Addr.AY (r o n:Nat):(⟨r,o,none⟩:Addr).add n=⟨r,o+n,none⟩:=by
 unfold Addr.add
 by_cases h:n=0
 ·subst h;simp
 ·rw [if_neg h]
theorem Ra {o:Oper} {t:TypeId} {x:Operand} {f:Nat} (A:o.op=.fieldAddr t x f) (M:AT ρ μ tm a) {fs:Array Field} {g:Field} {n:Nat} (B:P.underlying t=some (.struct fs)) (hf:fs[f]?=some g)
  (C:AW P g.type=some (n+1)) {v:Aa} (h:Rp g.offset (ev tm (AD x))=some v):Bj P ρ μ a o w v:=by
 have z:=Au M x
 unfold Rp at h
 split at h
 ·rename_i b q hb
  simp only [oI]at h
  subst h
  rw [hb]at z
  obtain ⟨r,δ,m,H,e⟩:=z.ptr
  refine ⟨.pointer (some ⟨r,δ+(q+g.offset),none⟩),?_,?_⟩
  ·have hs:=Bn (w:=w) C
   simp [execOp,A,e,Instr.fieldAt,run_underlying B,hf,Instr.sureAddr,fieldPlace,hs,Addr.AY,Nat.add_assoc]
  ·simp only [Ag];exact ⟨r,δ,_,H,rfl⟩
 ·rename_i i j q hb
  simp only [oI]at h
  subst h
  rw [hb]at z
  obtain ⟨r,δ,c,t,ps,e,I,J⟩:=z.lptr
  refine ⟨.pointer (some ⟨r,δ+(q+g.offset),none⟩),?_,?_⟩
  ·have hs:=Bn (w:=w) C
   simp [execOp,A,e,Instr.fieldAt,run_underlying B,hf,Instr.sureAddr,fieldPlace,hs,Addr.AY,Nat.add_assoc]
  ·simp only [Ag];exact ⟨r,δ,c,t,ps,rfl,I,J⟩
 ·rename_i b L j q hb
  simp only [oI]at h
  subst h
  rw [hb]at z
  obtain ⟨r,m,H,e,I⟩:=z.vptr
  refine ⟨.pointer (some ⟨r,(j.den ρ).toNat*L+(q+g.offset),none⟩),?_,?_⟩
  ·have hs:=Bn (w:=w) C
   simp [execOp,A,e,Instr.fieldAt,run_underlying B,hf,Instr.sureAddr,fieldPlace,hs,Addr.AY,Nat.add_assoc]
  ·simp only [Ag];exact ⟨r,m,H,rfl,I⟩
 ·cases h
theorem SZ {o:Oper} {t:TypeId} {x:Operand} {f:Nat} (q:o.op=.field t x f) (I:AT ρ μ tm a) {fs:Array Field} {g:Field} {n:Option Nat} (C:P.underlying t=some (.struct fs)) (hf:fs[f]?=some g)
  (H:DO P g.type=some n) {v:Aa} (h:Vh g.offset n (ev tm (AD x))=some v):Bj P ρ μ a o w v:=by
 have j:=Au I x
 unfold Vh at h
 split at h
 ·rename_i cs hb
  rw [hb]at j
  obtain ⟨y,e,A⟩:=j.agg
  obtain ⟨z,J,B⟩:=Mx (w:=w) H A h
  exact ⟨z,by simp [execOp,q,e,Instr.field,run_underlying C,hf,asAgg,J],B⟩
 ·cases h
theorem UY (hΓ:Γ.AG ρ) {o:Oper} {t e:TypeId} {x i:Operand} (Q:o.op=.indexAddr t x i) (V:AT ρ μ tm a) {n:Nat} (R:P.underlying t=some (.slice e)) (U:AW P e=some n) {v:Aa}
  (h:AbK Γ n (ev tm (AD x)) (ev tm (AD i)) (C5 (ev tm (AD i)))=some v):Bj P ρ μ a o w v:=by
 have I:=Au V x
 have O:=Au V i
 have key:∀(b C len r δ m c:Nat),WH n b C len (C5 (ev tm (AD i)))=some v->μ b=some (r,δ,m)->a.eval x=.slice (some ⟨r,δ+C,none⟩) len c->Bj P ρ μ a o w v:=fun b C len r δ m c h B H=>by
  unfold WH at h
  obtain ⟨j,hj,h⟩:=Ac h
  obtain ⟨z,h⟩:=Aq h
  simp only [oI]at h
  subst h
  obtain ⟨k,M⟩:=Cg hj O
  have hs:=Bn (w:=w) U
  have z:=Ij.1 z
  refine ⟨.pointer (some ⟨r,δ+(C+j*n),none⟩),?_,?_⟩
  ·simp [execOp,Q,H,M,Instr.indexAt,asIntOf,run_underlying R,hs,z,Addr.AY,Nat.add_assoc]
  ·simp only [Ag];exact ⟨r,δ,_,B,rfl⟩
 unfold AbK at h
 split at h
 ·rename_i b Z len hb
  rw [hb]at I
  unfold Aet at h
  split at h
  ·rename_i k t N
   obtain ⟨hc,h⟩:=Aq h
   simp only [oI]at h
   subst h
   rw [aT,aT,Ao]at hc
   obtain ⟨rfl,A,J⟩:=hc
   have A:=IN hΓ A
   have J:=ME hΓ J
   rw [N]at O
   have M:=O.int
   obtain ⟨r,m,c,B,H,L,_,_⟩:=I.vec
   rw [L]at J
   have A:0<=t.den ρ:=A
   obtain ⟨q,hq⟩:∃q:Nat,t.den ρ=(q:Int):=⟨(t.den ρ).toNat,by omega⟩
   have z:q<c:=by omega
   have hs:=Bn (w:=w) U
   refine ⟨.pointer (some ⟨r,(t.den ρ).toNat*n+0,none⟩),?_,?_⟩
   ·rw [hq]at M⊢
    simp [execOp,Q,H,M,Instr.indexAt,asIntOf,run_underlying R,hs,z,Addr.AY,Nat.add_assoc]
   ·simp only [Ag]
    exact ⟨r,m,B,rfl,A⟩
  ·cases h
 ·rename_i f j Z len hb
  rw [hb]at I
  unfold Aeu at h
  split at h
  ·rename_i k t N
   obtain ⟨hc,h⟩:=Aq h
   simp only [oI]at h
   subst h
   rw [aT,aT,Ao]at hc
   obtain ⟨rfl,A,J⟩:=hc
   have A:=IN hΓ A
   have J:=ME hΓ J
   rw [N]at O
   have M:=O.int
   obtain ⟨p,c,H,hc,L,Y⟩:=I.D7
   rw [L]at J
   have A:0<=t.den ρ:=A
   obtain ⟨m,B⟩:∃m:Nat,t.den ρ=(m:Int):=⟨(t.den ρ).toNat,by omega⟩
   have z:m<(ρ.lst j).length:=by omega
   obtain ⟨r,δ,cs,ty,rfl,X,k2⟩:=Y (by omega)
   have hs:=Bn (w:=w) U
   obtain ⟨ps,hps⟩:∃ps,(ρ.lst j)[m]?=some ps:=⟨_,List.getElem?_eq_getElem z⟩
   refine ⟨.pointer (some ⟨r,δ+m*n,none⟩),?_,?_⟩
   ·rw [B]at M
    simp [execOp,Q,H,M,Instr.indexAt,asIntOf,run_underlying R,hs,z,Addr.AY,Nat.add_assoc]
   ·simp only [Ag]
    refine ⟨r,δ+m*n,cs,ty,ps,rfl,X,A,?_,(k2.get m ps hps).2⟩
    rw [B];exact hps
  ·cases h
 ·rename_i b C len cap hb
  rw [hb]at I
  obtain ⟨r,δ,m,B,H,_⟩:=I.slice
  exact key _ _ _ _ _ _ _ h B H
 ·rename_i b C len cap hb
  rw [hb]at I
  obtain ⟨r,δ,m,c,B,H,_⟩:=I.gslice
  exact key _ _ _ _ _ _ _ h B H
 ·cases h
theorem QZ {o:Oper} {t e:TypeId} {x i:Operand} {len:Nat} (C:o.op=.indexAddr t x i) (B:AT ρ μ tm a) {n:Nat} (H:P.underlying t=some (.array len e)) (J:AW P e=some n) {v:Aa}
  (h:QW len n (ev tm (AD x)) (C5 (ev tm (AD i)))=some v):Bj P ρ μ a o w v:=by
 have A:=Au B x
 have I:=Au B i
 unfold QW at h
 split at h
 ·rename_i b z hb
  obtain ⟨j,N,h⟩:=Ac h
  obtain ⟨q,h⟩:=Aq h
  simp only [oI]at h
  subst h
  rw [hb]at A
  obtain ⟨r,δ,m,L,M⟩:=A.ptr
  obtain ⟨k,O⟩:=Cg N I
  have hs:=Bn (w:=w) J
  have q:=Ij.1 q
  refine ⟨.pointer (some ⟨r,δ+(z+j*n),none⟩),?_,?_⟩
  ·simp [execOp,C,M,O,Instr.indexAt,asIntOf,run_underlying H,hs,q,Addr.AY,Nat.add_assoc,Instr.sureAddr]
  ·simp only [Ag];exact ⟨r,δ,_,L,rfl⟩
 ·cases h
theorem Yb {o:Oper} {t e:TypeId} {x i:Operand} {len:Nat} (C:o.op=.index t x i) (A:AT ρ μ tm a) {n:Nat} {B:Option Nat} (M:P.underlying t=some (.array len e)) (O:AW P e=some n) (ha:DO P e=some B) {v:Aa}
  (h:Ahq len n B (ev tm (AD x)) (C5 (ev tm (AD i)))=some v):Bj P ρ μ a o w v:=by
 have z:=Au A x
 have N:=Au A i
 unfold Ahq at h
 split at h
 ·rename_i cs hb
  obtain ⟨j,R,h⟩:=Ac h
  obtain ⟨q,h⟩:=Aq h
  rw [hb]at z
  obtain ⟨y,Q,I⟩:=z.agg
  obtain ⟨k,L⟩:=Cg R N
  have hs:=Bn (w:=w) O
  have q:=Ij.1 q
  obtain ⟨H,U,J⟩:=Mx (w:=w) ha I h
  refine ⟨H,?_,J⟩
  simp [execOp,C,Q,L,Instr.index,asIntOf,run_underlying M,hs,q,U]
 ·cases h
theorem UX {o:Oper} {t:TypeId} {x i:Operand} (H:o.op=.index t x i) (C:AT ρ μ tm a) (I:P.underlying t=some .string) {v:Aa}
  (h:AbJ (ev tm (AD x)) (C5 (ev tm (AD i)))=some v):Bj P ρ μ a o w v:=by
 have B:=Au C x
 have L:=Au C i
 unfold AbJ at h
 split at h
 ·rename_i s hb
  obtain ⟨j,N,h⟩:=Ac h
  obtain ⟨c,hc,h⟩:=Ac h
  simp only [oI]at h
  subst h
  rw [hb]at B
  obtain ⟨z,M,rfl⟩:=B.str
  obtain ⟨k,O⟩:=Cg N L
  rw [Fo]at hc
  unfold strOf at hc
  rw [List.getElem?_map]at hc
  obtain ⟨u,q,rfl⟩:=mS hc
  have A:j<z.size:=by
   have:=(List.getElem?_eq_some_iff.1 q).1
   simpa using this
  refine ⟨.int .u8 u.toNat,?_,by simp only [Ag,ST.den];rfl⟩
  have J:z[j]?=some u:=by
   rw [ByteArray.getElem?_lt' _ _ A]
   rw [Array.getElem?_toList]at q
   have:=(Array.getElem?_eq_some_iff.1 q).2
   rw [<-this];rfl
  simp [execOp,H,M,O,Instr.index,asIntOf,run_underlying I,J]
 ·cases h
theorem UU (hΓ:Γ.AG ρ) {o:Oper} {t:TypeId} {x:Operand} {c:Call} (H:o.op=.call c) (z:c.callee=.builtin .len) (j:c.args=#[x]) (q:c.argTypes=#[t]) (N:AT ρ μ tm a)
  (I:P.underlying t=some .string) {v:Aa} (h:AbC Γ (ev tm (AD x))=some v):Bj P ρ μ a o w v:=by
 have A:=Au N x
 unfold AbC at h
 split at h
 ·rename_i i hb
  obtain ⟨r,L,h⟩:=Ac h
  simp only [oI]at h
  subst h
  rw [hb]at A
  obtain ⟨B,C,O⟩:=A.svar
  refine ⟨.int .i64 B.size,?_,?_⟩
  ·simp [execOp,H,resolve,z,j,q,invoke,builtin,C,Builtin.len_,run_underlying I,goInt]
  ·have M:=Kv L
   have J:=(hΓ.BQ _ M).1
   simp only [Ag]
   rw [show (i,r).2.1=r.1 from rfl]at J
   rw [J,<-O,B8]
 ·rename_i s hb
  simp only [oI]at h
  subst h
  rw [hb]at A
  obtain ⟨B,C,rfl⟩:=A.str
  refine ⟨.int .i64 B.size,?_,?_⟩
  ·simp [execOp,H,resolve,z,j,q,invoke,builtin,C,Builtin.len_,run_underlying I,goInt]
  ·simp only [lit,Ag,ST.den];rw [Df,B8];rfl
 ·rename_i n hb
  simp only [oI]at h
  subst h
  rw [hb]at A
  obtain ⟨B,C,_⟩:=A.anyStr
  refine ⟨.int .i64 B.size,?_,trivial⟩
  simp [execOp,H,resolve,z,j,q,invoke,builtin,C,Builtin.len_,run_underlying I,goInt]
 ·cases h
theorem UW {o:Oper} {t e:TypeId} {x:Operand} {c:Call} (C:o.op=.call c) (z:c.callee=.builtin .len) (j:c.args=#[x]) (q:c.argTypes=#[t]) (O:AT ρ μ tm a)
  (H:P.underlying t=some (.slice e)) {v:Aa} (h:AbD (ev tm (AD x))=some v):Bj P ρ μ a o w v:=by
 have A:=Au O x
 unfold AbD at h
 split at h
 ·rename_i b J n cap hb
  simp only [oI]at h
  subst h
  rw [hb]at A
  obtain ⟨r,δ,m,_,B,_⟩:=A.slice
  refine ⟨.int .i64 n,?_,?_⟩
  ·simp [execOp,C,resolve,z,j,q,invoke,builtin,B,Builtin.len_,run_underlying H,goInt]
  ·simp only [lit,Ag,ST.den];rfl
 ·rename_i b J n cap hb
  simp only [oI]at h
  subst h
  rw [hb]at A
  obtain ⟨r,δ,m,L,_,B,_⟩:=A.gslice
  refine ⟨.int .i64 n,?_,?_⟩
  ·simp [execOp,C,resolve,z,j,q,invoke,builtin,B,Builtin.len_,run_underlying H,goInt]
  ·simp only [lit,Ag,ST.den];rfl
 ·rename_i hb
  simp only [oI]at h
  subst h
  rw [hb]at A
  have B:a.eval x=.slice none 0 0:=by simpa only [Ag]using A
  refine ⟨.int .i64 0,?_,?_⟩
  ·simp [execOp,C,resolve,z,j,q,invoke,builtin,B,Builtin.len_,run_underlying H,goInt]
  ·simp only [lit,Ag,ST.den];rfl
 ·rename_i b hb
  simp only [oI]at h
  subst h
  rw [hb]at A
  obtain ⟨r,m,N,B,_⟩:=A.gbytes
  refine ⟨.int .i64 (BE m:Nat),?_,?_⟩
  ·simp [execOp,C,resolve,z,j,q,invoke,builtin,B,Builtin.len_,run_underlying H,goInt]
  ·simp only [Ag];exact ⟨r,m,N,rfl⟩
 ·rename_i f i M n hb
  simp only [oI]at h
  subst h
  rw [hb]at A
  obtain ⟨p,L,B,_,I,_⟩:=A.D7
  refine ⟨.int .i64 (ρ.lst i).length,?_,?_⟩
  ·simp [execOp,C,resolve,z,j,q,invoke,builtin,B,Builtin.len_,run_underlying H,goInt]
  ·simp only [Ag];rw [I]
 ·rename_i b M n hb
  simp only [oI]at h
  subst h
  rw [hb]at A
  obtain ⟨r,m,k,_,B,I,_⟩:=A.vec
  refine ⟨.int .i64 k,?_,?_⟩
  ·simp [execOp,C,resolve,z,j,q,invoke,builtin,B,Builtin.len_,run_underlying H,goInt]
  ·simp only [Ag];rw [I]
 ·cases h
theorem NO (ts:Array TypeId) (t:TypeId) (l c:Nat):Builtin.unsafeSliceData_ ts t #[.slice none l c]=pure (.pointer none):=rfl
theorem Mc (ts:Array TypeId) (t:TypeId) (p:Addr) (l c:Nat) (hc:c≠0):Builtin.unsafeSliceData_ ts t #[.slice (some p) l c]=pure (.pointer (some p)):=by
 have:Builtin.unsafeSliceData_ ts t #[.slice (some p) l c]=(if c≠0 then pure (.pointer (some p))else (viewAt p.block>>=fun v=>if v.isSome then pure (.pointer (some p))else (elemOf t>>=fun e=>newObj (.view p e)>>=fun n=>pure (.pointer (some ⟨n,0,none⟩))))):=rfl
 rw [this,if_pos hc]
theorem SV {o:Oper} {x:Operand} {c:Call} (B:o.op=.call c) (q:c.callee=.builtin .unsafeSliceData) (j:c.args=#[x]) (H:AT ρ μ tm a)
  {v:Aa} (h:Uu (ev tm (AD x))=some v):Bj P ρ μ a o w v:=by
 have z:=Au H x
 unfold Uu at h
 split at h
 ·rename_i hb
  simp only [oI]at h
  subst h
  rw [hb]at z
  have A:a.eval x=.slice none 0 0:=by simpa only [Ag]using z
  refine ⟨.pointer none,?_,by simp only [Ag]⟩
  simp [execOp,B,resolve,q,j,invoke,builtin,A,NO]
 ·rename_i b hb
  simp only [oI]at h
  subst h
  rw [hb]at z
  obtain ⟨r,m,C,A,J,I⟩:=z.gbytes
  refine ⟨.pointer (some ⟨r,0,none⟩),?_,by simp only [Ag];exact ⟨r,0,m,C,rfl⟩⟩
  have hc:¬BL m=0:=by omega
  simp [execOp,B,resolve,q,j,invoke,builtin,A,Mc _ _ _ _ _ hc]
 ·cases h
end
end
section
section
variable {P:Program} {Γ:Ap} {ρ:Env} {μ:As} {tm:Tr Aa} {a:Act} {w:World}
theorem Hy (j:Nat):∀(l:List Value) (k:Nat) (cells:Array Value),j+k+l.length<=cells.size->
  ((l.zipIdx k).foldl (fun (cs:Array Value) (x:Value×Nat)=>cs.setIfInBounds (j+x.2) x.1) cells).size=cells.size/\
  ∀i,((l.zipIdx k).foldl (fun (cs:Array Value) (x:Value×Nat)=>cs.setIfInBounds (j+x.2) x.1) cells)[i]?=if j+k<=i/\i<j+k+l.length then l[i-(j+k)]? else cells[i]?
 |[],k,cells,h=>⟨rfl,fun i=>by rw [if_neg (by simp only [lN];omega)];rfl⟩
 |v::l,k,cells,h=>by
  simp only [lC]at h
  rw [List.zipIdx_cons,List.foldl_cons]
  obtain ⟨z,q⟩:=Hy j l (k+1) (cells.setIfInBounds (j+k) v) (by simp;omega)
  refine ⟨by rw [z];simp,fun i=>?_⟩
  rw [q i]
  simp only [lC]
  by_cases hi:j+k=i
  ·subst hi
   rw [if_neg (by omega),if_pos (by omega),Array.getElem?_setIfInBounds_self_of_lt (by omega)]
   simp
  ·by_cases hj:j+(k+1)<=i/\i<j+(k+1)+l.length
   ·rw [if_pos hj,if_pos (by omega)]
    have:i-(j+k)=(i-(j+(k+1)))+1:=by omega
    rw [this,List.getElem?_cons_succ]
   ·rw [if_neg hj,if_neg (by omega),Array.getElem?_setIfInBounds_ne hi]
theorem Yd (j:Nat) (v cells:Array Value) (h:j+v.size<=cells.size):
  (v.zipIdx.foldl (fun (cs:Array Value) (x:Value×Nat)=>cs.setIfInBounds (j+x.2) x.1) cells).size=cells.size/\
  ∀i,(v.zipIdx.foldl (fun (cs:Array Value) (x:Value×Nat)=>cs.setIfInBounds (j+x.2) x.1) cells)[i]?=if j<=i/\i<j+v.size then v[i-j]? else cells[i]?:=by
 have:=Hy j v.toList 0 cells (by simpa using h)
 rw [<-Array.foldl_toList,Array.toList_zipIdx]
 simpa using this
theorem Aw.spliced {vs cs r:List Aa} {x y:Array Value} {j:Nat} (v:Aw ρ μ cs x.toList) (q:Aw ρ μ vs y.toList) (h:splice vs j cs=some r):
  j+y.size<=x.size/\∀z:Array Value,z.size=x.size->(∀i,z[i]?=if j<=i/\i<j+y.size then y[i-j]? else x[i]?)->Aw ρ μ r z.toList:=by
 obtain ⟨C,L,I⟩:=Hh h
 have B:cs.length=x.size:=by simpa using v.length
 have J:vs.length=y.size:=by simpa using q.length
 refine ⟨by omega,fun z H A=>Aw.Kq (by rw [C,B,<-H];simp) fun i b hb=>?_⟩
 rw [I i]at hb
 rw [Array.getElem?_toList,A i]
 rw [J]at hb
 split at hb
 ·rename_i hc
  rw [if_pos hc]
  simpa using q.get hb
 ·rename_i hc
  rw [if_neg hc]
  simpa using v.get hb
theorem Oe {cs r:List Aa} {x:Array Value} {v:Aa} {u:Value} {j size:Nat} (I:Aw ρ μ cs x.toList) (B:Ag ρ μ v u) (h:Fw cs v j size=some r):
  u.cells.size=size/\j+u.cells.size<=x.size/\∀z:Array Value,z.size=x.size->(∀i,z[i]?=if j<=i/\i<j+u.cells.size then u.cells[i-j]? else x[i]?)->Aw ρ μ r z.toList:=by
 unfold Fw at h
 obtain ⟨vs,q,h⟩:=Ac h
 obtain ⟨hl,h⟩:=Aq h
 have A:=B.cells q
 obtain ⟨C,H⟩:=I.spliced A h
 refine ⟨?_,C,H⟩
 have:=Ao.1 hl
 rw [J5]at this
 rw [<-this]
 simpa using A.length.symm
theorem Gn (B:AT ρ μ tm a):∀{parts:List (Nat×Operand)} {ps:List (Nat×Nat×Ct)} {j place':Nat->Option (Nat×Nat)} {cs r:List Aa} {x:Array Value},
  partsOf j parts=some ps->(∀i y,j i=some y->place' i=some y)->Aw ρ μ cs x.toList->H8 tm ps cs=some r->
  ∃z:Array Value,Instr.fill place' x (parts.map fun p=>(p.1,a.eval p.2))=some z/\Aw ρ μ r z.toList
 |[],ps,j,place',cs,r,x,hp,hpl,hx,h=>by
  simp only [partsOf,oI]at hp
  subst hp
  have h:some cs=some r:=h
  simp only [oI]at h
  subst h
  exact ⟨x,rfl,hx⟩
 |(i,y)::parts,ps,j,place',cs,r,x,hp,hpl,hx,h=>by
  simp only [partsOf]at hp
  split at hp
  ·rename_i q size A M C
   simp only [oI]at hp
   subst hp
   have h:(AA (Fw cs (ev tm (AD y)) q size) (H8 tm A))=some r:=h
   obtain ⟨P,hc,h⟩:=Ac h
   obtain ⟨Q,N,J⟩:=Oe hx (Au B y) hc
   obtain ⟨L,I⟩:=Yd q (a.eval y).cells x N
   have v:=J _ L I
   obtain ⟨z,O,H⟩:=Gn B C hpl v h
   refine ⟨z,?_,H⟩
   simp only [List.map_cons,Instr.fill,hpl i _ M]
   rw [if_neg (by simp;omega)]
   exact O
  ·cases hp
theorem Ef {t:TypeId} {cs:List Aa} (h:GR P t=some cs):∃v,(zeroValue t).run P w=.ok v w/\Aw ρ μ cs v.cells.toList:=by
 unfold GR at h
 cases e:P.info? t with
 |none=>rw [e]at h;cases h
 |some i=>
  rw [e]at h
  simp only at h
  obtain ⟨v,j,h⟩:=Option.bind_eq_some_iff.1 h
  obtain ⟨q,hc,h⟩:=Option.bind_eq_some_iff.1 h
  split at h
  ·simp only [oI]at h
   subst h
   exact ⟨v,by simp [zeroValue,typeInfo,e,j],(Db v).cells hc⟩
  ·cases h
theorem GD:∀(fs:List Field),fs.all (fun f=>(P.info? f.type).isSome)=true->
  (fs.mapM fun f=>Functor.map (Prod.mk f.offset) (sizeOf f.type)).run P w=.ok (fs.map fun f=>(f.offset,P.cellsOf f.type)) w
 |[],_=>by simp
 |f::fs,h=>by
  simp only [List.all_cons,aT]at h
  obtain ⟨i,j⟩:=Option.isSome_iff_exists.1 h.1
  have hs:(sizeOf f.type).run P w=.ok i.size w:=by simp [sizeOf,typeInfo,j]
  simp [List.mapM_cons,GD fs h.2,hs,Program.cellsOf,j]
theorem IP {o:Oper} {t:TypeId} {parts:Array (Nat×Operand)} (N:o.op=.build t parts) (I:AT ρ μ tm a) {fs:Array Field} {z:List Aa} {ps:List (Nat×Nat×Ct)}
  (Q:P.underlying t=some (.struct fs)) (L:GR P t=some z) (A:fs.all (fun f=>(P.info? f.type).isSome)=true)
  (M:partsOf (fun i=>(fs[i]?).bind fun f=>(AW P f.type).map fun n=>(f.offset,n)) parts.toList=some ps) {v:Aa} (h:Nw (H8 tm ps z)=some v):Bj P ρ μ a o w v:=by
 obtain ⟨U,J,H⟩:=Ef (w:=w) (ρ:=ρ) (μ:=μ) L
 unfold Nw at h
 obtain ⟨r,O,h⟩:=Ac h
 simp only [oI]at h
 subst h
 have B:∀i y,((fs[i]?).bind fun (f:Field)=>(AW P f.type).map fun n=>(f.offset,n))=some y->(fs.map fun f=>(f.offset,P.cellsOf f.type))[i]?=some y:=fun i y e=>by
  obtain ⟨f,hf,e⟩:=Option.bind_eq_some_iff.1 e
  obtain ⟨n,C,e⟩:=mS e
  rw [Array.getElem?_map,hf,<-e]
  unfold AW at C
  simp [Program.cellsOf,C]
 obtain ⟨x,R,hc⟩:=Gn I M B H O
 refine ⟨.agg x,?_,by simp only [Ag];exact ⟨x,rfl,hc⟩⟩
 have j:fs.toList.all (fun f=>(P.info? f.type).isSome)=true:=by rw [<-A];simp
 have V:=GD (w:=w) fs.toList j
 have X:(parts.map fun x=>(x.1,a.eval x.2)).toList=parts.toList.map fun p=>(p.1,a.eval p.2):=by simp
 have q:Instr.fill (fun i=>(fs.map fun f=>(f.offset,P.cellsOf f.type))[i]?) U.cells ((parts.map fun x=>(x.1,a.eval x.2)).toList)=some x:=by rw [X];exact R
 simp [execOp,N,Instr.build,J,run_underlying Q,Array.mapM_eq_mapM_toList,V]
 simp at q
 rw [q]
 simp
theorem JA {o:Oper} {t e:TypeId} {len n:Nat} {parts:Array (Nat×Operand)} (I:o.op=.build t parts) (A:AT ρ μ tm a) {z:List Aa} {ps:List (Nat×Nat×Ct)}
  (L:P.underlying t=some (.array len e)) (C:GR P t=some z) (N:AW P e=some n)
  (H:partsOf (fun i=>some (i*n,n)) parts.toList=some ps) {v:Aa} (h:Nw (H8 tm ps z)=some v):Bj P ρ μ a o w v:=by
 obtain ⟨O,B,q⟩:=Ef (w:=w) (ρ:=ρ) (μ:=μ) C
 unfold Nw at h
 obtain ⟨r,J,h⟩:=Ac h
 simp only [oI]at h
 subst h
 obtain ⟨x,M,hc⟩:=Gn (place':=fun i=>some (i*n,n)) A H (fun i y e=>e) q J
 refine ⟨.agg x,?_,by simp only [Ag];exact ⟨x,rfl,hc⟩⟩
 have Q:(parts.map fun x=>(x.1,a.eval x.2)).toList=parts.toList.map fun p=>(p.1,a.eval p.2):=by simp
 have j:Instr.fill (fun i=>some (i*n,n)) O.cells ((parts.map fun x=>(x.1,a.eval x.2)).toList)=some x:=by rw [Q];exact M
 have hs:=Bn (w:=w) N
 simp [execOp,I,Instr.build,B,run_underlying L,hs]
 simp at j
 rw [j]
 simp
theorem Jk (b c:ByteArray):strOf (b++c)=strOf b++strOf c:=by simp [strOf,ByteArray.data_append]
theorem ZR {x:Aa} {b:ByteArray} (h:DT ρ x=some (strOf b)):Ag ρ μ x (.string b):=by
 cases x<;>simp only [DT,oI,reduceCtorEq]at h
 case str=>simp only [Ag];exact ⟨b,rfl,h.symm⟩
 case svar=>simp only [Ag];exact ⟨b,rfl,h.symm⟩
theorem Ja {o:Oper} {op:BinOp} {t N:TypeId} {x y:Operand} (H:o.op=.binOp op t x y N) (hΓ:Γ.AG ρ) {X Y:Aa} (J:Ag ρ μ X (a.eval x)) (I:Ag ρ μ Y (a.eval y)) {v:Aa} (h:Acv Γ op X Y=some v):Bj P ρ μ a o w v:=by
 unfold Acv at h
 split at h
 ·obtain ⟨b,hb,h⟩:=Ac h
  simp only [oI]at h
  subst h
  obtain ⟨s,u,B,z,j⟩:=hΓ.strs _ (FO hb)
  obtain ⟨q,A,rfl⟩:=BH B J
  obtain ⟨b2,C,rfl⟩:=BH z I
  have j:b=decide (strOf q=strOf b2):=j
  refine ⟨.bool (q.toList==b2.toList),?_,?_⟩
  ·simp only [execOp,H,A,C,eqGuard_at_string,binOp,Op.stringOp,Sem.run_bind,Sem.run_pure,Result.andThen_ok]
  ·simp only [Ag,SB.den]
   rw [<-CB,j]
   congr 1
   rw [Bool.eq_iff_iff,Dt];simp
 ·obtain ⟨b,hb,h⟩:=Ac h
  simp only [oI]at h
  subst h
  obtain ⟨s,u,B,z,j⟩:=hΓ.strs _ (FO hb)
  obtain ⟨q,A,rfl⟩:=BH B J
  obtain ⟨b2,C,rfl⟩:=BH z I
  have j:b=decide (strOf q=strOf b2):=j
  refine ⟨.bool (!(q.toList==b2.toList)),?_,?_⟩
  ·simp only [execOp,H,A,C,eqGuard_at_string,binOp,Op.stringOp,Sem.run_bind,Sem.run_pure,Result.andThen_ok]
  ·simp only [Ag,SB.den]
   rw [<-CB,j]
   congr 2
   rw [Bool.eq_iff_iff,Dt];simp
 ·obtain ⟨s,u,B,z,j,M⟩:=hΓ.E3 _ (OU h)
  obtain ⟨q,A,rfl⟩:=BH B J
  obtain ⟨b2,C,rfl⟩:=BH z I
  refine ⟨.string (q++b2),?_,ZR (by rw [Jk];exact j)⟩
  rw [B8,B8]at M
  have L:¬(((q.size+b2.size:Nat):Int)>IntKind.i64.max):=by
   have:IntKind.i64.max=9223372036854775807:=by decide
   rw [this];omega
  simp only [execOp,H,A,C,eqGuard_at_string,binOp,Op.stringOp,Sem.run_bind,Sem.run_pure,Result.andThen_ok]
  rw [if_neg L]
  rfl
 ·cases h
theorem Pd {o:Oper} {op:BinOp} {t Q:TypeId} {x y:Operand} (A:o.op=.binOp op t x y Q) (hΓ:Γ.AG ρ) (N:AT ρ μ tm a) {v:Aa} (h:AhF Γ op (ev tm (AD x)) (ev tm (AD y))=some v):Bj P ρ μ a o w v:=by
 have z:=Au N x
 have j:=Au N y
 unfold AhF at h
 split at h
 ·rename_i k m L n hb hc
  rw [hb]at z
  rw [hc]at j
  have C:=z.int
  have B:=j.int
  unfold Amh at h
  cases hs:DK op with
  |true=>
   rw [hs]at h
   simp only [cond_true]at h
   unfold AaA at h
   split at h
   ·rename_i p q
    obtain ⟨r,U,h⟩:=Ac h
    simp only [oI]at h
    subst h
    refine ⟨.int k r,?_,by simp only [Ag,ST.den]⟩
    have J:=Jq (yk:=L) U
    cases op<;>simp only [DK,Bool.false_eq_true]at hs<;>simp [execOp,A,C,B,ST.den,eqGuard_at_int,binOp,J]
   ·unfold Aa9 at h
    obtain ⟨M,h⟩:=Aq h
    simp only [oI]at h
    subst h
    refine ⟨.int k (Ai op k (m.den ρ) (n.den ρ)),?_,by simp only [Ag];rw [Kr hΓ];rfl⟩
    have J:=Su (k:=k) (yk:=L) (x:=m.den ρ) hs (NS hΓ M)
    cases op<;>simp only [DK,Bool.false_eq_true]at hs<;>simp [execOp,A,C,B,eqGuard_at_int,binOp,J]
  |false=>
   rw [hs]at h
   simp only [cond_false]at h
   cases hk:UM k L with
   |false=>rw [hk]at h;simp at h
   |true=>
    have O:=Di.1 hk
    subst O
    rw [hk]at h
    simp only [Bool.not_true,cond_false]at h
    cases hcm:Ft op with
    |true=>
     rw [hcm]at h
     simp only [cond_true]at h
     obtain ⟨s,H,h⟩:=Ac h
     simp only [oI]at h
     subst h
     have hd:=(CC hΓ H).1
     refine ⟨.bool (Es op (m.den ρ) (n.den ρ)),?_,by simp only [Ag];rw [hd]⟩
     simp [execOp,A,C,B,eqGuard_at_int,Yu hcm]
    |false=>
     rw [hcm]at h
     simp only [cond_false]at h
     obtain ⟨s,H,h⟩:=Ac h
     simp only [oI]at h
     subst h
     obtain ⟨hd,R,_,_⟩:=HN hΓ H
     refine ⟨.int k (Ai op k (m.den ρ) (n.den ρ)),?_,by simp only [Ag];rw [hd]⟩
     simp [execOp,A,C,B,eqGuard_at_int,Tz R hcm hs]
 ·rename_i s V hb hc
  rw [hb]at z
  rw [hc]at j
  obtain ⟨b,C,rfl⟩:=z.str
  obtain ⟨c,B,rfl⟩:=j.str
  cases op
  case add=>
   simp only [TK]at h
   obtain ⟨I,h⟩:=Aq h
   have I:=AL.1 I
   simp only [oI]at h
   subst h
   refine ⟨.string (b++c),?_,by simp only [Ag];exact ⟨_,rfl,Jk _ _⟩⟩
   rw [Df,Df,B8,B8]at I
   have M:¬(((b.size+c.size:Nat):Int)>IntKind.i64.max):=by
    have:IntKind.i64.max=9223372036854775807:=by decide
    rw [this];omega
   simp only [execOp,A,C,B,eqGuard_at_string,binOp,Op.stringOp,Sem.run_bind,Sem.run_pure,Result.andThen_ok]
   rw [if_neg M]
   rfl
  all_goals
   simp only [TK,oI,reduceCtorEq]at h<;>subst h<;>
   refine ⟨_,by simp only [execOp,A,C,B,eqGuard_at_string,binOp,Op.stringOp,Sem.run_bind,Sem.run_pure,Result.andThen_ok];rfl,by simp only [Ag,SB.den,CB,ZS]⟩
 ·rename_i hb hc
  rw [hb]at z
  rw [hc]at j
  exact Ja A hΓ z j h
 ·rename_i hb hc
  rw [hb]at z
  rw [hc]at j
  exact Ja A hΓ z j h
 ·rename_i hb hc
  rw [hb]at z
  rw [hc]at j
  exact Ja A hΓ z j h
 ·cases h
theorem AbN {o:Oper} {op:UnOp} {t:TypeId} {x:Operand} (q:o.op=.unOp op t x) (hΓ:Γ.AG ρ) (A:AT ρ μ tm a) {v:Aa} (h:unA Γ op (ev tm (AD x))=some v):Bj P ρ μ a o w v:=by
 have j:=Au A x
 unfold unA at h
 split at h
 ·rename_i k n hb
  rw [hb]at j
  have e:=j.int
  obtain ⟨s,hs,h⟩:=Ac h
  simp only [oI]at h
  subst h
  obtain ⟨hd,_⟩:=HN hΓ hs
  refine ⟨.int k (s.den ρ),?_,by simp only [Ag]⟩
  rw [hd]
  simp [execOp,q,e,unary_neg,Op.intArith,Ai,ST.den]
 ·rename_i k n hb
  rw [hb]at j
  have e:=j.int
  obtain ⟨s,hs,h⟩:=Ac h
  simp only [oI]at h
  subst h
  obtain ⟨hd,_⟩:=HN hΓ hs
  refine ⟨.int k (s.den ρ),?_,by simp only [Ag]⟩
  rw [hd]
  have z:((.lit (bif HX k then Int.negSucc 0 else Int.ofNat (modulus k-1)):ST).den ρ)=if k.signed then -1 else k.max:=by
   cases k<;>rfl
  rw [z]
  simp [execOp,q,e,unary_xor,intBits_xor,Ai]
 ·rename_i b hb
  rw [hb]at j
  have e:=j.bool
  simp only [oI]at h
  subst h
  exact ⟨.bool (!b),by simp [execOp,q,e,unary_not,SB.den],by simp only [Ag,SB.den]⟩
 ·rename_i b _ hb
  rw [hb]at j
  have e:=j.bool
  simp only [oI]at h
  subst h
  exact ⟨.bool (!(b.den ρ)),by simp [execOp,q,e,unary_not],by simp only [Ag,SB.den]⟩
 ·cases h
theorem Va {o:Oper} {s d:TypeId} {z k:IntKind} {x:Operand} (q:o.op=.convert s d x) (hΓ:Γ.AG ρ) (A:AT ρ μ tm a) (hs:P.underlying s=some (.int z)) (hd:P.underlying d=some (.int k))
  {v:Aa} (h:Ack Γ k (ev tm (AD x))=some v):Bj P ρ μ a o w v:=by
 have j:=Au A x
 unfold Ack at h
 split at h
 ·rename_i B n hb
  rw [hb]at j
  have e:=j.int
  simp only [oI]at h
  subst h
  refine ⟨.int k (k.wrap (n.den ρ)),?_,by simp only [Ag];rw [On hΓ]⟩
  simp [execOp,q,e,Go.convert,run_underlying hs,run_underlying hd,Conv.intToInt]
 ·cases h
theorem UR {o:Oper} {s d:TypeId} {x:Operand} (z:o.op=.convert s d x) (A:AT ρ μ tm a) (hs:P.underlying s=some .string) (hd:P.underlying d=some .string)
  {v:Aa} (h:AaK (ev tm (AD x))=some v):Bj P ρ μ a o w v:=by
 have j:=Au A x
 unfold AaK at h
 split at h
 ·rename_i c hb
  rw [hb]at j
  simp only [oI]at h
  subst h
  have q:=j
  obtain ⟨b,e,_⟩:=j.str
  refine ⟨a.eval x,?_,q⟩
  simp [execOp,z,e,Go.convert,run_underlying hs,run_underlying hd]
 ·cases h
theorem N1 {Γ:Ap} (hΓ:Γ.AG ρ) (most:Bool):∀{I:List Aa} {x v:Aa} {us:List Value} {u:Value},Ag ρ μ x u->A6 ρ μ I us->AdV Γ most I x=some v->
  ∃A,(us.foldlM (if most then Builtin.max2 else Builtin.min2) u).run P w=.ok A w/\Ag ρ μ v A
 |[],x,v,us,u,hu,hs,h=>by
  simp only [A6]at hs
  subst hs
  have h:some x=some v:=h
  simp only [oI]at h
  subst h
  exact ⟨u,by simp,hu⟩
 |y::ys,x,v,us,u,hu,hs,h=>by
  simp only [A6]at hs
  obtain ⟨Z,rest,rfl,M,O⟩:=hs
  have J:AA (V8 Γ most x y) (AdV Γ most ys)=some v:=h
  clear h
  obtain ⟨z,q,B⟩:=Ac J
  clear J
  unfold V8 at q
  split at q
  ·rename_i k m Y n
   obtain ⟨Q,j⟩:=Aq q
   have U:=Di.1 Q
   subst U
   split at j
   case h_2=>cases j
   rename_i c C
   simp only [oI]at j
   have q:=j
   have R:=hu.int
   have X:=M.int
   subst R X
   have L:c=(bif most then decide (m.den ρ<n.den ρ)else decide (n.den ρ<m.den ρ)):=by
    cases most with
    |true=>exact (CC hΓ C).1
    |false=>exact (CC hΓ C).1
   have H:Ag ρ μ z (.int k (bif c then n.den ρ else m.den ρ)):=by rw [<-q];cases c<;>simp only [Ag,cond_true,cond_false]
   obtain ⟨A,V,N⟩:=N1 hΓ most H O B
   subst L
   generalize m.den ρ=m at*
   generalize n.den ρ=n at*
   refine ⟨A,?_,N⟩
   rw [<-V,List.foldlM_cons]
   cases most
   ·simp only [Bool.false_eq_true,if_false,cond_false,Sem.run_bind]
    simp only [Builtin.min2,Sem.run_pure,Result.andThen_ok]
    congr 2
    by_cases hc:n<m<;>simp [hc]
   ·simp only [if_true,cond_true,Sem.run_bind]
    simp only [Builtin.max2,Sem.run_pure,Result.andThen_ok]
    congr 2
    by_cases hc:m<n<;>simp [hc]
  ·cases q
theorem Pf {Γ:Ap} (hΓ:Γ.AG ρ) {o:Oper} {q:List Operand} {c:Call} {most:Bool} (C:o.op=.call c) (j:c.callee=.builtin (if most then .max else .min)) (z:c.args.toList=q) (H:AT ρ μ tm a)
  {v:Aa} (h:Ami Γ most (RR tm (BU q))=some v):Bj P ρ μ a o w v:=by
 cases q with
 |nil=>have h:none=some v:=h;cases h
 |cons x q=>
  have h:AdV Γ most (RR tm (BU q)) (ev tm (AD x))=some v:=h
  obtain ⟨B,A,I⟩:=N1 (P:=P) (w:=w) hΓ most (Au H x) (FT H q) h
  refine ⟨B,?_,I⟩
  cases most
  ·have j:c.callee=.builtin .min:=j
   have A:Sem.run P (List.foldlM Builtin.min2 (a.eval x) (List.map a.eval q)) w=.ok B w:=A
   simp [execOp,C,resolve,j,invoke,builtin,Builtin.min_,z,A]
  ·have j:c.callee=.builtin .max:=j
   have A:Sem.run P (List.foldlM Builtin.max2 (a.eval x) (List.map a.eval q)) w=.ok B w:=A
   simp [execOp,C,resolve,j,invoke,builtin,Builtin.max_,z,A]
end
end
section
section
variable {P:Program} {Γ:Ap} {ρ:Env} {μ:As} {tm:Tr Aa} {a:Act} {w:World}
theorem OW {o:Option SB} {v:Bool} (h:Ahl o=some v):o=some (.lit v):=by
 unfold Ahl at h
 split at h
 ·simp only [oI]at h;rw [h]
 ·cases h
def LK.fits (k:LK) (d:TypeDesc):Prop:=
 match k with
 |.bool=>d=.bool
 |.int=>∃i,d=.int i
 |.str=>d=.string
theorem Rz (hΓ:Γ.AG ρ) {k:LK} {x y:Aa} {u v:Value} {b:Bool} (B:Ag ρ μ x u) (z:Ag ρ μ y v) (h:IV Γ k x y=some b) {t:TypeId} {d:TypeDesc} (A:P.underlying t=some d) (j:k.fits d) (n:Nat):
  (Op.equalIn (n+1) t u v).run P w=.ok b w:=by
 unfold IV at h
 split at h
 ·rename_i L m X V
  obtain ⟨i,rfl⟩:=j
  obtain ⟨J,C⟩:=Aq h
  clear h
  have N:=Di.1 J
  subst N
  have hc:=(CC hΓ (OW C)).1
  rw [B.int,z.int,run_equalIn_int w n t L i _ _ A]
  simp only [SB.den,Es]at hc
  rw [hc]
 ·rename_i p q
  have j:d=.bool:=j
  subst j
  simp only [oI]at h
  rw [B.bool,z.bool]
  simp only [SB.den]
  rw [run_equalIn_bool' w n t p q A,<-h,beq_eq]
 ·rename_i p q
  have j:d=.string:=j
  subst j
  simp only [oI]at h
  obtain ⟨s,rfl,R⟩:=B.str
  obtain ⟨M,rfl,Q⟩:=z.str
  rw [run_equalIn_string w n t s M A,<-h,<-R,<-Q,CB]
 all_goals first
  |(cases h;done)
  |(have j:d=.string:=j
    subst j
    obtain ⟨s,U,O,C,H⟩:=hΓ.strs _ (FO h)
    obtain ⟨I,rfl,rfl⟩:=BH O B
    obtain ⟨b2,rfl,rfl⟩:=BH C z
    have H:b=decide (strOf I=strOf b2):=H
    rw [run_equalIn_string w n t I b2 A,<-CB,H]
    congr 1
    rw [Bool.eq_iff_iff,Dt];simp)
theorem E2 (cs ds:List Aa):∀(j q:List (Nat×LK)),CZ Γ cs ds (j++q)=AA (CZ Γ cs ds j) fun e=>bif e then CZ Γ cs ds q else some false
 |[],q=>rfl
 |o::j,q=>by
  show (AA (Tm Γ cs ds o) fun e=>bif e then CZ Γ cs ds (j++q)else some false)=AA (AA (Tm Γ cs ds o) fun e=>bif e then CZ Γ cs ds j else some false) _
  cases Tm Γ cs ds o with
  |none=>rfl
  |some e=>
   cases e with
   |false=>rfl
   |true=>exact E2 cs ds j q
theorem Hl (k:Nat) (x y:List (Nat×LK)):Cr k (x++y)=Cr k x++Cr k y:=by simp [Cr]
theorem GC (k j:Nat) (x:List (Nat×LK)):Cr k (Cr j x)=Cr (k+j) x:=by
 unfold Cr;rw [List.map_map];apply List.map_congr_left;intro x _;simp [Nat.add_assoc]
theorem N2 {n:Nat} {l:List (Nat×LK)} (h:below n l=true):∀x∈l,x.1<n:=fun x j=>by
 unfold below at h
 have:=List.all_eq_true.1 h x j
 exact Ij.1 this
structure Yv (X:Array Value) (base n:Nat) (Z:Array Value):Prop where
 cell:∀off,off<n->Z[off]?=X[base+off]?
 part:∀off m,off+m<=n->Z.extract off (off+m)=X.extract (base+off) (base+off+m)
theorem Yv.whole (X:Array Value) (n:Nat):Yv X 0 n X:=⟨fun j _=>by simp,fun j m _=>by simp⟩
theorem Yv.sub {X Z:Array Value} {q n:Nat} (h:Yv X q n Z) {j m:Nat} (z:j+m<=n):Yv X (q+j) m (Z.extract j (j+m)) where
 cell:=fun i x=>by
  rw [Array.getElem?_extract]
  by_cases hz:i<min (j+m) Z.size-j
  ·rw [if_pos hz,h.cell _ (by omega),Nat.add_assoc]
  ·rw [if_neg hz]
   have v:¬j+i<Z.size:=by omega
   have e:=h.cell (j+i) (by omega)
   rw [Array.getElem?_eq_none (by omega)]at e
   rw [Nat.add_assoc]
   exact e
 part:=fun i k A=>by
  rw [Array.extract_extract,show min (j+(i+k)) (j+m)=(j+i)+k by omega,h.part _ _ (by omega)]
  congr 1<;>omega
theorem UJ {d:Nat} {t:TypeId} {l:List (Nat×LK)} (h:leaves P d t=some l) (j:DO P t=some none):∃v,l=[(0,v)]:=by
 cases d with
 |zero=>simp [leaves]at h
 |succ d=>
  simp only [leaves]at h
  split at h
  ·simp only [oI]at h;exact ⟨_,h.symm⟩
  ·simp only [oI]at h;exact ⟨_,h.symm⟩
  ·simp only [oI]at h;exact ⟨_,h.symm⟩
  ·rename_i fs q
   unfold DO at j
   rw [q]at j
   cases e:P.info? t<;>rw [e]at j<;>simp at j
  ·rename_i k e q
   unfold DO at j
   rw [q]at j
   cases e:P.info? t<;>rw [e]at j<;>simp at j
  ·cases h
theorem VC {t:TypeId} {n:Nat} (q:AW P t=some n) {d:Nat} {l:List (Nat×LK)} (h:leaves P d t=some l):DO P t=some none∨DO P t=some (some n):=by
 unfold AW at q
 obtain ⟨i,v,e⟩:=mS q
 have j:∃u,P.underlying t=some u:=by
  cases j:P.underlying t with
  |some u=>exact ⟨u,rfl⟩
  |none=>
   cases d with
   |zero=>simp [leaves]at h
   |succ d=>simp [leaves,j]at h
 obtain ⟨u,j⟩:=j
 unfold DO
 rw [j,v]
 cases u<;>simp [e]
theorem Js {t:TypeId} {X:Array Value} {j n:Nat} (B:AW P t=some n):
  (∀m,DO P t=some (some m)->(part t X j).run P w=.ok (.agg (X.extract j (j+m))) w)/\
  (DO P t=some none->∀x,X[j]?=some x->(part t X j).run P w=.ok x w):=by
 refine ⟨fun m A=>?_,fun h x z=>?_⟩
 ·obtain ⟨q,v⟩:=Ed P w t A
  simp [part,q,v m rfl]
 ·obtain ⟨q,v⟩:=Ed P w t h
  simp [part,q,z]
structure AcU (P:Program) (X Y:Array Value) (base:Nat) (t:TypeId) (x y:Value):Prop where
 agg:∀n,DO P t=some (some n)->∃X' Y',x=.agg X'/\y=.agg Y'/\Yv X base n X'/\Yv Y base n Y'
 one:DO P t=some none->X[base]?=some x/\Y[base]?=some y
theorem Jz {X Y V Y':Array Value} {cs ds:List Aa} (hX:Aw ρ μ cs X.toList) (hY:Aw ρ μ ds Y.toList) {d:Nat} {t:TypeId} {l:List (Nat×LK)} {m n j z k:Nat} {e:Bool}
  (L:Yv X j n V) (M:Yv Y j n Y') (hl:leaves P d t=some l) (I:AW P t=some m) (C:z+m<=n) (Q:∀x∈l,x.1<m)
  (R:CZ Γ cs ds (Cr (j+z) l)=some e)
  (rec:∀(x y:Value),AcU P X Y (j+z) t x y->(Op.equalIn k t x y).run P w=.ok e w):
  ∃U py,(part t V z).run P w=.ok U w/\(part t Y' z).run P w=.ok py w/\(Op.equalIn k t U py).run P w=.ok e w:=by
 rcases VC I hl with ha|ha
 ·obtain ⟨lk,rfl⟩:=UJ hl ha
  have R:(AA (Tm Γ cs ds (j+z+0,lk)) fun e=>bif e then some true else some false)=some e:=R
  obtain ⟨e',J,_⟩:=Ac R
  unfold Tm at J
  obtain ⟨p,O,J⟩:=Ac J
  obtain ⟨q,N,_⟩:=Ac J
  rw [Ks]at O N
  simp only [Nat.add_zero]at O N
  obtain ⟨u,A,_,_⟩:=hX.get O
  obtain ⟨v,B,_,_⟩:=hY.get N
  rw [Array.getElem?_toList]at A B
  have Z:=Q _ (List.mem_singleton.2 rfl)
  simp only at Z
  refine ⟨u,v,(Js I).2 ha _ (by rw [L.cell _ (by omega)];exact A),(Js I).2 ha _ (by rw [M.cell _ (by omega)];exact B),rec u v ⟨fun n hn=>?_,fun _=>⟨A,B⟩⟩⟩
  rw [ha]at hn;cases hn
 ·refine ⟨_,_,(Js I).1 m ha,(Js I).1 m ha,rec _ _ ⟨fun n' H=>?_,fun h=>?_⟩⟩
  ·rw [ha]at H
   simp only [oI]at H
   subst H
   exact ⟨_,_,rfl,rfl,L.sub C,M.sub C⟩
  ·rw [ha]at h;cases h
theorem L3 {α:Type} {o:Option (List α)} {r:List (Option (List α))} {l:List α} (h:Dy (o::r)=some l):∃j q,o=some j/\Dy r=some q/\l=j++q:=by
 cases o with
 |none=>simp [Dy]at h
 |some j=>
  simp only [Dy]at h
  obtain ⟨q,x,v⟩:=mS h
  exact ⟨j,q,rfl,x,v.symm⟩
theorem GL {t:TypeId} {d:TypeDesc} (q:P.underlying t=some d) (h:(∀fs,d≠.struct fs)/\∀k e,d≠.array k e) (j:(P.info? t).isSome=true):DO P t=some none:=by
 obtain ⟨i,j⟩:=Option.isSome_iff_exists.1 j
 unfold DO
 rw [q,j]
 cases d<;>first|rfl|(exact absurd rfl (h.1 _)) |(exact absurd rfl (h.2 _ _))
theorem info_of_underlying {t:TypeId} {d:TypeDesc} (j:P.underlying t=some d):(P.info? t).isSome=true:=by
 unfold Program.underlying at j
 cases e:P.info? t with
 |none=>rw [e]at j;cases j
 |some i=>rfl
theorem T5 {t:TypeId} {fs:Array Field} {n:Nat} (q:P.underlying t=some (.struct fs)) (j:AW P t=some n):DO P t=some (some n):=by
 unfold AW at j
 obtain ⟨i,v,e⟩:=mS j
 unfold DO
 rw [q,v]
 simp [e]
theorem VD {t e:TypeId} {k n:Nat} (q:P.underlying t=some (.array k e)) (j:AW P t=some n):DO P t=some (some n):=by
 unfold AW at j
 obtain ⟨i,v,e⟩:=mS j
 unfold DO
 rw [q,v]
 simp [e]
theorem Gk (hΓ:Γ.AG ρ) {X Y:Array Value} {cs ds:List Aa} (U:Aw ρ μ cs X.toList) (hY:Aw ρ μ ds Y.toList):
  ∀(d:Nat) (t:TypeId) (ls:List (Nat×LK)),leaves P d t=some ls->∀(k H:Nat) (x y:Value) (b:Bool),d<=k->AcU P X Y H t x y->
   CZ Γ cs ds (Cr H ls)=some b->(Op.equalIn k t x y).run P w=.ok b w
 |0,t,ls,h,k,H,x,y,b,hk,hxy,I=>by simp [leaves]at h
 |d+1,t,ls,h,k,H,x,y,b,hk,hxy,I=>by
  obtain ⟨k,rfl⟩:∃k',k=k'+1:=⟨k-1,by omega⟩
  have C:∀(J:TypeDesc) (lk:LK),P.underlying t=some J->(∀fs,J≠.struct fs)/\(∀k e,J≠.array k e)->lk.fits J->ls=[(0,lk)]->(Op.equalIn (k+1) t x y).run P w=.ok b w:=fun J lk z aD hf hl=>by
   subst hl
   obtain ⟨hx,hy⟩:=hxy.one (GL z aD (info_of_underlying z))
   have I:(AA (Tm Γ cs ds (H+0,lk)) fun e=>bif e then some true else some false)=some b:=I
   obtain ⟨e,A,h2⟩:=Ac I
   have hb:e=b:=by cases e<;>simpa using h2
   subst hb
   unfold Tm at A
   obtain ⟨p,hp,A⟩:=Ac A
   obtain ⟨q,hq,A⟩:=Ac A
   rw [Ks]at hp hq
   simp only [Nat.add_zero]at hp hq
   obtain ⟨u,ab,_,aB⟩:=U.get hp
   obtain ⟨v,ac,_,az⟩:=hY.get hq
   rw [Array.getElem?_toList,hx]at ab
   rw [Array.getElem?_toList,hy]at ac
   simp only [oI]at ab ac
   subst ab ac
   exact Rz hΓ aB az A z hf k
  simp only [leaves]at h
  split at h
  ·rename_i z
   simp only [oI]at h
   exact C _ .bool z ⟨by simp,by simp⟩ rfl h.symm
  ·rename_i i z
   simp only [oI]at h
   exact C _ .int z ⟨by simp,by simp⟩ ⟨_,rfl⟩ h.symm
  ·rename_i z
   simp only [oI]at h
   exact C _ .str z ⟨by simp,by simp⟩ rfl h.symm
  ·
   rename_i fs z
   split at h
   ·cases h
   ·rename_i N
    have N:P.stoodInHeld t=false:=by simpa using N
    obtain ⟨n,hn⟩:∃n,AW P t=some n:=by
     obtain ⟨i,M⟩:=Option.isSome_iff_exists.1 (info_of_underlying z)
     exact ⟨i.size,by simp [AW,M]⟩
    obtain ⟨X',Y',rfl,rfl,R,aa⟩:=hxy.agg n (T5 z hn)
    have ad:P.fieldsOf t=fs:=by simp [Program.fieldsOf,z]
    rw [run_equalIn_struct w k t _ _ (by rw [ad];exact z) N,ad]
    have V:d<=k:=by omega
    clear hxy C z ad N
    generalize fs.toList=fl at h
    induction fl generalizing ls b with
    |nil=>
     simp only [List.map_nil,Dy,oI]at h
     subst h
     have I:some true=some b:=I
     simp only [oI]at I
     subst I
     simp [Op.eqFields]
    |cons f fl ih=>
     simp only [List.map_cons]at h
     obtain ⟨l1,l2,A,h2,rfl⟩:=L3 h
     split at A
     ·cases A
     ·rename_i aj
      split at A
      ·rename_i l m hl hm
       split at A
       ·rename_i B
        simp only [oI]at A
        subst A
        rw [Hl,GC,E2]at I
        obtain ⟨e,al,O⟩:=Ac I
        have af:∃px py,(part f.type X' f.offset).run P w=.ok px w/\(part f.type Y' f.offset).run P w=.ok py w/\(Op.equalIn k f.type px py).run P w=.ok e w:=by
         rw [aT]at B
         have Z:f.offset+m<=n:=by
          have:=AL.1 B.2
          unfold AW at hn
          simp only [Program.cellsOf,hn,Option.getD_some]at this
          exact this
         exact Jz U hY R aa hl hm Z (N2 B.1) al fun x y A=>Gk hΓ U hY d f.type l hl k _ x y e V A al
        obtain ⟨px,py,r1,r2,r3⟩:=af
        simp only [Op.eqFields,if_pos (show f.name≠ "_" from aj)]
        simp only [Sem.run_bind,r1,Result.andThen_ok,r2,r3]
        cases e with
        |false=>
         simp only [cond_false,oI]at O
         subst O
         simp
        |true=>
         simp only [cond_true]at O
         simp only [Bool.not_true,Bool.false_eq_true,if_false]
         exact ih l2 b O h2
       ·cases A
      ·cases A
  ·
   rename_i len e z
   split at h
   ·rename_i l m hl hm
    split at h
    ·rename_i B
     simp only [oI]at h
     rw [aT]at B
     obtain ⟨n,hn⟩:∃n,AW P t=some n:=by
      obtain ⟨i,M⟩:=Option.isSome_iff_exists.1 (info_of_underlying z)
      exact ⟨i.size,by simp [AW,M]⟩
     obtain ⟨X',Y',rfl,rfl,R,aa⟩:=hxy.agg n (VD z hn)
     have Z:len*m<=n:=by
      have:=AL.1 B.2
      unfold AW at hn
      simp only [Program.cellsOf,hn,Option.getD_some]at this
      exact this
     have V:d<=k:=by omega
     have hs:=Bn (w:=w) hm
     simp only [Op.equalIn,Sem.run_bind,run_underlying z,Result.andThen_ok,hs]
     have key:∀(L:List Nat) (b:Bool),(∀i∈L,i<len)->CZ Γ cs ds (Cr H (L.flatMap fun i=>Cr (i*m) l))=some b->
       (forIn L ((none,()):Option Bool×Unit) fun i (_:Option Bool×Unit)=>do
        let p<-part e X' (i*m)
        let q<-part e Y' (i*m)
        let r<-Op.equalIn k e p q
        if (!r)=true then pure (ForInStep.done (some false,()))else pure (ForInStep.yield (none,())):Sem (Option Bool×Unit)).run P w=.ok (if b then none else some false,()) w:=by
      intro L
      induction L with
      |nil=>
       intro b _ hb
       have hb:some true=some b:=hb
       simp only [oI]at hb
       subst hb
       simp
      |cons i L ih=>
       intro b hL hb
       rw [List.flatMap_cons,Hl,GC,E2]at hb
       obtain ⟨r,an,Q⟩:=Ac hb
       have M:i<len:=hL i List.mem_cons_self
       have aC:i*m+m<=n:=by
        have:=Nat.mul_le_mul_right m (show i+1<=len from M)
        rw [Nat.succ_mul]at this
        omega
       obtain ⟨px,py,r1,r2,r3⟩:=Jz (n:=n) (k:=k) (w:=w) U hY R aa hl hm aC (N2 B.1) an fun x y A=>Gk hΓ U hY d e l hl k _ x y r V A an
       rw [List.forIn_cons]
       simp only [Sem.run_bind,r1,Result.andThen_ok,r2,r3]
       cases r with
       |false=>
        simp only [cond_false,oI]at Q
        subst Q
        simp
       |true=>
        simp only [cond_true]at Q
        simp only [Bool.not_true,Bool.false_eq_true,if_false,Sem.run_pure,Result.andThen_ok]
        exact ih b (fun j hj=>hL j (List.mem_cons_of_mem _ hj)) Q
     rw [Std.Legacy.Range.forIn_eq_forIn_range']
     have hr:List.range' 0 len 1=List.range len:=(List.range_eq_range' ..).symm
     simp only [Std.Legacy.Range.size,Nat.sub_zero,Nat.add_one_sub_one,Nat.div_one]
     rw [hr]
     have:=key (List.range len) b (fun i M=>List.mem_range.1 M) (by rw [h];exact I)
     rw [this]
     cases b<;>simp
    ·cases h
   ·cases h
  ·cases h
end
end
end Go.AM
