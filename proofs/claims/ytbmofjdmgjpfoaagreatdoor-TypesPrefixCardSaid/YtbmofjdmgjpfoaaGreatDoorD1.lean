/- Part 1 of the proof of TypesPrefix. -/
import Derived.Orders
import Derived.Laws.Entries
import Derived.Laws.Strings
import Derived.Laws.StructEq
import Derived.Laws.Slices
import Derived.Laws.Strings2
import Derived.Laws.Unary
import Derived.Laws.Build
import Derived.Laws.Pointers
import Derived.WideLaws
import Derived.LaidEql
set_option linter.all false
section
namespace Go.AM
theorem oI {α:Type} {a b:α}:(some a=some b)=(a=b):=Option.some.injEq a b
theorem lA {α:Type} {a b:List α}:(a++b).length=a.length+b.length:=List.length_append
theorem lC {α:Type} {a:α} {b:List α}:(a::b).length=b.length+1:=List.length_cons
theorem lN {α:Type}:([]:List α).length=0:=List.length_nil
theorem lT' {α:Type} {n:Nat} {a:List α}:(a.take n).length=min n a.length:=List.length_take
theorem aT {a b:Bool}:((a&&b)=true)=(a=true∧b=true):=Bool.and_eq_true a b
theorem mS {α β:Type} {f:α→β} {o:Option α} {b:β} (h:o.map f=some b):∃a,o=some a∧f a=b:=Option.map_eq_some_iff.1 h
theorem cL {α:Type} {a b:List α} (h:a=b):a.length=b.length:=congrArg List.length h
noncomputable section
def ile:Int→Int→Bool
 |.ofNat a,.ofNat b=>Nat.ble a b
 |.negSucc _,.ofNat _=>true
 |.ofNat _,.negSucc _=>false
 |.negSucc a,.negSucc b=>Nat.ble b a
def YA:Int→Int→Bool
 |.ofNat a,.ofNat b=>Nat.beq a b
 |.negSucc a,.negSucc b=>Nat.beq a b
 |_,_=>false
def ilt (a b:Int):Bool:=!(ile b a)
def U3:IntKind→Nat
 |.i8=>0|.i16=>1|.i32=>2|.i64=>3|.u8=>4|.u16=>5|.u32=>6|.u64=>7
def U4 (a b:IntKind):Bool:=Nat.beq (U3 a) (U3 b)
def modulus:IntKind→Nat
 |.i8=>256|.u8=>256
 |.i16=>65536|.u16=>65536
 |.i32=>4294967296|.u32=>4294967296
 |.i64=>18446744073709551616|.u64=>18446744073709551616
def Q5 (n:Int) (m:Nat):Nat:=
 match n with
 |.ofNat a=>a%m
 |.negSucc a=>m-1-a%m
def Ik:IntKind→Bool
 |.i8=>true|.i16=>true|.i32=>true|.i64=>true
 |.u8=>false|.u16=>false|.u32=>false|.u64=>false
def back (k:IntKind) (m:Nat):Int:=
 bif Ik k&&Nat.ble (modulus k) (m+m)then .negSucc (modulus k-1-m)else .ofNat m
def KY (k:IntKind) (n:Int):Int:=back k (Q5 n (modulus k))
def WS (op:BinOp) (m a b:Nat):Nat:=
 match op with
 |.and=>Nat.land a b
 |.or=>Nat.lor a b
 |.xor=>Nat.xor a b
 |_=>Nat.land a (m-1-b)
def PC (op:BinOp) (k:IntKind) (x y:Int):Int:=
 back k (WS op (modulus k) (Q5 x (modulus k)) (Q5 y (modulus k)))
def XS:BinOp→Nat
 |.add=>0|.sub=>1|.mul=>2|.quo=>3|.rem=>4|.and=>5|.or=>6|.xor=>7|.shl=>8|.shr=>9|.andNot=>10
 |.eql=>11|.neq=>12|.lss=>13|.leq=>14|.gtr=>15|.geq=>16
def Of (a b:BinOp):Bool:=Nat.beq (XS a) (XS b)
def beq (a b:Bool):Bool:=bif a then b else !b
def AF {α β:Type} (o:Option α) (f:α→Option β):Option β:=
 Option.casesOn (motive:=fun _=>Option β) o none f
inductive ST where
 |lit (n:Int)
 |var (i:Nat)
 |bin (op:BinOp) (k:IntKind) (a b:ST)
 |conv (k:IntKind) (a:ST)
inductive SB where
 |lit (b:Bool)
 |cmp (op:BinOp) (a b:ST)
 |no (a:SB)
def ST.eq:ST→ST→Bool
 |.lit a,.lit b=>YA a b
 |.var i,.var j=>Nat.beq i j
 |.bin o k a b,.bin o' k' a' b'=>Of o o'&&U4 k k'&&a.eq a'&&b.eq b'
 |.conv k a,.conv k' a'=>U4 k k'&&a.eq a'
 |_,_=>false
def SB.eq:SB→SB→Bool
 |.lit a,.lit b=>beq a b
 |.cmp o a b,.cmp o' a' b'=>Of o o'&&a.eq a'&&b.eq b'
 |.no a,.no b=>a.eq b
 |_,_=>false
inductive Aa where
 |any
 |bool (b:SB)
 |int (k:IntKind) (n:ST)
 |str (s:List Nat)
 |ptr (b off:Nat)
 |nilPtr
 |slice (b off len cap:Nat)
 |gslice (b off len es:Nat)
 |nilSlice
 |map (b:Nat)
 |nilMap
 |func (f:FuncId) (first captured:List Aa)
 |nilFunc
 |iface (t:TypeId) (v:Aa)
 |nilIface
 |agg (cells:List Aa)
 |tuple (vs:List Aa)
 |anyStr (n:Nat)
 |gbytes (b:Nat)
 |glen (b:Nat)
 |svar (i:Nat)
 |lst (full:Bool) (i es:Nat) (n:ST)
 |lptr (i:Nat) (j:ST) (off:Nat)
 |vec (b es:Nat) (n:ST)
 |vptr (b es:Nat) (j:ST) (off:Nat)
def Aa.single (v:Aa):Bool:=
 match v with
 |.agg _=>false
 |.tuple _=>false
 |.any=>false
 |_=>true
def Aa.cells (v:Aa):Option (List Aa):=
 match v with
 |.agg cs=>some cs
 |.tuple _=>none
 |.any=>none
 |v=>some [v]
def lit (k:IntKind) (n:Int):Aa:=.int k (.lit n)
def yes:Aa:=.bool (.lit true)
structure Entry where
 key:Aa
 val:Aa
 born:Nat
inductive Block where
 |cells (vs:List Aa)
 |map (es:List Entry) (clock:Nat)
 |typed (e:Nat) (vs:List Aa)
 |bytes (n e:Nat)
 |sbytes (n:ST) (e:Nat)
 |list (i es:Nat)
 |smap (i:Nat)
structure BF where
 id:Nat
 X5:List (Nat×Aa)
 pre:List Block
 Oa:List (Nat×Aa)
 post:List (Option Block)
 df:List (FuncId×List Aa):=[]
 out:Bool:=false
inductive AR where
 |els (es:List (List Aa))
 |all (i:Nat)
 |take (i:Nat) (n:ST)
 |drop (i:Nat) (n:ST)
structure Ao where
 DY:List (ST×Int):=[]
 tests:List (BinOp×ST×ST×Bool):=[]
 strs:List (Aa×Aa×Bool):=[]
 EO:List (Aa×Aa×Aa):=[]
 BA:List (Nat×ST×Nat×Nat):=[]
 Ad:List (Nat×ST):=[]
 elems:List (Nat×ST×List Aa):=[]
 defs:List (Nat×List AR):=[]
 looks:List (Nat×Aa×Option (List Aa)):=[]
 LI:List (Nat×Aa×List Aa×Nat):=[]
 CO:List (ST×Nat×ST):=[]
 CM:List (Nat×List (Aa×List Aa)):=[]
 BJ:List (Nat×Nat×Nat×Nat×Nat):=[]
 loops:List BF:=[]
def JH:List (ST×Int)→ST→Option Int
 |[],_=>none
 |(t,n)::r,x=>bif t.eq x then some n else JH r x
def Cf:List (BinOp×ST×ST×Bool)→BinOp→ST→ST→Option Bool
 |[],_,_,_=>none
 |(o,s,t,v)::r,op,a,b=>bif Of o op&&s.eq a&&t.eq b then some v else Cf r op a b
def numOf (Γ:Ao) (t:ST):ST:=
 match JH Γ.DY t with
 |some n=>.lit n
 |none=>t
def R3 (op:BinOp) (k:IntKind) (a b:Int):Option Int:=
 match op with
 |.add=>some (KY k (a+b))
 |.sub=>some (KY k (a-b))
 |.mul=>some (KY k (a*b))
 |.quo=>bif YA b 0 then none else some (KY k (a.tdiv b))
 |.rem=>bif YA b 0 then none else some (a.tmod b)
 |.and=>some (PC .and k a b)
 |.or=>some (PC .or k a b)
 |.xor=>some (PC .xor k a b)
 |.andNot=>some (PC .andNot k a b)
 |_=>none
def AaZ (op:BinOp) (a b:Int):Option Bool:=
 match op with
 |.eql=>some (YA a b)
 |.neq=>some (!(YA a b))
 |.lss=>some (ilt a b)
 |.leq=>some (ile a b)
 |.gtr=>some (ilt b a)
 |.geq=>some (ile b a)
 |_=>none
def Mu (op:BinOp) (k:IntKind) (x:Int) (n:Nat):Option Int:=
 match op with
 |.shl=>some (KY k (x*Int.ofNat (2^n)))
 |.shr=>some (x.fdiv (Int.ofNat (2^n)))
 |_=>none
def Qo (op:BinOp) (k:IntKind) (x y:Int):Option Int:=
 match y with
 |.negSucc _=>none
 |.ofNat y=>Mu op k x (bif Nat.ble y k.bits then y else k.bits)
def total (op:BinOp) (b:ST):Bool:=
 match op with
 |.add=>true|.sub=>true|.mul=>true|.and=>true|.or=>true|.xor=>true|.andNot=>true
 |.quo=>(match b with|.lit n=>!(YA n 0) |_=>false)
 |.rem=>(match b with|.lit n=>!(YA n 0) |_=>false)
 |_=>false
def Xh (Γ:Ao) (op:BinOp) (b:ST):Bool:=
 match op with
 |.quo=>(match Cf Γ.tests .eql b (.lit 0)with|some v=>!v|none=>false)
 |.rem=>(match Cf Γ.tests .eql b (.lit 0)with|some v=>!v|none=>false)
 |_=>false
def Vm (Γ:Ao) (op:BinOp) (k:IntKind) (a b:ST):Option ST:=
 bif total op b||Xh Γ op b then some (numOf Γ (.bin op k a b))else none
def arith (Γ:Ao) (op:BinOp) (k:IntKind) (a b:ST):Option ST:=
 match a,b with
 |.lit x,.lit y=>AF (R3 op k x y) fun n=>some (.lit n)
 |a,b=>Vm Γ op k a b
def FD (op:BinOp):Bool:=Nat.ble 11 (XS op)
def N4 (Γ:Ao) (op:BinOp) (a b:ST):Option SB:=
 bif FD op then (match Cf Γ.tests op a b with|some v=>some (.lit v) |none=>some (.cmp op a b))else none
def compare (Γ:Ao) (op:BinOp) (a b:ST):Option SB:=
 match a,b with
 |.lit x,.lit y=>AF (AaZ op x y) fun v=>some (.lit v)
 |a,b=>N4 Γ op a b
def convert (Γ:Ao) (k:IntKind) (a:ST):ST:=
 match a with
 |.lit x=>.lit (KY k x)
 |a=>numOf Γ (.conv k a)
inductive Tr (α:Type) where
 |nil
 |node (v:Option α) (l r:Tr α)
 |over (n:Nat) (v:Option α) (t:Tr α)
def Tr.get {α:Type} (t:Tr α):Nat→Option α:=
 Tr.rec (motive:=fun _=>Nat→Option α) (fun _=>none)
  (fun v _ _ c d n=>bif Nat.beq n 0 then v else bif Nat.beq (n%2) 1 then c (n/2)else d (n/2-1))
  (fun m v _ gt n=>bif Nat.beq n m then v else gt n) t
def Tr.set {α:Type} (t:Tr α):Nat→Option α→Tr α:=
 Tr.rec (motive:=fun _=>Nat→Option α→Tr α) (fun n x=>.over n x .nil)
  (fun v l r sl c n x=>bif Nat.beq n 0 then .node x l r else bif Nat.beq (n%2) 1 then .node v (sl (n/2) x) r else .node v l (c (n/2-1) x))
  (fun m v t d n x=>bif Nat.beq n m then .over m x t else .over m v (d n x)) t
def Tr.full (α:Type) (n:Nat):Tr α:=
 Nat.rec (motive:=fun _=>Tr α) .nil (fun _ ih=>.node none ih ih) n
structure Al where
 DP:Tr Block
 next:Nat
 fx:Ao:={}
def Al.get (h:Al) (b:Nat):Option Block:=Tr.get h.DP b
def Al.set (h:Al) (b:Nat) (o:Option Block):Al:=⟨Tr.set h.DP b o,h.next,h.fx⟩
def Al.add (h:Al) (B:Block):Al:=⟨Tr.set h.DP h.next (some B),h.next+1,h.fx⟩
inductive C7 where
 |tmp (t:Nat)
 |con (v:Aa)
inductive LK where
 |bool
 |int
 |str
structure C3 where
 t:Nat
 agg:Bool
 Sw:List (Nat×LK)
inductive EqK where
 |plain (Sw:List (Nat×LK))
 |iface (nils:Bool) (ts:List C3)
 |ptr
 |slice
 |map
 |func
 |bool
inductive POp where
 |mv (x:C7)
 |pick (c a b:C7)
 |build (zero:List Aa) (parts:List (Nat×Nat×C7))
 |Afp (x:C7)
 |bin (op:BinOp) (x y:C7)
 |eqs (neg:Bool) (k:EqK) (x y:C7)
 |un (op:UnOp) (x:C7)
 |conv (k:IntKind) (x:C7)
 |same (x:C7)
 |iface (t:TypeId) (x:C7)
 |func (f:FuncId) (first captured:List C7)
 |subs (x:C7) (lo hi:Option C7)
 |reslice (size:Nat) (x:C7) (lo hi mx:Option C7)
 |UP (off:Nat) (x:C7)
 |field (off:Nat) (n:Option Nat) (x:C7)
 |Afz (size:Nat) (x i:C7)
 |U6 (len size:Nat) (x i:C7)
 |idx (len size:Nat) (n:Option Nat) (x i:C7)
 |Afy (x i:C7)
 |ext (x:C7) (i:Nat)
 |Aft (x:C7)
 |Afu (x:C7)
 |big (most:Bool) (xs:List C7)
 |assert (t:TypeId) (zero:Option Aa) (x:C7)
 |ZL (x:C7)
inductive NX where
 |load (n:Option Nat) (x:C7)
 |lookup (kk:LK) (zero:Aa) (ok:Bool) (x k:C7)
 |lenM (x:C7)
 |uptr (ok:List (Nat×Nat)) (x:C7)
 |bstr (x:C7)
inductive AOp where
 |box (t:Option Nat) (x:C7)
 |zero (t:Option Nat) (cells:List Aa)
 |bslice (len:Nat) (zero:List Aa) (parts:List (Nat×Nat×C7))
 |mkSlice (zero:List Aa) (l c:C7)
 |mkMap
inductive MOp where
 |store (n:Nat) (a x:C7)
 |call (f:C7) (args:List C7)
 |append (size:Nat) (u8:Option Nat) (bytes:Bool) (x y:C7)
 |copy (size:Nat) (bytes:Bool) (x y:C7)
 |mapUp (kk:LK) (m k v:C7)
 |clone (x:C7)
 |panic (x:C7)
 |defer (f:C7) (args:List C7)
 |recover
 |Ael (e:Nat) (p n:C7)
 |Aaj (x:C7)
inductive DO where
 |p (o:POp)
 |r (o:NX)
 |a (o:AOp)
 |m (o:MOp)
structure Step where
 dst:Option Nat
 guard:Option (Nat×Bool)
 op:DO
 back:Nat
inductive IC where
 |skip
 |region (draw:Bool) (steps:List Step)
 |seq (a b:IC)
 |cond (c:C7) (t e:IC)
 |block (id:Nat) (b:IC)
 |loop (b:IC)
 |exit (id:Nat)
 |ret
inductive R8 where
 |tmp (t:Nat)
 |cell (t:Nat) (n:Option Nat)
structure EI where
 depth:Nat
 results:List R8
 body:IC
def Ds (o:Option Bool):Bool:=
 match o with
 |some true=>true
 |_=>false
def EB (o:Option Aa):Aa:=
 match o with
 |some v=>v
 |none=>.any
def ev (tm:Tr Aa) (x:C7):Aa:=
 match x with
 |.tmp t=>EB (Tr.get tm t)
 |.con v=>v
def RC (tm:Tr Aa) (l:List C7):List Aa:=
 List.rec (motive:=fun _=>List Aa) [] (fun x _ ih=>ev tm x::ih) l
def over (vs:List Aa):List Aa→Option (List Aa):=
 List.rec (motive:=fun _=>List Aa→Option (List Aa)) (fun c=>some c)
  (fun v _ ih c=>List.casesOn (motive:=fun _=>Option (List Aa)) c none (fun _ c=>AF (ih c) fun r=>some (v::r))) vs
def splice (vs:List Aa) (i:Nat):List Aa→Option (List Aa):=
 Nat.rec (motive:=fun _=>List Aa→Option (List Aa)) (fun c=>over vs c)
  (fun _ ih c=>List.casesOn (motive:=fun _=>Option (List Aa)) c none
   (fun x c=>AF (ih c) fun r=>some (x::r))) i
def taken (n:Nat):List Aa→Option (List Aa):=
 Nat.rec (motive:=fun _=>List Aa→Option (List Aa)) (fun _=>some [])
  (fun _ ih c=>List.casesOn (motive:=fun _=>Option (List Aa)) c none (fun x c=>AF (ih c) fun r=>some (x::r))) n
def dropped (n:Nat):List Aa→List Aa:=
 Nat.rec (motive:=fun _=>List Aa→List Aa) (fun c=>c) (fun _ ih c=>List.casesOn (motive:=fun _=>List Aa) c [] (fun _ c=>ih c)) n
def nth (l:List Aa):Nat→Option Aa:=
 List.rec (motive:=fun _=>Nat→Option Aa) (fun _=>none) (fun x _ ih n=>Nat.casesOn (motive:=fun _=>Option Aa) n (some x) (fun n=>ih n)) l
def Ad (l:List Aa):Nat:=
 List.rec (motive:=fun _=>Nat) 0 (fun _ _ ih=>ih+1) l
def rep (zero:List Aa) (n:Nat):List Aa:=
 Nat.rec (motive:=fun _=>List Aa) [] (fun _ ih=>zero++ih) n
def cut (c:List Aa) (i n:Nat):Option (List Aa):=taken n (dropped i c)
def FG (cs:List Aa) (v:Aa) (c size:Nat):Option (List Aa):=
 AF v.cells fun vs=>bif Nat.beq (Ad vs) size then splice vs c cs else none
def HO (tm:Tr Aa) (ps:List (Nat×Nat×C7)):List Aa→Option (List Aa):=
 List.rec (motive:=fun _=>List Aa→Option (List Aa)) (fun cs=>some cs) (fun p _ ih cs=>AF (FG cs (ev tm p.2.2) p.1 p.2.1) ih) ps
def O7 (x:List Nat):List Nat→Bool:=
 List.rec (motive:=fun _=>List Nat→Bool) (fun y=>List.casesOn (motive:=fun _=>Bool) y true (fun _ _=>false))
  (fun a _ ih y=>List.casesOn (motive:=fun _=>Bool) y false (fun b y=>Nat.beq a b&&ih y)) x
def ltL (x:List Nat):List Nat→Bool:=
 List.rec (motive:=fun _=>List Nat→Bool) (fun y=>List.casesOn (motive:=fun _=>Bool) y false (fun _ _=>true))
  (fun a _ ih y=>List.casesOn (motive:=fun _=>Bool) y false (fun b y=>Nat.blt a b||(Nat.beq a b&&ih y))) x
def Iz (l:List Nat):Nat:=
 List.rec (motive:=fun _=>Nat) 0 (fun _ _ ih=>ih+1) l
def Cm (l:List Nat):Nat→Option Nat:=
 List.rec (motive:=fun _=>Nat→Option Nat) (fun _=>none) (fun x _ ih n=>Nat.casesOn (motive:=fun _=>Option Nat) n (some x) (fun n=>ih n)) l
def Uo (n:Nat):List Nat→Option (List Nat):=
 Nat.rec (motive:=fun _=>List Nat→Option (List Nat)) (fun _=>some [])
  (fun _ ih c=>List.casesOn (motive:=fun _=>Option (List Nat)) c none (fun x c=>AF (ih c) fun r=>some (x::r))) n
def MI (n:Nat):List Nat→List Nat:=
 Nat.rec (motive:=fun _=>List Nat→List Nat) (fun c=>c) (fun _ ih c=>List.casesOn (motive:=fun _=>List Nat) c [] (fun _ c=>ih c)) n
def Aa.eqC (x y:Aa):Bool:=
 match x,y with
 |.bool a,.bool b=>a.eq b
 |.int k a,.int k' b=>U4 k k'&&a.eq b
 |.str a,.str b=>O7 a b
 |.ptr a b,.ptr c d=>Nat.beq a c&&Nat.beq b d
 |.nilPtr,.nilPtr=>true
 |.slice a b c d,.slice a' b' c' d'=>Nat.beq a a'&&Nat.beq b b'&&Nat.beq c c'&&Nat.beq d d'
 |.gslice a b c d,.gslice a' b' c' d'=>Nat.beq a a'&&Nat.beq b b'&&Nat.beq c c'&&Nat.beq d d'
 |.nilSlice,.nilSlice=>true
 |.map a,.map b=>Nat.beq a b
 |.nilMap,.nilMap=>true
 |.nilFunc,.nilFunc=>true
 |.nilIface,.nilIface=>true
 |.anyStr n,.anyStr n'=>Nat.beq n n'
 |.gbytes b,.gbytes b'=>Nat.beq b b'
 |.glen b,.glen b'=>Nat.beq b b'
 |.svar i,.svar j=>Nat.beq i j
 |.lst f i e n,.lst f' i' e' n'=>beq f f'&&(Nat.beq i i'&&(Nat.beq e e'&&n.eq n'))
 |.lptr i j o,.lptr i' j' o'=>Nat.beq i i'&&(j.eq j'&&Nat.beq o o')
 |.vec b e n,.vec b' e' n'=>Nat.beq b b'&&(Nat.beq e e'&&n.eq n')
 |.vptr b e j o,.vptr b' e' j' o'=>Nat.beq b b'&&(Nat.beq e e'&&(j.eq j'&&Nat.beq o o'))
 |_,_=>false
def Aa.Adq (x:List Aa):List Aa→Bool:=
 List.rec (motive:=fun _=>List Aa→Bool) (fun y=>List.casesOn (motive:=fun _=>Bool) y true (fun _ _=>false))
  (fun a _ ih y=>List.casesOn (motive:=fun _=>Bool) y false (fun b y=>a.eqC b&&ih y)) x
def Aa.eq (x y:Aa):Bool:=
 match x,y with
 |.func f a c,.func f' a' c'=>Nat.beq f f'&&(Aa.Adq a a'&&Aa.Adq c c')
 |x,y=>x.eqC y
def Aa.P0 (x:List Aa):List Aa→Bool:=
 List.rec (motive:=fun _=>List Aa→Bool) (fun y=>List.casesOn (motive:=fun _=>Bool) y true (fun _ _=>false))
  (fun a _ ih y=>List.casesOn (motive:=fun _=>Bool) y false (fun b y=>a.eq b&&ih y)) x
def MM (x y:Aa) (l:List (Aa×Aa×Bool)):Option Bool:=
 List.rec (motive:=fun _=>Option Bool) none (fun e _ ih=>bif x.eq e.1&&y.eq e.2.1 then some e.2.2 else ih) l
def Aaw (x y:Aa) (l:List (Aa×Aa×Aa)):Option Aa:=
 List.rec (motive:=fun _=>Option Aa) none (fun e _ ih=>bif x.eq e.1&&y.eq e.2.1 then some e.2.2 else ih) l
def WU (i:Nat) (l:List (Nat×ST×Nat×Nat)):Option (ST×Nat×Nat):=
 List.rec (motive:=fun _=>Option (ST×Nat×Nat)) none (fun e _ ih=>bif Nat.beq e.1 i then some e.2 else ih) l
def EU (i:Nat) (l:List (Nat×ST)):Option ST:=
 List.rec (motive:=fun _=>Option ST) none (fun e _ ih=>bif Nat.beq e.1 i then some e.2 else ih) l
def Pg (i:Nat) (t:ST) (l:List (Nat×ST×List Aa)):Option (List Aa):=
 List.rec (motive:=fun _=>Option (List Aa)) none (fun e _ ih=>bif Nat.beq e.1 i&&e.2.1.eq t then some e.2.2 else ih) l
def Aau (i:Nat) (k:Aa) (l:List (Nat×Aa×Option (List Aa))):Option (Option (List Aa)):=
 List.rec (motive:=fun _=>Option (Option (List Aa))) none (fun e _ ih=>bif Nat.beq e.1 i&&k.eq e.2.1 then some e.2.2 else ih) l
def Aat (i:Nat) (k:Aa) (cs:List Aa) (l:List (Nat×Aa×List Aa×Nat)):Option Nat:=
 List.rec (motive:=fun _=>Option Nat) none (fun e _ ih=>bif Nat.beq e.1 i&&(k.eq e.2.1&&Aa.P0 cs e.2.2.1)then some e.2.2.2 else ih) l
def Aax (t:ST) (n:Nat) (l:List (ST×Nat×ST)):Option ST:=
 List.rec (motive:=fun _=>Option ST) none (fun e _ ih=>bif t.eq e.1&&Nat.ble n e.2.1 then some e.2.2 else ih) l
def Af7 (x:List (List Aa)):List (List Aa)→Bool:=
 List.rec (motive:=fun _=>List (List Aa)→Bool) (fun y=>List.casesOn (motive:=fun _=>Bool) y true (fun _ _=>false))
  (fun a _ ih y=>List.casesOn (motive:=fun _=>Bool) y false (fun b y=>Aa.P0 a b&&ih y)) x
def AR.eq (x y:AR):Bool:=
 match x,y with
 |.els a,.els b=>Af7 a b
 |.all i,.all j=>Nat.beq i j
 |.take i n,.take j m=>Nat.beq i j&&n.eq m
 |.drop i n,.drop j m=>Nat.beq i j&&n.eq m
 |_,_=>false
def AR.P0 (x:List AR):List AR→Bool:=
 List.rec (motive:=fun _=>List AR→Bool) (fun y=>List.casesOn (motive:=fun _=>Bool) y true (fun _ _=>false))
  (fun a _ ih y=>List.casesOn (motive:=fun _=>Bool) y false (fun b y=>a.eq b&&ih y)) x
def JI (p:List AR) (l:List (Nat×List AR)):Option Nat:=
 List.rec (motive:=fun _=>Option Nat) none (fun e _ ih=>bif AR.P0 p e.2 then some e.1 else ih) l
def D0 (Γ:Ao) (op:BinOp) (a b:ST):Bool:=
 match compare Γ op a b with
 |some (.lit v)=>v
 |_=>false
def TA (op:BinOp) (a b:List Nat):Option Aa:=
 match op with
 |.eql=>some (.bool (.lit (O7 a b)))
 |.neq=>some (.bool (.lit (!(O7 a b))))
 |.lss=>some (.bool (.lit (ltL a b)))
 |.leq=>some (.bool (.lit (ltL a b||O7 a b)))
 |.gtr=>some (.bool (.lit (!(ltL a b||O7 a b))))
 |.geq=>some (.bool (.lit (!(ltL a b))))
 |.add=>bif Nat.ble (Iz a+Iz b) 1048576 then some (.str (a++b))else none
 |_=>none
def DZ (op:BinOp):Bool:=
 match op with
 |.shl=>true
 |.shr=>true
 |_=>false
def natural (Γ:Ao) (b:ST):Bool:=
 match b with
 |.lit n=>ile (.ofNat 0) n
 |b=>Ds (Cf Γ.tests .geq b (.lit (.ofNat 0)))
def ZF (Γ:Ao) (op:BinOp) (k:IntKind) (a b:ST):Option Aa:=
 bif natural Γ b then some (.int k (numOf Γ (.bin op k a b)))else none
def ZG (Γ:Ao) (op:BinOp) (k:IntKind) (a b:ST):Option Aa:=
 match a,b with
 |.lit a,.lit b=>AF (Qo op k a b) fun n=>some (.int k (.lit n))
 |a,b=>ZF Γ op k a b
def Aj1 (Γ:Ao) (op:BinOp) (k c:IntKind) (a b:ST):Option Aa:=
 bif DZ op then ZG Γ op k a b
 else bif !(U4 k c)then none
 else bif FD op then AF (compare Γ op a b) fun v=>some (.bool v)
 else AF (arith Γ op k a b) fun n=>some (.int k n)
def Abg (Γ:Ao) (op:BinOp) (x y:Aa):Option Aa:=
 match op with
 |.eql=>AF (MM x y Γ.strs) fun v=>some (.bool (.lit v))
 |.neq=>AF (MM x y Γ.strs) fun v=>some (.bool (.lit (!v)))
 |.add=>Aaw x y Γ.EO
 |_=>none
def AfK (Γ:Ao) (op:BinOp) (x y:Aa):Option Aa:=
 match x,y with
 |.int k a,.int k' b=>Aj1 Γ op k k' a b
 |.str a,.str b=>TA op a b
 |.svar i,.str b=>Abg Γ op (.svar i) (.str b)
 |.str a,.svar j=>Abg Γ op (.str a) (.svar j)
 |.svar i,.svar j=>Abg Γ op (.svar i) (.svar j)
 |_,_=>none
def Afs (b:Option SB):Option Bool:=
 match b with
 |some (.lit v)=>some v
 |_=>none
def Jh (Γ:Ao) (k:LK) (x y:Aa):Option Bool:=
 match k,x,y with
 |.int,.int k a,.int k' b=>bif U4 k k' then Afs (compare Γ .eql a b)else none
 |.bool,.bool (.lit a),.bool (.lit b)=>some (beq a b)
 |.str,.str a,.str b=>some (O7 a b)
 |.str,.svar i,.str b=>MM (.svar i) (.str b) Γ.strs
 |.str,.str a,.svar j=>MM (.str a) (.svar j) Γ.strs
 |.str,.svar i,.svar j=>MM (.svar i) (.svar j) Γ.strs
 |_,_,_=>none
def Tf (Γ:Ao) (x y:List Aa) (o:Nat×LK):Option Bool:=
 AF (nth x o.1) fun a=>AF (nth y o.1) fun b=>Jh Γ o.2 a b
def Dg (Γ:Ao) (x y:List Aa) (l:List (Nat×LK)):Option Bool:=
 List.rec (motive:=fun _=>Option Bool) (some true) (fun o _ ih=>AF (Tf Γ x y o) fun e=>bif e then ih else some false) l
def Aav (t:Nat) (l:List C3):Option C3:=
 List.rec (motive:=fun _=>Option C3) none (fun a _ ih=>bif Nat.beq a.t t then some a else ih) l
def Ri (Γ:Ao) (Sw:List (Nat×LK)) (x y:Aa):Option Bool:=
 match x,y with
 |.agg xs,.agg ys=>Dg Γ xs ys Sw
 |_,_=>none
def K8 (v:Aa):Bool:=
 match v with
 |.agg _=>true
 |_=>false
def Xe (Γ:Ao) (h:C3) (a b:Aa):Option Bool:=
 bif beq (K8 a) h.agg&&beq (K8 b) h.agg then AF a.cells fun a=>AF b.cells fun b=>Dg Γ a b h.Sw else none
def AaS (Γ:Ao) (ts:List C3) (t u:Nat) (a b:Aa):Option Bool:=
 bif Nat.beq t u then (AF (Aav t ts) fun h=>Xe Γ h a b)else some false
def Rl (Γ:Ao) (c:Bool) (ts:List C3) (x y:Aa):Option Bool:=
 match x,y with
 |.iface t a,.iface u b=>AaS Γ ts t u a b
 |.nilIface,.nilIface=>bif c then some true else none
 |.nilIface,.iface _ _=>some false
 |.iface _ _,.nilIface=>some false
 |_,_=>none
def AaQ (x y:Aa):Option Bool:=
 match x,y with
 |.nilPtr,.nilPtr=>some true
 |.nilPtr,.ptr _ _=>some false
 |.ptr _ _,.nilPtr=>some false
 |.ptr b o,.ptr b' o'=>bif Nat.beq b b'&&Nat.beq o o' then some true else none
 |_,_=>none
def Rg (x y:Aa):Option Bool:=
 match x,y with
 |.nilSlice,.nilSlice=>some true
 |.slice _ _ _ _,.nilSlice=>some false
 |.nilSlice,.slice _ _ _ _=>some false
 |.gslice _ _ _ _,.nilSlice=>some false
 |.nilSlice,.gslice _ _ _ _=>some false
 |_,_=>none
def AaR (x y:Aa):Option Bool:=
 match x,y with
 |.nilMap,.nilMap=>some true
 |.map _,.nilMap=>some false
 |.nilMap,.map _=>some false
 |_,_=>none
def US (x y:Aa):Option Bool:=
 match x,y with
 |.nilFunc,.nilFunc=>some true
 |.func _ _ _,.nilFunc=>some false
 |.nilFunc,.func _ _ _=>some false
 |_,_=>none
def UT (x y:Aa):Option Bool:=
 match x,y with
 |.bool (.lit a),.bool (.lit b)=>some (beq a b)
 |_,_=>none
def eqA (Γ:Ao) (k:EqK) (x y:Aa):Option Bool:=
 match k with
 |.plain Sw=>Ri Γ Sw x y
 |.iface nils ts=>Rl Γ nils ts x y
 |.ptr=>AaQ x y
 |.slice=>Rg x y
 |.map=>AaR x y
 |.func=>US x y
 |.bool=>UT x y
def unA (Γ:Ao) (op:UnOp) (x:Aa):Option Aa:=
 match op,x with
 |.neg,.int k a=>AF (arith Γ .sub k (.lit (.ofNat 0)) a) fun n=>some (.int k n)
 |.xor,.int k a=>AF (arith Γ .xor k (.lit (bif Ik k then .negSucc 0 else .ofNat (modulus k-1))) a) fun n=>some (.int k n)
 |.not,.bool (.lit b)=>some (.bool (.lit (!b)))
 |.not,.bool b=>some (.bool (.no b))
 |_,_=>none
def CL (x:Aa):Option Nat:=
 match x with
 |.int _ (.lit (.ofNat n))=>some n
 |_=>none
def Ct (tm:Tr Aa) (d:Nat) (x:Option C7):Option Nat:=
 match x with
 |none=>some d
 |some x=>CL (ev tm x)
def AcT (tm:Tr Aa) (x:Option C7):Option (Option Nat):=
 match x with
 |none=>none
 |some x=>some (CL (ev tm x))
def Vl (Γ:Ao) (most:Bool) (a b:Aa):Option Aa:=
 match a,b with
 |.int k a,.int k' b=>bif U4 k k' then (match (bif most then compare Γ .lss a b else compare Γ .lss b a)with|some (.lit c)=>some (.int k (bif c then b else a)) |_=>none)else none
 |_,_=>none
def Ad2 (Γ:Ao) (most:Bool) (l:List Aa):Aa→Option Aa:=
 List.rec (motive:=fun _=>Aa→Option Aa) (fun a=>some a) (fun b _ ih a=>AF (Vl Γ most a b) ih) l
def Aaf (c a b:Aa):Option Aa:=
 match c with
 |.bool (.lit v)=>some (bif v then a else b)
 |_=>none
def NF (cs:Option (List Aa)):Option Aa:=AF cs fun cs=>some (.agg cs)
def Aak (x:Aa):Option Aa:=
 match x with
 |.ptr b o=>some (.ptr b o)
 |.func f a c=>some (.func f a c)
 |.lptr i j o=>some (.lptr i j o)
 |.vptr b e j o=>some (.vptr b e j o)
 |_=>none
def Jf (Γ:Ao) (c:Bool) (k:EqK) (x y:Aa):Option Aa:=
 AF (eqA Γ k x y) fun b=>some (.bool (.lit (bif c then !b else b)))
def AaX (Γ:Ao) (k:IntKind) (x:Aa):Option Aa:=
 match x with
 |.int _ n=>some (.int k (convert Γ k n))
 |_=>none
def ZM (x:Aa):Option Aa:=
 match x with
 |.str s=>some (.str s)
 |_=>none
def AdF (s:List Nat) (l h n:Nat):Option Aa:=
 bif Nat.ble l h&&Nat.ble h n then AF (Uo (h-l) (MI l s)) fun r=>some (.str r)else none
def YQ (x:Aa) (d:Option Nat) (c:Nat→Option Nat):Option Aa:=
 match x with
 |.str s=>AF d fun l=>AF (c (Iz s)) fun h=>AdF s l h (Iz s)
 |_=>none
def Si (size b d c l h:Nat):Option Aa:=
 bif Nat.ble l h&&Nat.ble h c then some (.slice b (bif Nat.beq c l then d else d+l*size) (h-l) (c-l))else none
def Sg (size b c len d l h:Nat):Option Aa:=
 bif Nat.ble l h&&Nat.ble h len&&Nat.beq size d then
  (bif Nat.beq l 0 then some (.gslice b c h d)
   else bif Nat.blt l h then some (.gslice b (c+l*size) (h-l) d)else none)else none
def JA (size b c len l h m:Nat):Option Aa:=
 bif Nat.ble l h&&Nat.ble h m&&Nat.ble m len then some (.slice b (bif Nat.beq m l then c else c+l*size) (h-l) (m-l))else none
def Gc (size:Nat) (x:Aa) (g:Option Nat) (d:Nat→Option Nat) (j:Option (Option Nat)):Option Aa:=
 match x,j with
 |.slice b off len c,none=>AF g fun l=>AF (d len) fun h=>Si size b off c l h
 |.gslice b off len es,none=>AF g fun l=>AF (d len) fun h=>Sg size b off len es l h
 |.slice b off len _,some m=>AF g fun l=>AF (d len) fun h=>AF m fun m=>JA size b off len l h m
 |.gslice b off len _,some m=>AF g fun l=>AF (d len) fun h=>AF m fun m=>JA size b off len l h m
 |.nilSlice,none=>AF g fun l=>AF (d 0) fun h=>bif Nat.beq l 0&&Nat.beq h 0 then some .nilSlice else none
 |_,_=>none
def Rd (c:Nat) (x:Aa):Option Aa:=
 match x with
 |.ptr b o=>some (.ptr b (o+c))
 |.lptr i j o=>some (.lptr i j (o+c))
 |.vptr b e j o=>some (.vptr b e j (o+c))
 |_=>none
def JE (cs:List Aa) (c:Nat) (n:Option Nat):Option Aa:=
 match n with
 |some n=>AF (cut cs c n) fun r=>some (.agg r)
 |none=>nth cs c
def UO (c:Nat) (n:Option Nat) (x:Aa):Option Aa:=
 match x with
 |.agg cs=>JE cs c n
 |_=>none
def WZ (size b c len:Nat) (i:Option Nat):Option Aa:=
 AF i fun i=>bif Nat.blt i len then some (.ptr b (c+i*size))else none
def AdP (Γ:Ao) (size i c:Nat) (n:ST) (v:Aa):Option Aa:=
 match v with
 |.int _ t=>bif Nat.beq size c&&(D0 Γ .geq t (.lit (.ofNat 0))&&D0 Γ .lss t n)then some (.lptr i t 0)else none
 |_=>none
def AdO (Γ:Ao) (size b c:Nat) (n:ST) (v:Aa):Option Aa:=
 match v with
 |.int _ t=>bif Nat.beq size c&&(D0 Γ .geq t (.lit (.ofNat 0))&&D0 Γ .lss t n)then some (.vptr b c t 0)else none
 |_=>none
def Aa6 (Γ:Ao) (size:Nat) (x v:Aa) (i:Option Nat):Option Aa:=
 match x with
 |.vec b es n=>AdO Γ size b es n v
 |.lst _ j es n=>AdP Γ size j es n v
 |.slice b off len _=>WZ size b off len i
 |.gslice b off len _=>WZ size b off len i
 |_=>none
def QL (len size:Nat) (x:Aa) (i:Option Nat):Option Aa:=
 match x with
 |.ptr b off=>AF i fun i=>bif Nat.blt i len then some (.ptr b (off+i*size))else none
 |_=>none
def Afx (len size:Nat) (n:Option Nat) (x:Aa) (i:Option Nat):Option Aa:=
 match x with
 |.agg cs=>AF i fun i=>bif Nat.blt i len then JE cs (i*size) n else none
 |_=>none
def Aa5 (x:Aa) (i:Option Nat):Option Aa:=
 match x with
 |.str s=>AF i fun i=>AF (Cm s i) fun c=>some (.int .u8 (.lit (.ofNat c)))
 |_=>none
def Af5 (x:Aa) (i:Nat):Option Aa:=
 match x with
 |.tuple vs=>nth vs i
 |_=>none
def Aay (Γ:Ao) (x:Aa):Option Aa:=
 match x with
 |.svar i=>AF (WU i Γ.BA) fun r=>some (.int .i64 r.1)
 |.str s=>some (lit .i64 (.ofNat (Iz s)))
 |.anyStr _=>some .any
 |_=>none
def Aaz (x:Aa):Option Aa:=
 match x with
 |.slice _ _ n _=>some (lit .i64 (.ofNat n))
 |.gslice _ _ n _=>some (lit .i64 (.ofNat n))
 |.nilSlice=>some (lit .i64 (.ofNat 0))
 |.gbytes b=>some (.glen b)
 |.lst _ _ _ n=>some (.int .i64 n)
 |.vec _ _ n=>some (.int .i64 n)
 |_=>none
def Rx (t:TypeId) (zero:Option Aa) (x:Aa):Option Aa:=
 match x,zero with
 |.iface u v,none=>bif Nat.beq u t then some v else none
 |.iface u v,some z=>some (bif Nat.beq u t then .tuple [v,.bool (.lit true)]else .tuple [z,.bool (.lit false)])
 |.nilIface,some z=>some (.tuple [z,.bool (.lit false)])
 |_,_=>none
def Ud (x:Aa):Option Aa:=
 match x with
 |.nilSlice=>some .nilPtr
 |.gbytes b=>some (.ptr b 0)
 |_=>none
def Aj2 (Γ:Ao) (most:Bool) (c:List Aa):Option Aa:=
 match c with
 |[]=>none
 |x::r=>Ad2 Γ most r x
def JB (Γ:Ao) (i c:Nat) (n:ST) (g d:Option Aa):Option Aa:=
 match g,d with
 |none,some (.int _ t)=>AF (JI [.take i t] Γ.defs) fun j=>some (.lst false j c t)
 |some (.int _ (.lit (.ofNat 0))),some (.int _ t)=>AF (JI [.take i t] Γ.defs) fun j=>some (.lst false j c t)
 |some (.int _ t),none=>AF (JI [.drop i t] Γ.defs) fun j=>AF (EU j Γ.Ad) fun u=>some (.lst false j c u)
 |_,_=>none
def Sh (Γ:Ao) (f:Bool) (i c:Nat) (n:ST) (g d:Option Aa):Option Aa:=
 match g,d with
 |none,none=>some (.lst f i c n)
 |none,some (.int k t)=>bif t.eq n then some (.lst f i c n)else JB Γ i c n none (some (.int k t))
 |g,d=>JB Γ i c n g d
def Sf (Γ:Ao) (b c:Nat) (n:ST) (g d:Option Aa):Option Aa:=
 match g,d with
 |none,none=>some (.vec b c n)
 |none,some (.int _ t)=>bif D0 Γ .geq t (.lit (.ofNat 0))&&D0 Γ .leq t n then some (.vec b c t)else none
 |_,_=>none
def M1 (Γ:Ao) (size:Nat) (x:Aa) (d c:Option Aa):Option Aa:=
 match x with
 |.lst f i es n=>bif Nat.beq size es then Sh Γ f i es n d c else none
 |.vec b es n=>bif Nat.beq size es then Sf Γ b es n d c else none
 |_=>none
def Ai0 (x:Aa):Bool:=
 match x with
 |.lst _ _ _ _=>true
 |.vec _ _ _=>true
 |_=>false
def LL (tm:Tr Aa) (x:Option C7):Option Aa:=
 match x with
 |some x=>some (ev tm x)
 |none=>none
def Gb (Γ:Ao) (tm:Tr Aa) (size:Nat) (x:Aa) (j g c:Option C7):Option Aa:=
 match Ai0 x,c with
 |true,none=>M1 Γ size x (LL tm j) (LL tm g)
 |_,_=>Gc size x (Ct tm 0 j) (fun d=>Ct tm d g) (AcT tm c)
def IA (Γ:Ao) (tm:Tr Aa) (o:POp):Option Aa:=
 match o with
 |.mv x=>some (ev tm x)
 |.pick c a b=>Aaf (ev tm c) (ev tm a) (ev tm b)
 |.build zero parts=>NF (HO tm parts zero)
 |.Afp x=>Aak (ev tm x)
 |.bin op x y=>AfK Γ op (ev tm x) (ev tm y)
 |.eqs neg k x y=>Jf Γ neg k (ev tm x) (ev tm y)
 |.un op x=>unA Γ op (ev tm x)
 |.conv k x=>AaX Γ k (ev tm x)
 |.same x=>ZM (ev tm x)
 |.iface t x=>some (.iface t (ev tm x))
 |.func f a c=>some (.func f (RC tm a) (RC tm c))
 |.subs x lo hi=>YQ (ev tm x) (Ct tm 0 lo) (fun d=>Ct tm d hi)
 |.reslice size x lo hi mx=>Gb Γ tm size (ev tm x) lo hi mx
 |.UP off x=>Rd off (ev tm x)
 |.field off n x=>UO off n (ev tm x)
 |.Afz size x i=>Aa6 Γ size (ev tm x) (ev tm i) (CL (ev tm i))
 |.U6 len size x i=>QL len size (ev tm x) (CL (ev tm i))
 |.idx len size n x i=>Afx len size n (ev tm x) (CL (ev tm i))
 |.Afy x i=>Aa5 (ev tm x) (CL (ev tm i))
 |.ext x i=>Af5 (ev tm x) i
 |.Aft x=>Aay Γ (ev tm x)
 |.Afu x=>Aaz (ev tm x)
 |.big most xs=>Aj2 Γ most (RC tm xs)
 |.assert t zero x=>Rx t zero (ev tm x)
 |.ZL x=>Ud (ev tm x)
def cellsOf (o:Option Block):Option (List Aa):=
 match o with
 |some (.cells vs)=>some vs
 |some (.typed _ vs)=>some vs
 |_=>none
def AdL (o:Option Block) (vs:List Aa):Block:=
 match o with
 |some (.typed e _)=>.typed e vs
 |_=>.cells vs
def bytesOf (o:Option Block):Option (Nat×Nat):=
 match o with
 |some (.bytes n e)=>some (n,e)
 |_=>none
def mapOf (o:Option Block):Option (List Entry×Nat):=
 match o with
 |some (.map es c)=>some (es,c)
 |_=>none
def MQ (o:Option Block):Option (Nat×Nat):=
 match o with
 |some (.list i es)=>some (i,es)
 |_=>none
def elemV (Γ:Ao) (o:Option Block) (c:Nat) (j:ST):Option (List Aa):=
 AF (MQ o) fun l=>bif Nat.beq l.2 c then Pg l.1 j Γ.elems else none
def MP (Γ:Ao) (h:Al) (n:Option Nat) (x:Aa):Option Aa:=
 match x with
 |.vptr b es j off=>AF (elemV Γ (h.get b) es j) fun vs=>JE vs off n
 |.lptr i j off=>AF (Pg i j Γ.elems) fun vs=>JE vs off n
 |.ptr b off=>AF (cellsOf (h.get b)) fun vs=>JE vs off n
 |_=>none
def Pn (kk:LK) (x y:Aa):Option Bool:=
 match kk,x,y with
 |.int,.int k (.lit a),.int k' (.lit b)=>bif U4 k k' then some (YA a b)else none
 |.str,.str a,.str b=>some (O7 a b)
 |.bool,.bool (.lit a),.bool (.lit b)=>some (beq a b)
 |_,_,_=>none
def AaE (Γ:Ao) (kk:LK) (k:Aa) (c:List Entry):Option (Option Aa):=
 List.rec (motive:=fun _=>Option (Option Aa)) (some none) (fun e _ ih=>AF (Jh Γ kk k e.key) fun b=>bif b then some (some e.val)else ih) c
def Adr (c:List Entry):Nat:=
 List.rec (motive:=fun _=>Nat) 0 (fun _ _ ih=>ih+1) c
def UJ (ok:Bool) (v:Aa) (b:Bool):Aa:=bif ok then .tuple [v,.bool (.lit b)]else v
def Ai1 (ok:Bool) (zero:Aa) (r:Option Aa):Aa:=
 match r with
 |some v=>UJ ok v true
 |none=>UJ ok zero false
def IS (o:Option Block):Option Nat:=
 match o with
 |some (.smap i)=>some i
 |_=>none
def AdK (Γ:Ao) (i:Nat) (k zero:Aa) (ok:Bool):Option Aa:=
 AF (Aau i k Γ.looks) fun r=>match r with
  |some cs=>some (UJ ok (.agg cs) true)
  |none=>some (UJ ok zero false)
def PM (kk:LK) (k:Aa):Bool:=
 match kk,k with
 |.str,.str _=>true
 |.str,.svar _=>true
 |_,_=>false
def Uy (Γ:Ao) (h:Al) (kk:LK) (b:Nat) (k zero:Aa) (ok:Bool):Option Aa:=
 match IS (h.get b)with
 |some i=>bif PM kk k then AdK Γ i k zero ok else none
 |none=>AF (mapOf (h.get b)) fun m=>AF (AaE Γ kk k m.1) fun r=>some (Ai1 ok zero r)
def WV (Γ:Ao) (h:Al) (kk:LK) (m k zero:Aa) (ok:Bool):Option Aa:=
 match m with
 |.nilMap=>some (UJ ok zero false)
 |.map b=>Uy Γ h kk b k zero ok
 |_=>none
def WW (h:Al) (x:Aa):Option Aa:=
 match x with
 |.nilMap=>some (lit .i64 (.ofNat 0))
 |.map b=>AF (mapOf (h.get b)) fun m=>some (lit .i64 (.ofNat (Adr m.1)))
 |_=>none
def SI (e n:Nat) (l:List (Nat×Nat)):Bool:=
 List.rec (motive:=fun _=>Bool) false (fun x _ ih=>(Nat.beq x.1 e&&Nat.beq x.2 n) ||ih) l
def YI (ok:List (Nat×Nat)) (b:Nat) (B:Option Block):Option Aa:=
 match B with
 |some (.typed e vs)=>bif SI e (Ad vs) ok then some (.ptr b 0)else none
 |_=>none
def O9 (h:Al) (ok:List (Nat×Nat)) (x:Aa):Option Aa:=
 match x with
 |.ptr b 0=>YI ok b (h.get b)
 |_=>none
def u8A (v:Aa):Option Nat:=
 match v with
 |.int .u8 (.lit (.ofNat n))=>bif Nat.ble n 255 then some n else none
 |_=>none
def Aen (l:List Aa):Option (List Nat):=
 List.rec (motive:=fun _=>Option (List Nat)) (some []) (fun v _ ih=>AF (u8A v) fun n=>AF ih fun l=>some (n::l)) l
def NG (h:Al) (b c len:Nat):Option Aa:=
 bif Nat.beq len 0 then some (.str [])else AF (cellsOf (h.get b)) fun vs=>AF (cut vs c len) fun r=>AF (Aen r) fun s=>some (.str s)
def Xs (h:Al) (x:Aa):Option Aa:=
 match x with
 |.nilSlice=>some (.str [])
 |.slice b off len _=>NG h b off len
 |.gslice b off len _=>NG h b off len
 |_=>none
def Dx (Γ:Ao) (tm:Tr Aa) (h:Al) (o:NX):Option Aa:=
 match o with
 |.load n x=>MP Γ h n (ev tm x)
 |.lookup kk zero ok x k=>WV Γ h kk (ev tm x) (ev tm k) zero ok
 |.lenM x=>WW h (ev tm x)
 |.uptr ok x=>O9 h ok (ev tm x)
 |.bstr x=>Xs h (ev tm x)
def MK (id:Nat) (zero:List Aa) (l c:Option Nat):Option (Block×Aa):=
 AF l fun l=>AF c fun c=>bif Nat.ble l c&&Nat.ble c 1048576 then some (.cells (rep zero c),.slice id 0 l c)else none
def KQ (t:Option Nat) (cs:List Aa):Block:=
 match t with
 |some e=>.typed e cs
 |none=>.cells cs
def XU (tm:Tr Aa) (id:Nat) (o:AOp):Option (Block×Aa):=
 match o with
 |.box t x=>AF (ev tm x).cells fun cs=>some (KQ t cs,.ptr id 0)
 |.zero t cs=>some (KQ t cs,.ptr id 0)
 |.bslice len zero parts=>AF (HO tm parts zero) fun cs=>some (.cells cs,.slice id 0 len len)
 |.mkSlice zero l c=>MK id zero (CL (ev tm l)) (CL (ev tm c))
 |.mkMap=>some (.map [] 0,.map id)
inductive Hl where
 |val (v:Aa) (h:Al)
 |call (f:FuncId) (args:List Aa)
 |panic (v:Aa)
 |defer (f:FuncId) (args:List Aa)
def TB (h:Al) (n:Nat) (a x:Aa):Option Al:=
 match a with
 |.ptr b off=>AF (cellsOf (h.get b)) fun vs=>AF (FG vs x off n) fun c=>some (h.set b (some (AdL (h.get b) c)))
 |_=>none
def Mm (h:Al) (size b c len:Nat):Option (Nat×List Aa):=
 bif Nat.beq len 0 then some (0,[])else AF (cellsOf (h.get b)) fun vs=>AF (cut vs c (len*size)) fun r=>some (len,r)
def byteCells (l:List Nat):List Aa:=
 List.rec (motive:=fun _=>List Aa) [] (fun c _ ih=>.int .u8 (.lit (.ofNat c))::ih) l
def JS (Γ:Ao) (i c n:Nat):Nat→Option (List Aa):=
 Nat.rec (motive:=fun _=>Nat→Option (List Aa)) (fun _=>some [])
  (fun _ ih k=>AF (Pg i (.lit (.ofNat k)) Γ.elems) fun cs=>bif Nat.beq (Ad cs) c then AF (ih (k+1)) fun r=>some (cs++r)else none) n
def Aes (Γ:Ao) (size i c:Nat) (n:ST):Option (Nat×List Aa):=
 match n with
 |.lit (.ofNat m)=>bif Nat.beq size c then AF (JS Γ i c m 0) fun cs=>some (m,cs)else none
 |_=>none
def J2 (h:Al) (size:Nat) (bytes:Bool) (x:Aa):Option (Nat×List Aa):=
 match x,bytes with
 |.lst _ i es n,false=>Aes h.fx size i es n
 |.nilSlice,false=>some (0,[])
 |.slice b off len _,false=>Mm h size b off len
 |.gslice b off len _,false=>Mm h size b off len
 |.str s,true=>bif Nat.beq size 1 then some (Iz s,byteCells s)else none
 |_,_=>none
def Tt (h:Al) (size b d len c n:Nat) (new:List Aa):Option (Aa×Al):=
 AF (cellsOf (h.get b)) fun vs=>AF (splice new (d+len*size) vs) fun g=>some (.slice b d (len+n) c,h.set b (some (.cells g)))
def It (h:Al) (size len n:Nat) (old new:List Aa):Option (Aa×Al):=
 bif Nat.ble (len+n) 1048576 then some (.gslice h.next 0 (len+n) size,h.add (.cells (old++new)))else none
def Xw (h:Al) (size b c len d n:Nat) (new:List Aa):Option (Aa×Al):=
 AF (cellsOf (h.get b)) fun vs=>bif Nat.beq size d&&Nat.ble (len+n) 1048576 then
  AF (cut vs c (len*size)) fun old=>some (.gslice h.next 0 (len+n) size,(h.set b none).add (.cells (old++new)))else none
def Xu (x:Aa) (h:Al):Option (Aa×Al):=
 match x with
 |.lst f i es n=>some (.lst f i es n,h)
 |.vec b es n=>some (.vec b es n,h)
 |.nilSlice=>some (x,h)
 |.slice _ _ _ _=>some (x,h)
 |.gslice _ _ _ _=>some (x,h)
 |_=>none
def Aly (v:Aa):Bool:=
 match v with
 |.bool _=>true
 |.int _ _=>true
 |.str _=>true
 |.svar _=>true
 |.lst _ _ _ _=>true
 |.nilPtr=>true
 |.nilSlice=>true
 |_=>false
def loose (v:Aa):Aa:=
 match v with
 |.lst _ i es n=>.lst false i es n
 |v=>v
def CU (l:List Aa):List Aa:=List.rec (motive:=fun _=>List Aa) [] (fun v _ ih=>loose v::ih) l
def Rt (l:List Aa):Bool:=List.rec (motive:=fun _=>Bool) true (fun v _ ih=>Aly v&&ih) l
def HW (size n:Nat):List Aa→Option (List (List Aa)):=
 Nat.rec (motive:=fun _=>List Aa→Option (List (List Aa))) (fun cs=>List.casesOn (motive:=fun _=>Option (List (List Aa))) cs (some []) (fun _ _=>none))
  (fun _ ih cs=>AF (taken size cs) fun c=>AF (ih (dropped size cs)) fun r=>some (c::r)) n
def Iu (h:Al) (size:Nat) (part:AR) (n:Nat) (new:List Aa):Option (ST×Block):=
 bif Rt new then AF (HW size n (CU new)) fun c=>AF (JI [part,.els c] h.fx.defs) fun j=>AF (EU j h.fx.Ad) fun t=>
  bif D0 h.fx .leq t (.lit (.ofNat 1048576))then some (t,.list j size)else none else none
def Xv (h:Al) (size b c:Nat) (m:ST) (n:Nat) (new:List Aa):Option (Aa×Al):=
 AF (MQ (h.get b)) fun l=>bif Nat.beq size c&&Nat.beq l.2 c then
  AF (Iu h size (.take l.1 m) n new) fun r=>some (.vec h.next size r.1,(h.set b none).add r.2)else none
def X1 (h:Al) (size i c n:Nat) (new:List Aa):Option (Aa×Al):=
 bif Nat.beq size c then AF (Iu h size (.all i) n new) fun r=>some (.vec h.next size r.1,h.add r.2)else none
def PD (h:Al) (size:Nat) (x:Aa):Option (List AR):=
 match x with
 |.nilSlice=>some []
 |.slice b off len c=>bif Nat.beq len c then (bif Nat.beq len 0 then some []else AF (Mm h size b off len) fun s=>bif Rt s.2 then AF (HW size len (CU s.2)) fun d=>some [.els d]else none)else none
 |.lst true i d _=>bif Nat.beq size d then some [.all i]else none
 |.vec b d m=>AF (MQ (h.get b)) fun l=>bif Nat.beq size d&&Nat.beq l.2 d then some [.take l.1 m]else none
 |_=>none
def ZK (p:List AR) (l:List (Nat×List AR)):Option Nat:=
 List.rec (motive:=fun _=>Option Nat) none (fun e _ ih=>bif AR.P0 p e.2 then some e.1 else ih) l
def LY (h:Al) (size:Nat) (x:Aa) (n:Nat) (new:List Aa):Option (Aa×Al):=
 bif Rt new then AF (PD h size x) fun p=>AF (HW size n (CU new)) fun c=>AF (ZK (p++[.els c]) h.fx.defs) fun j=>AF (EU j h.fx.Ad) fun t=>
  bif D0 h.fx .leq t (.lit (.ofNat 1048576))then some (.vec h.next size t,h.add (.list j size))else none
 else none
def orR (a b:Option (Aa×Al)):Option (Aa×Al):=
 match a with
 |some r=>some r
 |none=>b
def Xx (h:Al) (size:Nat) (x:Aa) (n:Nat) (new:List Aa):Option (Aa×Al):=
 match x with
 |.vec b es m=>Xv h size b es m n new
 |.lst true i es _=>X1 h size i es n new
 |.nilSlice=>orR (LY h size .nilSlice n new) (It h size 0 n [] new)
 |.slice b off len c=>
  bif Nat.ble (len+n) c then Tt h size b off len c n new
  else orR (LY h size (.slice b off len c) n new) (AF (Mm h size b off len) fun old=>It h size len n old.2 new)
 |.gslice b off len es=>Xw h size b off len es n new
 |_=>none
def Iv (h:Al) (size:Nat) (x:Aa) (n:Nat) (new:List Aa):Option (Aa×Al):=
 bif Nat.beq n 0 then Xu x h else Xx h size x n new
def Adm (v:Aa):Bool:=
 match v with
 |.int .u8 (.lit (.ofNat n))=>Nat.ble n 255
 |_=>false
def X2 (l:List Aa):Bool:=List.rec (motive:=fun _=>Bool) true (fun v _ ih=>Adm v&&ih) l
def AcL (h:Al) (bytes:Bool) (y:Aa):Option (Nat×Nat):=
 match y,bytes with
 |.svar i,true=>AF (WU i h.fx.BA) fun r=>some r.2
 |.str s,true=>some (Iz s,Iz s)
 |.anyStr n,true=>some (1,n)
 |y,false=>AF (J2 h 1 false y) fun s=>bif X2 s.2 then some (s.1,s.1)else none
 |_,_=>none
def H9 (o:Option Block):Option (ST×Nat):=
 match o with
 |some (.sbytes t e)=>some (t,e)
 |_=>none
def Xz (h:Al) (e b n:Nat):Option (Aa×Al):=
 match H9 (h.get b)with
 |some m=>bif Nat.beq m.2 e then AF (Aax m.1 n h.fx.CO) fun t=>some (.gbytes h.next,(h.set b none).add (.sbytes t e))else none
 |none=>AF (bytesOf (h.get b)) fun m=>bif Nat.beq m.2 e&&Nat.ble (m.1+n) 1048576 then some (.gbytes h.next,(h.set b none).add (.bytes (m.1+n) e))else none
def R5 (h:Al) (e:Nat) (x:Aa) (c n:Nat):Option (Aa×Al):=
 match x with
 |.nilSlice=>bif Nat.beq c 0 then (bif Nat.beq n 0 then some (x,h)else none)else bif Nat.ble n 1048576 then some (.gbytes h.next,h.add (.bytes n e))else none
 |.gbytes b=>Xz h e b n
 |_=>none
def hidden (x:Aa):Bool:=
 match x with
 |.nilSlice=>true
 |.gbytes _=>true
 |_=>false
def AiG (h:Al) (x:Aa):Al:=
 match x with
 |.vec b _ _=>h.set b none
 |_=>h
def LX (h:Al) (size:Nat) (x:Aa) (i c:Nat) (n:ST):Option (Aa×Al):=
 bif Nat.beq size c&&D0 h.fx .gtr n (.lit (.ofNat 0))then
  AF (PD h size x) fun p=>AF (JI (p++[.all i]) h.fx.defs) fun j=>AF (EU j h.fx.Ad) fun t=>
   bif D0 h.fx .leq t (.lit (.ofNat 1048576))then some (.vec h.next size t,(AiG h x).add (.list j size))else none
 else none
def WN (y:Aa) (bytes:Bool):Option (Nat×Nat×ST):=
 match y,bytes with
 |.lst _ _ _ (.lit _),_=>none
 |.lst _ i es n,false=>some (i,es,n)
 |_,_=>none
def UK (b c len d j:Nat) (v:Aa):Aa:=
 match v with
 |.slice b' off' len' c'=>bif Nat.beq b b'&&(Nat.beq c off'&&Nat.beq len len')then .lst (Nat.beq c' len) j d (.lit (.ofNat len))else v
 |.gslice b' off' len' _=>bif Nat.beq b b'&&(Nat.beq c off'&&Nat.beq len len')then .lst false j d (.lit (.ofNat len))else v
 |v=>v
def LO (b c len d j:Nat) (l:List Aa):List Aa:=
 List.rec (motive:=fun _=>List Aa) [] (fun v _ ih=>UK b c len d j v::ih) l
def Tr.map {α:Type} (g:α→α) (t:Tr α):Tr α:=
 Tr.rec (motive:=fun _=>Tr α) .nil (fun v _ _ l r=>.node (v.map g) l r) (fun n v _ t=>.over n (v.map g) t) t
def Pt (Γ:Ao) (g len d j:Nat) (vs:List Aa):Bool:=
 Ds (AF (cut vs g (len*d)) fun cs=>bif Rt cs then AF (HW d len (CU cs)) fun c=>AF (JI [.els c] Γ.defs) fun j'=>some (Nat.beq j' j)else none)
def Ft (h:Al) (z:Nat×Nat×Nat×Nat×Nat) (new:List Aa):Al×List Aa:=
 match h.get z.1 with
 |some (.cells vs)=>bif Pt h.fx z.2.1 z.2.2.1 z.2.2.2.1 z.2.2.2.2 vs then (h.set z.1 none,LO z.1 z.2.1 z.2.2.1 z.2.2.2.1 z.2.2.2.2 new)else (h,new)
 |_=>(h,new)
def Gl (l:List (Nat×Nat×Nat×Nat×Nat)):Al→List Aa→Al×List Aa:=
 List.rec (motive:=fun _=>Al→List Aa→Al×List Aa) (fun h n=>(h,n)) (fun z _ ih h n=>ih (Ft h z n).1 (Ft h z n).2) l
def Ad6 (size:Nat) (x:Aa) (n:Nat) (r:Al×List Aa):Option (Aa×Al):=Iv r.1 size x n r.2
def R4 (h:Al) (size:Nat) (x:Aa) (n:Nat) (new:List Aa):Option (Aa×Al):=
 match x with
 |.vec b es m=>bif Rt new then Iv h size (.vec b es m) n new else Ad6 size (.vec b es m) n (Gl h.fx.BJ h new)
 |x=>Iv h size x n new
def Xy (h:Al) (size:Nat) (bytes:Bool) (x y:Aa):Option (Aa×Al):=
 match WN y bytes with
 |some l=>LX h size x l.1 l.2.1 l.2.2
 |none=>AF (J2 h size bytes y) fun s=>R4 h size x s.1 s.2
def Tq (h:Al) (size:Nat) (c:Option Nat) (bytes:Bool) (x y:Aa):Option (Aa×Al):=
 match c,hidden x with
 |some e,true=>AF (AcL h bytes y) fun s=>R5 h e x s.1 s.2
 |_,_=>Xy h size bytes x y
def AdD (h:Al) (b:Nat) (m:Nat×Nat) (e:Nat):Option Hl:=
 bif Nat.beq m.2 e then some (.val (.anyStr m.1) (h.set b none))else none
def AdC (h:Al) (b e:Nat):Option Hl:=
 match H9 (h.get b)with
 |some m=>bif Nat.beq m.2 e then some (.val (.anyStr 1048576) (h.set b none))else none
 |none=>AF (bytesOf (h.get b)) fun m=>AdD h b m e
def YH (h:Al) (e:Nat) (p n:Aa):Option Hl:=
 match p,n with
 |.nilPtr,.int .i64 (.lit (.ofNat 0))=>some (.val (.str []) h)
 |.ptr b 0,.glen c=>bif Nat.beq b c then AdC h b e else none
 |_,_=>none
def Uq (h:Al) (x:Aa):Option Hl:=some (.val x h)
def Xj (h:Al) (size b d m:Nat) (src:List Aa):Option (Aa×Al):=
 bif Nat.beq m 0 then some (lit .i64 (.ofNat 0),h)
 else AF (cellsOf (h.get b)) fun vs=>AF (taken (m*size) src) fun r=>AF (splice r d vs) fun c=>some (lit .i64 (.ofNat m),h.set b (some (.cells c)))
def AaW (h:Al) (size:Nat) (x:Aa) (n:Nat) (src:List Aa):Option (Aa×Al):=
 match x with
 |.nilSlice=>some (lit .i64 (.ofNat 0),h)
 |.slice b off len _=>Xj h size b off (bif Nat.ble n len then n else len) src
 |.gslice b off len _=>Xj h size b off (bif Nat.ble n len then n else len) src
 |_=>none
def Aem (kk:LK) (k v:Aa) (c:Nat) (d:List Entry):Option (List Entry×Bool):=
 List.rec (motive:=fun _=>Option (List Entry×Bool)) (some ([⟨k,v,c⟩],true))
  (fun e d ih=>AF (Pn kk k e.key) fun b=>bif b then some (⟨k,v,e.born⟩::d,false)else AF ih fun r=>some (e::r.1,r.2)) d
def Aaq (h:Al) (b i:Nat) (k v:Aa):Option Al:=
 match v with
 |.agg cs=>bif Rt cs then AF (Aat i k (CU cs) h.fx.LI) fun j=>some (h.set b (some (.smap j)))else none
 |_=>none
def Aar (h:Al) (kk:LK) (b:Nat) (k v:Aa):Option Al:=
 match IS (h.get b)with
 |some i=>bif PM kk k then Aaq h b i k v else none
 |none=>AF (mapOf (h.get b)) fun m=>bif k.single then AF (Aem kk k v m.2 m.1) fun r=>
   some (h.set b (some (.map r.1 (bif r.2 then m.2+1 else m.2))))else none
def Ut (h:Al) (kk:LK) (m k v:Aa):Option Al:=
 match m with
 |.map b=>Aar h kk b k v
 |_=>none
def ND (f:Aa) (args:List Aa):Option (FuncId×List Aa):=
 match f with
 |.func g first cap=>some (g,first++(args++cap))
 |_=>none
def Aba (h:Al) (t:TypeId) (b:Nat):Option Hl:=
 match IS (h.get b)with
 |some i=>some (.val (.iface t (.map h.next)) (h.add (.smap i)))
 |none=>AF (mapOf (h.get b)) fun m=>some (.val (.iface t (.map h.next)) (h.add (.map m.1 m.2)))
def Vf (h:Al) (x:Aa):Option Hl:=
 match x with
 |.iface t (.map b)=>Aba h t b
 |_=>none
def Uk (x:Aa):Option Hl:=
 match x with
 |.iface t v=>some (.panic (.iface t v))
 |_=>none
def Kx (tm:Tr Aa) (h:Al) (o:MOp):Option Hl:=
 match o with
 |.store n a x=>AF (TB h n (ev tm a) (ev tm x)) fun c=>some (.val .any c)
 |.call f args=>AF (ND (ev tm f) (RC tm args)) fun r=>some (.call r.1 r.2)
 |.append size u8 bytes x y=>AF (Tq h size u8 bytes (ev tm x) (ev tm y)) fun r=>some (.val r.1 r.2)
 |.copy size bytes x y=>AF (J2 h size bytes (ev tm y)) fun s=>AF (AaW h size (ev tm x) s.1 s.2) fun r=>some (.val r.1 r.2)
 |.mapUp kk m k v=>AF (Ut h kk (ev tm m) (ev tm k) (ev tm v)) fun c=>some (.val .any c)
 |.clone x=>Vf h (ev tm x)
 |.panic x=>Uk (ev tm x)
 |.defer f args=>AF (ND (ev tm f) (RC tm args)) fun r=>some (.defer r.1 r.2)
 |.recover=>none
 |.Ael e p n=>YH h e (ev tm p) (ev tm n)
 |.Aaj x=>Uq h (ev tm x)
structure BC where
 args:List Aa
 pre:List Block
 res:Aa
 post:List (Option Block)
def Aef (v:Aa):Option Nat:=
 match v with
 |.ptr b _=>some b
 |.slice b _ _ _=>some b
 |.gslice b _ _ _=>some b
 |.map b=>some b
 |.vec b _ _=>some b
 |.vptr b _ _ _=>some b
 |.gbytes b=>some b
 |_=>none
def Xc (v:Aa):List Aa:=
 match v with
 |.agg cs=>cs
 |v=>[v]
def Amj (p a:Aa) (σ:List Nat):List Nat:=
 match Aef p,Aef a with
 |some i,some j=>bif Nat.ble (Iz σ) i then σ++[j]else σ
 |_,_=>σ
def Ady (h:Al) (b:Option Nat):List Aa:=
 match b with
 |some b=>(match h.get b with|some (.cells us)=>us|some (.typed _ us)=>us|_=>[])
 |none=>[]
def Af9 (B:Block):List Aa:=
 match B with
 |.cells vs=>vs
 |.typed _ vs=>vs
 |_=>[]
def ZW (σ:List Nat) (v:Aa):Option Aa:=
 match v with
 |.ptr b o=>AF (Cm σ b) fun c=>some (.ptr c o)
 |.slice b o l c=>AF (Cm σ b) fun d=>some (.slice d o l c)
 |.gslice b o l e=>AF (Cm σ b) fun d=>some (.gslice d o l e)
 |.map b=>AF (Cm σ b) fun d=>some (.map d)
 |.vec b e n=>AF (Cm σ b) fun d=>some (.vec d e n)
 |.vptr b e j o=>AF (Cm σ b) fun d=>some (.vptr d e j o)
 |.anyStr n=>some (.anyStr n)
 |.gbytes b=>AF (Cm σ b) fun d=>some (.gbytes d)
 |.bool b=>some (.bool b)
 |.int k n=>some (.int k n)
 |.str s=>some (.str s)
 |.svar i=>some (.svar i)
 |.lst f i e n=>some (.lst f i e n)
 |.lptr i j o=>some (.lptr i j o)
 |.nilPtr=>some .nilPtr
 |.nilSlice=>some .nilSlice
 |.nilMap=>some .nilMap
 |.nilFunc=>some .nilFunc
 |.nilIface=>some .nilIface
 |_=>none
def WI (σ:List Nat) (l:List Aa):Option (List Aa):=
 List.rec (motive:=fun _=>Option (List Aa)) (some []) (fun v _ ih=>AF (ZW σ v) fun u=>AF ih fun us=>some (u::us)) l
def JC (σ:List Nat) (v:Aa):Option Aa:=
 match v with
 |.func f a c=>AF (WI σ a) fun a=>AF (WI σ c) fun c=>some (.func f a c)
 |v=>ZW σ v
def AaT (Γ:Ao) (j:Nat):Bool:=
 match EU j Γ.Ad with
 |some (.lit (.ofNat 0))=>true
 |_=>false
def Aa4 (a:Aa):Bool:=
 match a with
 |.nilSlice=>true
 |_=>false
def HR (Γ:Ao) (σ:List Nat) (p a:Aa):Bool:=
 match JC σ p with
 |some v=>v.eq a||v.eq (loose a) ||(match v with|.lst false j _ n=>Aa4 a&&(AaT Γ j&&n.eq (.lit (.ofNat 0))) |_=>false)
 |none=>false
def AbR (ps:List Aa):List Aa→List Nat→List Nat:=
 List.rec (motive:=fun _=>List Aa→List Nat→List Nat) (fun _ σ=>σ) (fun p _ ih as σ=>List.casesOn (motive:=fun _=>List Nat) as σ (fun a as=>ih as (Amj p a σ))) ps
def Vz (ps:List Aa):List Aa→List Nat→List Nat:=
 List.rec (motive:=fun _=>List Aa→List Nat→List Nat) (fun _ σ=>σ) (fun p _ ih as σ=>List.casesOn (motive:=fun _=>List Nat) as σ (fun a as=>ih as (AbR (Xc p) (Xc a) σ))) ps
def RD (h:Al) (l:List Block):Nat→List Nat→List Nat:=
 List.rec (motive:=fun _=>Nat→List Nat→List Nat) (fun _ σ=>σ) (fun B _ ih i σ=>ih (i+1) (AbR (Af9 B) (Ady h (Cm σ i)) σ)) l
def GG (Γ:Ao) (σ:List Nat) (ps:List Aa):List Aa→Bool:=
 List.rec (motive:=fun _=>List Aa→Bool) (fun as=>List.casesOn (motive:=fun _=>Bool) as true (fun _ _=>false))
  (fun p _ ih as=>List.casesOn (motive:=fun _=>Bool) as false (fun a as=>HR Γ σ p a&&ih as)) ps
def Aan (n:Nat) (l:List Nat):Bool:=List.rec (motive:=fun _=>Bool) false (fun m _ ih=>Nat.beq m n||ih) l
def IU (l:List Nat):Bool:=List.rec (motive:=fun _=>Bool) true (fun n r ih=>!(Aan n r)&&ih) l
def GO (l:List Block):Nat:=List.rec (motive:=fun _=>Nat) 0 (fun _ _ ih=>ih+1) l
def M5 (σ:List Nat) (l:List Aa):Option (List Aa):=
 List.rec (motive:=fun _=>Option (List Aa)) (some []) (fun v _ ih=>AF (JC σ v) fun u=>AF ih fun us=>some (u::us)) l
def Af8 (l:List Entry):List (Aa×List Aa)→Bool:=
 List.rec (motive:=fun _=>List (Aa×List Aa)→Bool) (fun y=>List.casesOn (motive:=fun _=>Bool) y true (fun _ _=>false))
  (fun e _ ih y=>List.casesOn (motive:=fun _=>Bool) y false (fun x y=>e.key.eq x.1&&((match e.val with|.agg cs=>Rt cs&&Aa.P0 (CU cs) x.2|_=>false)&&ih y))) l
def Ux (i:Nat) (l:List (Nat×List (Aa×List Aa))):Option (List (Aa×List Aa)):=
 List.rec (motive:=fun _=>Option (List (Aa×List Aa))) none (fun e _ ih=>bif Nat.beq e.1 i then some e.2 else ih) l
def Aae (i j:Nat) (l:List (Nat×List AR)):Bool:=
 List.rec (motive:=fun _=>Bool) false (fun e _ ih=>(Nat.beq e.1 i&&(match e.2 with|[.take k _]=>Nat.beq k j|_=>false)) ||ih) l
def Nx (Γ:Ao) (σ:List Nat) (p a:Aa):Bool:=
 match p,a with
 |.agg ps,.agg as=>GG Γ σ ps as
 |p,a=>HR Γ σ p a
def Rh (Γ:Ao) (σ:List Nat) (ps:List Entry):List Entry→Bool:=
 List.rec (motive:=fun _=>List Entry→Bool) (fun as=>List.casesOn (motive:=fun _=>Bool) as true (fun _ _=>false))
  (fun p _ ih as=>List.casesOn (motive:=fun _=>Bool) as false (fun a as=>HR Γ σ p.key a.key&&(HR Γ σ p.val a.val&&(Nat.beq p.born a.born&&ih as)))) ps
def Nw (Γ:Ao) (σ:List Nat) (B A:Block):Bool:=
 match B,A with
 |.cells ps,.cells as=>GG Γ σ ps as
 |.typed e ps,.typed e' as=>Nat.beq e e'&&GG Γ σ ps as
 |.list i es,.list j es'=>(Nat.beq i j||Aae i j Γ.defs)&&Nat.beq es es'
 |.smap i,.smap j=>Nat.beq i j
 |.map ps c,.map as d=>Nat.beq c d&&Rh Γ σ ps as
 |.smap i,.map es _=>Ds (AF (Ux i Γ.CM) fun l=>some (Af8 es l))
 |.sbytes t e,.sbytes t' e'=>t.eq t'&&Nat.beq e e'
 |.sbytes t e,.bytes n e'=>t.eq (.lit (.ofNat n))&&Nat.beq e e'
 |.bytes n e,.bytes n' e'=>Nat.beq n n'&&Nat.beq e e'
 |_,_=>false
def eqB (Γ:Ao) (h:Al) (σ:List Nat) (i:Nat) (B:Block):Bool:=
 match Cm σ i with
 |some b=>(match h.get b with|some A=>Nw Γ σ B A|none=>false)
 |none=>false
def AcO (σ:List Nat) (v:Aa):Option Aa:=
 match v with
 |.agg cs=>AF (M5 σ cs) fun cs=>some (.agg cs)
 |v=>JC σ v
def ZT (σ:List Nat) (l:List Aa):Option (List Aa):=
 List.rec (motive:=fun _=>Option (List Aa)) (some []) (fun v _ ih=>AF (AcO σ v) fun u=>AF ih fun us=>some (u::us)) l
def Uh (σ:List Nat) (v:Aa):Option Aa:=
 match v with
 |.agg cs=>AF (M5 σ cs) fun cs=>some (.agg cs)
 |.tuple cs=>AF (ZT σ cs) fun cs=>some (.tuple cs)
 |v=>JC σ v
def ZU (σ:List Nat) (l:List Entry):Option (List Entry):=
 List.rec (motive:=fun _=>Option (List Entry)) (some []) (fun e _ ih=>AF (JC σ e.key) fun k=>AF (JC σ e.val) fun v=>AF ih fun c=>some (⟨k,v,e.born⟩::c)) l
def XJ (σ:List Nat) (B:Block):Option Block:=
 match B with
 |.cells vs=>AF (M5 σ vs) fun vs=>some (.cells vs)
 |.typed e vs=>AF (M5 σ vs) fun vs=>some (.typed e vs)
 |.list i d=>some (.list i d)
 |.smap i=>some (.smap i)
 |.sbytes t e=>some (.sbytes t e)
 |.bytes n e=>some (.bytes n e)
 |.map d c=>AF (ZU σ d) fun d=>some (.map d c)
def AcR (σ:List Nat) (i:Nat) (B:Option Block) (h:Al):Option Al:=
 AF (Cm σ i) fun b=>match B with
  |some B=>AF (XJ σ B) fun B=>some (h.set b (some B))
  |none=>some (h.set b none)
def KK (Γ:Ao) (σ:List Nat) (ps:List Aa):List Aa→Bool:=
 List.rec (motive:=fun _=>List Aa→Bool) (fun as=>List.casesOn (motive:=fun _=>Bool) as true (fun _ _=>false))
  (fun p _ ih as=>List.casesOn (motive:=fun _=>Bool) as false (fun a as=>Nx Γ σ p a&&ih as)) ps
def Ym (Γ:Ao) (h:Al) (σ:List Nat) (l:List Block):Nat→Bool:=
 List.rec (motive:=fun _=>Nat→Bool) (fun _=>true) (fun B _ ih i=>eqB Γ h σ i B&&ih (i+1)) l
def Bi (l:List Block):Al→Al:=
 List.rec (motive:=fun _=>Al→Al) (fun h=>h) (fun B _ ih h=>ih (h.add B)) l
def CA (l:List (Option Block)):Al→Al:=
 List.rec (motive:=fun _=>Al→Al) (fun h=>h) (fun B _ ih h=>ih ⟨Tr.set h.DP h.next B,h.next+1,h.fx⟩) l
def OV (σ:List Nat) (l:List (Option Block)):Nat→Al→Option Al:=
 List.rec (motive:=fun _=>Nat→Al→Option Al) (fun _ h=>some h) (fun B _ ih i h=>AF (AcR σ i B h) fun c=>ih (i+1) c) l
def Lm (l:List (Option Block)):Nat→Nat→List Nat:=
 List.rec (motive:=fun _=>Nat→Nat→List Nat) (fun _ _=>[]) (fun _ _ ih k n=>Nat.casesOn (motive:=fun _=>List Nat) k (n::ih 0 (n+1)) (fun k=>ih k n)) l
def Sv (l:List (Option Block)):Nat:=List.rec (motive:=fun _=>Nat) 0 (fun _ _ ih=>ih+1) l
def AdR (x:BC) (args:List Aa) (h:Al) (σ:List Nat):Bool:=
 Nat.beq (Iz σ) (GO x.pre)&&(Nat.ble (GO x.pre) (Sv x.post)&&(IU σ&&(KK h.fx σ x.args args&&Ym h.fx h σ x.pre 0)))
inductive NV where
 |ret (v:Aa)
 |panic (v:Aa)
abbrev C1:=FuncId→List Aa→Al→Option (NV×Al)
structure Fr where
 tm:Tr Aa
 h:Al
 df:List (FuncId×List Aa)
def DX (tm:Tr Aa) (d:Option Nat) (v:Aa):Tr Aa:=
 match d with
 |some d=>Tr.set tm d (some v)
 |none=>tm
def IK:Aa:=.tuple []
def VA (c:Bool) (v:Option Aa):Option Bool:=
 match v with
 |some (.bool (.lit b))=>some (beq c b)
 |some (.tuple [])=>some false
 |_=>none
def Dk (tm:Tr Aa) (g:Option (Nat×Bool)):Option Bool:=
 match g with
 |none=>some true
 |some g=>VA g.2 (Tr.get tm g.1)
inductive Co where
 |go (f:Fr)
 |panic (v:Aa) (f:Fr)
def Yd (f:Fr) (d:Option Nat) (v:Aa):Co:=.go ⟨DX f.tm d v,f.h,f.df⟩
def KA (f:Fr) (d:Option Nat) (v:Aa) (h:Al):Co:=.go ⟨DX f.tm d v,h,f.df⟩
def Adz (f:Fr) (d:Option Nat) (r:NV) (h:Al):Co:=
 match r with
 |.ret v=>KA f d v h
 |.panic v=>.panic v ⟨f.tm,h,f.df⟩
def Afr (call:C1) (f:Fr) (d:Option Nat) (r:Hl):Option Co:=
 match r with
 |.val v h=>some (KA f d v h)
 |.call g args=>AF (call g args f.h) fun r=>some (Adz f d r.1 r.2)
 |.panic v=>some (.panic v f)
 |.defer g args=>some (.go ⟨DX f.tm d .any,f.h,(g,args)::f.df⟩)
def WE (Γ:Ao) (call:C1) (d:Option Nat) (f:Fr) (o:DO):Option Co:=
 match o with
 |.p o=>AF (IA Γ f.tm o) fun v=>some (Yd f d v)
 |.r o=>AF (Dx Γ f.tm f.h o) fun v=>some (Yd f d v)
 |.a o=>AF (XU f.tm f.h.next o) fun r=>some (KA f d r.2 (f.h.add r.1))
 |.m o=>AF (Kx f.tm f.h o) fun r=>Afr call f d r
def I7 (Γ:Ao) (call:C1) (s:Step) (f:Fr):Option Co:=
 AF (Dk f.tm s.guard) fun w=>bif w then WE Γ call s.dst f s.op else some (Yd f s.dst IK)
def goes (r:Co) (k:Fr→Option Co):Option Co:=
 match r with
 |.go f=>k f
 |.panic v f=>some (.panic v f)
def Uc (Γ:Ao) (call:C1) (l:List Step):Fr→Option Co:=
 List.rec (motive:=fun _=>Fr→Option Co) (fun f=>some (.go f)) (fun s _ ih f=>AF (I7 Γ call s f) fun x=>goes x ih) l
def Aa.eqs (x y:Aa):Bool:=
 match x,y with
 |.agg a,.agg b=>Aa.P0 a b
 |.tuple a,.tuple b=>Aa.P0 a b
 |x,y=>x.eq y
def ZN (v:Aa) (o:Option Aa):Bool:=
 match o with
 |some u=>v.eqs u
 |none=>false
def Vp (Γ:Ao) (tm:Tr Aa) (o:NX) (v:Aa) (n:Nat):List Al→Bool:=
 Nat.rec (motive:=fun _=>List Al→Bool) (fun _=>true)
  (fun _ ih hs=>List.casesOn (motive:=fun _=>Bool) hs false (fun h hs=>ZN v (Dx Γ tm h o)&&ih hs)) n
def forget (l:List Step):Tr Aa→Tr Aa:=
 List.rec (motive:=fun _=>Tr Aa→Tr Aa) (fun t=>t) (fun s _ ih t=>ih (match s.dst with|some d=>Tr.set t d none|none=>t)) l
def BZ (o:DO):Bool:=
 match o with
 |.m _=>true
 |_=>false
def Wf (Γ:Ao) (f:Fr) (o:NX) (back:Nat) (hs:List Al) (w:Option Bool):Bool:=
 match w with
 |some true=>(match Dx Γ f.tm f.h o with
  |some v=>Vp Γ f.tm o v back hs
  |none=>false)
 |some false=>true
 |none=>false
def LS (Γ:Ao) (s:Step) (f:Fr) (hs:List Al):Bool:=
 match s.op,s.back with
 |.r o,n+1=>Wf Γ f o (n+1) hs (Dk f.tm s.guard)
 |_,_=>true
def UN (Γ:Ao) (tm:Tr Aa) (h:Al) (id:Nat) (o:DO):Option (Aa×Option Block):=
 match o with
 |.p o=>AF (IA Γ tm o) fun v=>some (v,none)
 |.r o=>AF (Dx Γ tm h o) fun v=>some (v,none)
 |.a o=>AF (XU tm id o) fun r=>some (r.2,some r.1)
 |.m _=>none
def HL (Γ:Ao) (tm:Tr Aa) (h:Al) (id:Nat) (s:Step):Option (Aa×Option Block):=
 AF (Dk tm s.guard) fun w=>bif w then UN Γ tm h id s.op else some (IK,none)
def Gv (h:Al) (id:Nat) (b:Option Block):Al:=
 match b with
 |some B=>⟨Tr.set h.DP id (some B),h.next,h.fx⟩
 |none=>h
def Adn (f:Fr) (d:Option Nat) (id:Nat) (r:Aa×Option Block):Co:=.go ⟨DX f.tm d r.1,Gv f.h id r.2,f.df⟩
def I6 (Γ:Ao) (call:C1) (s:Step) (id:Nat) (f:Fr):Option Co:=
 bif BZ s.op then I7 Γ call s f else AF (HL Γ f.tm f.h id s) fun r=>some (Adn f s.dst id r)
def KO (l:List Step):Nat→Bool:=
 List.rec (motive:=fun _=>Nat→Bool) (fun _=>true) (fun s _ ih k=>bif BZ s.op then ih (k+1)else Nat.ble s.back k&&ih k) l
def SL (all rest:List Step) (r:Co) (k:Fr→Option Co):Option Co:=
 match r with
 |.go f=>k f
 |.panic v f=>bif KO rest 0 then some (.panic v ⟨forget all f.tm,f.h,f.df⟩)else none
def Aj3 (id:Nat) (B:Block) (l:List Al):List Al:=
 List.rec (motive:=fun _=>List Al) [] (fun h _ ih=>⟨Tr.set h.DP id (some B),h.next,h.fx⟩::ih) l
def Ln (h c:Al) (id:Nat):Option Block:=
 match h.get id with
 |none=>c.get id
 |some _=>none
def Mx (id:Nat) (B:Option Block) (hs:List Al):List Al:=
 match B with
 |some B=>Aj3 id B hs
 |none=>hs
def Lv (Γ:Ao) (call:C1) (all l:List Step):Nat→Fr→List Al→Option Co:=
 List.rec (motive:=fun _=>Nat→Fr→List Al→Option Co) (fun _ f _=>some (.go f))
  (fun s r ih id f hs=>bif LS Γ s f hs then AF (I6 Γ call s id f) fun x=>SL all r x fun c=>ih (id+1) c (bif BZ s.op then f.h::hs else Mx id (Ln f.h c.h id) hs)else none) l
def BA (l:List Step):Nat:=List.rec (motive:=fun _=>Nat) 0 (fun _ _ ih=>ih+1) l
def HA (n:Nat) (f:Fr):Fr:=⟨f.tm,⟨f.h.DP,f.h.next+n,f.h.fx⟩,f.df⟩
inductive Bm where
 |normal
 |exit (id:Nat)
 |ret
 |panic (v:Aa)
def FO (r:Co):Bm×Fr:=
 match r with
 |.go f=>(.normal,f)
 |.panic v f=>(.panic v,f)
def Af3 (b c len d j:Nat) (v:Aa):Aa:=
 match v with
 |.agg cs=>.agg (LO b c len d j cs)
 |.tuple cs=>.tuple (LO b c len d j cs)
 |v=>UK b c len d j v
def Ai4 (b c len d j:Nat) (B:Block):Block:=
 match B with
 |.cells vs=>.cells (LO b c len d j vs)
 |.typed e vs=>.typed e (LO b c len d j vs)
 |B=>B
def QY (b i c:Nat) (t:ST) (v:Aa):Aa:=
 match v with
 |.vec b' es' n=>bif Nat.beq b b'&&(Nat.beq c es'&&n.eq t)then .lst false i c t else v
 |v=>v
def HH (b i c:Nat) (t:ST) (l:List Aa):List Aa:=
 List.rec (motive:=fun _=>List Aa) [] (fun v _ ih=>QY b i c t v::ih) l
def AdQ (b i c:Nat) (t:ST) (v:Aa):Aa:=
 match v with
 |.agg cs=>.agg (HH b i c t cs)
 |.tuple cs=>.tuple (HH b i c t cs)
 |v=>QY b i c t v
def Ai3 (b i c:Nat) (t:ST) (B:Block):Block:=
 match B with
 |.cells vs=>.cells (HH b i c t vs)
 |.typed e vs=>.typed e (HH b i c t vs)
 |B=>B
def Ra (Γ:Ao) (z:Nat×Nat×Nat×Nat×Nat) (f:Fr):Fr:=
 match f.h.get z.1 with
 |some (.cells vs)=>bif Pt Γ z.2.1 z.2.2.1 z.2.2.2.1 z.2.2.2.2 vs then
   ⟨Tr.map (Af3 z.1 z.2.1 z.2.2.1 z.2.2.2.1 z.2.2.2.2) f.tm,⟨Tr.map (Ai4 z.1 z.2.1 z.2.2.1 z.2.2.2.1 z.2.2.2.2) (Tr.set f.h.DP z.1 none),f.h.next,f.h.fx⟩,f.df⟩else f
 |some (.list i es)=>bif Nat.beq i z.2.2.2.2 then (match EU i Γ.Ad with
  |some t=>⟨Tr.map (AdQ z.1 i es t) f.tm,⟨Tr.map (Ai3 z.1 i es t) (Tr.set f.h.DP z.1 none),f.h.next,f.h.fx⟩,f.df⟩
  |none=>f)else f
 |_=>f
def UL (Γ:Ao) (l:List (Nat×Nat×Nat×Nat×Nat)):Fr→Fr:=
 List.rec (motive:=fun _=>Fr→Fr) (fun f=>f) (fun z _ ih f=>ih (Ra Γ z f)) l
def Qq (Γ:Ao) (r:Bm×Fr):Bm×Fr:=
 match r.1,Γ.BJ with
 |.normal,z::l=>(.normal,UL Γ (z::l) r.2)
 |_,_=>r
def Qv (Γ:Ao) (call:C1) (d:Bool) (c:List Step) (f:Fr):Option (Bm×Fr):=
 AF (bif d then Lv Γ call c c f.h.next (HA (BA c) f) []else Uc Γ call c f) fun r=>some (Qq Γ (FO r))
def andThen (r:Bm×Fr) (k:Fr→Option (Bm×Fr)):Option (Bm×Fr):=
 match r.1 with
 |.normal=>k r.2
 |_=>some r
def AaY (v:Aa) (t e:Option (Bm×Fr)):Option (Bm×Fr):=
 match v with
 |.bool (.lit b)=>bif b then t else e
 |_=>none
def G0 (id:Nat) (r:Bm×Fr):Bm×Fr:=
 match r.1 with
 |.exit i=>(bif Nat.beq i id then .normal else .exit i,r.2)
 |_=>r
def T4 (tm:Tr Aa) (l:List (Nat×Aa)):List Nat→List Nat:=
 List.rec (motive:=fun _=>List Nat→List Nat) (fun σ=>σ) (fun p _ ih σ=>ih (AbR (Xc p.2) (Xc (EB (Tr.get tm p.1))) σ)) l
def Xd (Γ:Ao) (σ:List Nat) (tm:Tr Aa) (l:List (Nat×Aa)):Bool:=
 List.rec (motive:=fun _=>Bool) true (fun p _ ih=>Nx Γ σ p.2 (EB (Tr.get tm p.1))&&ih) l
def Ug (σ:List Nat) (l:List (Nat×Aa)):Tr Aa→Option (Tr Aa):=
 List.rec (motive:=fun _=>Tr Aa→Option (Tr Aa)) (fun t=>some t) (fun p _ ih t=>AF (Uh σ p.2) fun v=>ih (Tr.set t p.1 (some v))) l
def OA (l:List (Nat×Aa)):Tr Aa→Tr Aa:=
 List.rec (motive:=fun _=>Tr Aa→Tr Aa) (fun t=>t) (fun p _ ih t=>ih (Tr.set t p.1 (some p.2))) l
def Adp (Γ:Ao) (σ:List Nat) (p a:List (FuncId×List Aa)):Bool:=
 match p,a with
 |[],[]=>true
 |[p],[a]=>Nat.beq p.1 a.1&&KK Γ σ p.2 a.2
 |_,_=>false
def YC (p a:List (FuncId×List Aa)) (σ:List Nat):List Nat:=
 match p,a with
 |[p],[a]=>AbR p.2 a.2 σ
 |_,_=>σ
def ZV (σ:List Nat) (p:List (FuncId×List Aa)):Option (List (FuncId×List Aa)):=
 match p with
 |[]=>some []
 |[p]=>AF (M5 σ p.2) fun l=>some [(p.1,l)]
 |_=>none
def AdS (Γ:Ao) (k:BF) (f:Fr) (σ:List Nat):Bool:=
 Adp Γ σ k.df f.df&&(Nat.beq (Iz σ) (GO k.pre)&&(Nat.ble (GO k.pre) (Sv k.post)&&(IU σ&&(Xd Γ σ f.tm k.X5&&Ym Γ f.h σ k.pre 0))))
def BF.Nn (k:BF):Bm:=bif k.out then .ret else .exit k.id
def Abj (k:BF) (h:Al) (σ:List Nat):Option (Bm×Fr):=
 AF (OV σ k.post 0 ⟨h.DP,h.next+(Sv k.post-GO k.pre),h.fx⟩) fun c=>AF (Ug σ k.Oa .nil) fun tm=>AF (ZV σ k.df) fun df=>some (k.Nn,⟨tm,c,df⟩)
def LV (Γ:Ao) (k:BF) (f:Fr):Option (Bm×Fr):=
 bif AdS Γ k f (RD f.h k.pre 0 (YC k.df f.df (T4 f.tm k.X5 [])))then Abj k f.h (RD f.h k.pre 0 (YC k.df f.df (T4 f.tm k.X5 []))++Lm k.post (GO k.pre) f.h.next)else none
def IB (Γ:Ao) (cur:Nat) (f:Fr) (l:List BF):Option (Bm×Fr):=
 List.rec (motive:=fun _=>Option (Bm×Fr)) none (fun k _ ih=>bif Nat.beq k.id cur then (match LV Γ k f with|some x=>some x|none=>ih)else ih) l
def iter (o body:Fr→Option (Bm×Fr)) (n:Nat):Fr→Option (Bm×Fr):=
 Nat.rec (motive:=fun _=>Fr→Option (Bm×Fr)) (fun _=>none) (fun _ ih f=>match o f with
  |some r=>some r
  |none=>AF (body f) fun r=>andThen r ih) n
def FH (Γ:Ao) (call:C1) (fuel:Nat) (c:IC):Nat→Fr→Option (Bm×Fr):=
 IC.rec (motive:=fun _=>Nat→Fr→Option (Bm×Fr))
  (fun _ f=>some (.normal,f))
  (fun d g _ f=>Qv Γ call d g f)
  (fun _ _ a b k f=>AF (a k f) fun r=>andThen r fun j=>b k j)
  (fun c _ _ t e k f=>AaY (ev f.tm c) (t k f) (e k f))
  (fun id _ b _ f=>AF (b id f) fun r=>some (G0 id r))
  (fun _ b k f=>iter (fun f=>IB Γ k f Γ.loops) (fun f=>b k f) fuel f)
  (fun id _ f=>some (.exit id,f))
  (fun _ f=>some (.ret,f)) c
def NM (l:List Aa):Nat→Tr Aa→Tr Aa:=
 List.rec (motive:=fun _=>Nat→Tr Aa→Tr Aa) (fun _ t=>t) (fun v _ ih i t=>ih (i+1) (Tr.set t i (some v))) l
def exec (Γ:Ao) (call:C1) (fuel:Nat) (c:IC) (f:Fr):Option (Bm×Fr):=FH Γ call fuel c 0 f
def Qt (tm:Tr Aa) (h:Al) (r:R8):Option Aa:=
 match r with
 |.tmp t=>some (EB (Tr.get tm t))
 |.cell t n=>MP h.fx h n (EB (Tr.get tm t))
def ZQ (tm:Tr Aa) (h:Al) (l:List R8):Option (List Aa):=
 List.rec (motive:=fun _=>Option (List Aa)) (some []) (fun x _ ih=>AF (Qt tm h x) fun v=>AF ih fun vs=>some (v::vs)) l
def oneOf (vs:List Aa):Aa:=
 match vs with
 |[v]=>v
 |vs=>.tuple vs
inductive CQ where
 |returning
 |panicking (v:Aa)
abbrev R9:=FuncId→List Aa→CQ→Al→Option (CQ×Al)
def QD (c:R9) (l:List (FuncId×List Aa)):CQ→Al→Option (CQ×Al):=
 List.rec (motive:=fun _=>CQ→Al→Option (CQ×Al)) (fun m h=>some (m,h)) (fun d _ ih m h=>AF (c d.1 d.2 m h) fun r=>ih r.1 r.2) l
def AdM (F:EI) (tm:Tr Aa) (r:CQ×Al):Option (NV×Al):=
 match r.1 with
 |.returning=>AF (ZQ tm r.2 F.results) fun vs=>some (.ret (oneOf vs),r.2)
 |.panicking v=>some (.panic v,r.2)
def Q7 (e:Bm):Option CQ:=
 match e with
 |.normal=>some .returning
 |.ret=>some .returning
 |.panic v=>some (.panicking v)
 |.exit _=>none
def Hy (F:EI) (args:List Aa) (h:Al):Fr:=⟨NM args 0 (Tr.full Aa F.depth),h,[]⟩
def PB (Γ:Ao) (call:C1) (c:R9) (fuel:Nat) (F:EI) (args:List Aa) (h:Al):Option (NV×Al):=
 AF (exec Γ call fuel F.body (Hy F args h)) fun r=>AF (Q7 r.1) fun m=>AF (QD c r.2.df m r.2.h) fun x=>AdM F r.2.tm x
def Gk (m:CQ) (r:Bm×Fr):Option (CQ×Al):=
 match r.1,r.2.df with
 |.normal,[]=>some (m,r.2.h)
 |.ret,[]=>some (m,r.2.h)
 |_,_=>none
def recovered (m:CQ):Aa:=
 match m with
 |.panicking v=>v
 |.returning=>.nilIface
def KM (Γ:Ao) (call:C1) (fuel:Nat) (F:EI) (args:List Aa) (m:CQ) (h:Al):Option (CQ×Al):=
 match F.body,F.results with
 |.seq (.region false (⟨dst,none,.m .recover,_⟩::steps)) rest,[]=>
  AF (Uc Γ call steps ⟨DX (Hy F args h).tm dst (recovered m),h,[]⟩) fun r=>AF (andThen (FO r) fun f=>exec Γ call fuel rest f) fun r=>Gk .returning r
 |body,[]=>AF (exec Γ call fuel body (Hy F args h)) fun r=>Gk m r
 |_,_=>none
abbrev By:=List Aa→Al→Option (NV×Al)
def Q0 (o:Option By) (args:List Aa) (h:Al) (k:Unit→Option (NV×Al)):Option (NV×Al):=
 match o with
 |some f=>(match f args h with|some r=>some r|none=>k ())
 |none=>k ()
def Lz (Γ:Ao) (c:FuncId→Option By) (DP:FuncId→Option EI) (fuel d:Nat):C1:=
 Nat.rec (motive:=fun _=>C1) (fun _ _ _=>none)
  (fun _ ih f args h=>Q0 (c f) args h (fun _=>AF (DP f) fun F=>PB Γ ih (fun f args m h=>AF (DP f) fun F=>KM Γ ih fuel F args m h) fuel F args h)) d
def Ao.bare (Γ:Ao):Ao:={Γ with loops:=[]}
def Aeo (Γ:Ao) (c:FuncId→Option By) (DP:FuncId→Option EI) (fuel d:Nat):C1:=fun f args h=>
 AF (DP f) fun F=>PB Γ (Lz Γ.bare c DP fuel d) (fun f args m h=>AF (DP f) fun F=>KM Γ.bare (Lz Γ.bare c DP fuel d) fuel F args m h) fuel F args h
def inK (k:IntKind) (t:ST):Bool:=
 match t with
 |.lit n=>bif Ik k then ile (.negSucc (modulus k/2-1)) n&&ile n (.ofNat (modulus k/2-1))else ile (.ofNat 0) n&&ile n (.ofNat (modulus k-1))
 |_=>false
def WY (Γ:Ao) (t:ST):Bool:=
 match t with
 |.lit n=>inK .i64 (.lit n)
 |.conv k _=>U4 k .i64
 |.bin .add k _ _=>U4 k .i64
 |t=>Ds (Cf Γ.tests .geq t (.lit (.negSucc 9223372036854775807)))&&Ds (Cf Γ.tests .leq t (.lit (.ofNat 9223372036854775807)))
def MU (Γ:Ao):By:=fun args h=>
 match args with
 |[.int .i64 n,.int .i64 (.lit (.ofNat 10))]=>bif WY Γ n then some (.ret (.anyStr 21),h)else none
 |_=>none
def MV (Γ:Ao):By:=fun args h=>
 match args with
 |[.int .i64 n]=>bif WY Γ n then some (.ret (.anyStr 21),h)else none
 |_=>none
def Ss (f:Nat) (l:List (Nat×By)):Option By:=
 List.rec (motive:=fun _=>Option By) none (fun x _ ih=>bif Nat.beq x.1 f then some x.2 else ih) l
def Abk (x:BC) (h:Al) (σ:List Nat):Option (NV×Al):=
 AF (OV σ x.post 0 ⟨h.DP,h.next+(Sv x.post-GO x.pre),h.fx⟩) fun c=>AF (Uh σ x.res) fun v=>some (.ret v,c)
def Ro (x:BC):By:=fun args h=>
 let σ:=RD h x.pre 0 (Vz x.args args [])
 bif AdR x args h σ then Abk x h (σ++Lm x.post (GO x.pre) h.next)else none
def JZ (l:List BC):By:=
 List.rec (motive:=fun _=>By) (fun _ _=>none) (fun x _ ih args h=>match Ro x args h with|some y=>some y|none=>ih args h) l
def YL:By:=fun args h=>
 match args with
 |[]=>some (.ret yes,h)
 |_=>none
end
end Go.AM
end
section
namespace Go.AM
def strOf (s:ByteArray):List Nat:=s.data.toList.map (·.toNat)
mutual
def GP:Value→Aa
 |.bool b=>.bool (.lit b)
 |.int k n=>.int k (.lit n)
 |.string s=>.str (strOf s)
 |.pointer none=>.nilPtr
 |.slice none 0 0=>.nilSlice
 |.map none=>.nilMap
 |.nilFunc=>.nilFunc
 |.nilIface=>.nilIface
 |.agg ⟨cs⟩=>if (Ty cs).all (·.single)then .agg (Ty cs)else .any
 |_=>.any
def Ty:List Value→List Aa
 |[]=>[]
 |v::r=>GP v::Ty r
end
def AJ:Operand→C7
 |.tmp t=>.tmp t
 |.const v=>.con (GP v)
 |.func f=>.con (.func f [] [])
 |.global _=>.con .any
def Cg (l:List Operand):List C7:=l.map AJ
def Bj (P:Program) (t:TypeId):Option Nat:=(P.info? t).map (·.size)
def Ed (P:Program) (t:TypeId):Option (Option Nat):=
 match P.underlying t,P.info? t with
 |some (.struct _),some i|some (.array _ _),some i=>some (some i.size)
 |some _,some _=>some none
 |_,_=>none
def Hr (P:Program) (t:TypeId):Option (List Aa):=
 match P.info? t with
 |some i=>i.zero.bind fun v=>(GP v).cells.bind fun cs=>if cs.all (·.single)then some cs else none
 |none=>none
def DD {α:Type}:List (Option (List α))→Option (List α)
 |[]=>some []
 |some a::r=>(DD r).map (a++·)
 |none::_=>none
def LK.no:LK→Nat
 |.bool=>0
 |.int=>1
 |.str=>2
def C5 (k:Nat) (l:List (Nat×LK)):List (Nat×LK):=l.map fun x=>(k+x.1,x.2)
def below (n:Nat) (l:List (Nat×LK)):Bool:=l.all fun x=>Nat.blt x.1 n
def leaves (P:Program):Nat→TypeId→Option (List (Nat×LK))
 |0,_=>none
 |d+1,t=>match P.underlying t with
  |some .bool=>some [(0,.bool)]
  |some (.int _)=>some [(0,.int)]
  |some .string=>some [(0,.str)]
  |some (.struct fs)=>if P.stoodInHeld t then none else DD (fs.toList.map fun f=>if f.name= "_" then none else
    match leaves P d f.type,Bj P f.type with
    |some l,some n=>if below n l&&Nat.ble (f.offset+n) (P.cellsOf t)then some (C5 f.offset l)else none
    |_,_=>none)
  |some (.array k e)=>match leaves P d e,Bj P e with
   |some l,some n=>if below n l&&Nat.ble (k*n) (P.cellsOf t)then some ((List.range k).flatMap fun i=>C5 (i*n) l)else none
   |_,_=>none
  |_=>none
def Ep:List (Nat×LK)→List (Nat×LK)→Bool
 |[],[]=>true
 |a::x,b::y=>Nat.beq a.1 b.1&&Nat.beq a.2.no b.2.no&&Ep x y
 |_,_=>false
def K9 (P:Program) (t:TypeId):Bool:=
 match Ed P t with
 |some (some _)=>true
 |_=>false
def QN (P:Program) (pl:List C3):Bool:=
 pl.all fun x=>(match leaves P 6 x.t with|some l=>Ep l x.Sw|none=>false)&&((P.info? x.t).map (·.comparable)).getD false&&beq (K9 P x.t) x.agg
def Ya (P:Program) (t:TypeId):Option LK:=
 match P.underlying t with
 |some .bool=>some .bool
 |some (.int _)=>some .int
 |some .string=>some .str
 |_=>none
def Ev:Operand→Bool
 |.const .nilIface=>true
 |_=>false
def partsOf (c:Nat→Option (Nat×Nat)):List (Nat×Operand)→Option (List (Nat×Nat×C7))
 |[]=>some []
 |(i,x)::r=>match c i,partsOf c r with
  |some (off,size),some ps=>some ((off,size,AJ x)::ps)
  |_,_=>none
def Ru (P:Program) (pl:List C3) (c:Bool) (t:TypeId) (x y:Operand):Option POp:=
 match P.underlying t with
 |some .bool=>some (.eqs c .bool (AJ x) (AJ y))
 |some (.pointer e)=>(Bj P e).bind fun _=>some (.eqs c .ptr (AJ x) (AJ y))
 |some (.slice _)=>some (.eqs c .slice (AJ x) (AJ y))
 |some (.map _ _)=>some (.eqs c .map (AJ x) (AJ y))
 |some (.func _ _ _)=>some (.eqs c .func (AJ x) (AJ y))
 |some (.struct _) |some (.array _ _)=>match leaves P 6 t with
  |some l=>if P.eqGuardType P.depth t then none else some (.eqs c (.plain l) (AJ x) (AJ y))
  |none=>none
 |some (.interface ms)=>if QN P pl then some (.eqs c (.iface (ms.isEmpty||Ev x||Ev y) pl) (AJ x) (AJ y))else none
 |_=>none
def Xk (P:Program) (pl:List C3) (op:BinOp) (t:TypeId) (x y:Operand):Option POp:=
 match P.underlying t,op with
 |some (.int _),_=>some (.bin op (AJ x) (AJ y))
 |some .string,_=>some (.bin op (AJ x) (AJ y))
 |some _,.eql=>Ru P pl false t x y
 |some _,.neq=>Ru P pl true t x y
 |_,_=>none
def u8T (P:Program) (e:TypeId) (size:Nat):Option Nat:=
 match P.underlying e,P.info? e with
 |some (.int .u8),some i=>(match i.zero with|some (.int .u8 (.ofNat 0))=>if Nat.beq size 1 then some e else none|_=>none)
 |_,_=>none
def EX (P:Program) (e:TypeId) (bytes:Bool) (x y:Operand):Option DO:=
 match P.info? e with
 |some i=>if i.bytes≤1048576&&(i.zero.map fun v=>Nat.beq v.cells.size i.size).getD false then some (.m (.append i.size (u8T P e i.size) bytes (AJ x) (AJ y)))else none
 |none=>none
def fieldsOf (P:Program) (t:TypeId):List Field:=
 match P.underlying t with
 |some (.struct fs)=>fs.toList
 |_=>[]
def Aah (P:Program) (t:TypeId):Bool:=
 match fieldsOf P t with
 |f::_=>(match P.underlying f.type with|some (.pointer u)=>Nat.beq u t|_=>false)
 |[]=>false
def Aal (P:Program) (t:TypeId):Bool:=
 Aah P t||(match fieldsOf P t with|f::_=>Aah P f.type|[]=>false)
def RH (P:Program) (t:TypeId):Option Nat:=if Aal P t then some t else none
def Hv (P:Program) (p:TypeId→Nat→Bool):List (Nat×Nat):=
 (List.range P.types.size).filterMap fun e=>if Aal P e then (match P.info? e with|some i=>if Nat.ble 1 i.size&&p e i.size then some (e,i.size)else none|none=>none)else none
def N6 (P:Program) (s d:TypeId) (x:Operand):Option DO:=
 match P.underlying s,P.underlying d with
 |some (.int _),some (.int k)=>some (.p (.conv k (AJ x)))
 |some .string,some .string=>some (.p (.same (AJ x)))
 |some (.slice e),some .string=>(match P.underlying e with|some (.int .u8)=>some (.r (.bstr (AJ x))) |_=>none)
 |some (.pointer t),some .unsafePointer=>(match Bj P t with|some (_+1)=>some (.r (.uptr (Hv P fun _ _=>true) (AJ x))) |_=>none)
 |some .unsafePointer,some (.pointer u)=>(Bj P u).map fun _=>.r (.uptr (Hv P fun e n=>liesAt P P.depth e (n/P.cellsOf e) 0 u 1) (AJ x))
 |_,_=>none
def Jj (P:Program) (t:TypeId) (ok:Bool) (x:Operand):Option DO:=
 match P.underlying t,P.info? t with
 |some (.interface _),_=>none
 |some _,some i=>if ok then i.zero.map fun z=>.p (.assert t (some (GP z)) (AJ x))else some (.p (.assert t none (AJ x)))
 |_,_=>none
def Fq (P:Program) (c:Call):Option DO:=
 match c.callee with
 |.value (.func f)=>match P.funcs[f]? with
  |some fn=>if fn.body.isSome then some (.m (.call (AJ (.func f)) (Cg c.args.toList)))
   else if fn.name== "maps.clone" &&fn.origin== "" then (match c.args.toList with|[x]=>some (.m (.clone (AJ x))) |_=>none)
   else if fn.name== "internal/abi.NoEscape" &&fn.origin== "" then (match c.args.toList with|[x]=>some (.m (.Aaj (AJ x))) |_=>none)
   else none
  |none=>none
 |.value f=>some (.m (.call (AJ f) (Cg c.args.toList)))
 |.invoke _ _=>none
 |.builtin b=>match b,c.args.toList,c.argTypes.toList with
  |.len,[x],[t]=>match P.underlying t with
   |some .string=>some (.p (.Aft (AJ x)))
   |some (.slice _)=>some (.p (.Afu (AJ x)))
   |some (.array n _)=>some (.p (.mv (.con (lit .i64 (.ofNat n)))))
   |some (.map _ _)=>some (.r (.lenM (AJ x)))
   |_=>none
  |.append,[x,y],[t,u]=>match P.underlying t,P.underlying u with
   |some (.slice e),some (.slice _)=>EX P e false x y
   |some (.slice e),some .string=>EX P e true x y
   |_,_=>none
  |.copy,[x,y],[t,u]=>match P.underlying t,P.underlying u with
   |some (.slice e),some (.slice _)=>(Bj P e).map fun n=>.m (.copy n false (AJ x) (AJ y))
   |some (.slice e),some .string=>(Bj P e).map fun n=>.m (.copy n true (AJ x) (AJ y))
   |_,_=>none
  |.max,xs,_=>some (.p (.big true (Cg xs)))
  |.min,xs,_=>some (.p (.big false (Cg xs)))
  |.recover,[],_=>some (.m .recover)
  |.unsafeSliceData,[x],_=>some (.p (.ZL (AJ x)))
  |.unsafeString,[p,n],[pt,_]=>match P.underlying pt with
   |some (.pointer e)=>if Nat.beq (P.cellsOf e) 1 then some (.m (.Ael e (AJ p) (AJ n)))else none
   |_=>none
  |_,_,_=>none
def D6 (P:Program) (pl:List C3) (o:Oper):Option DO:=
 match o.op with
 |.move x|.assign x=>some (.p (.mv (AJ x)))
 |.pick c a b=>some (.p (.pick (AJ c) (AJ a) (AJ b)))
 |.alloc t=>(Hr P t).map fun z=>.a (.zero (RH P t) z)
 |.box t x=>some (.a (.box (RH P t) (AJ x)))
 |.build t parts=>match P.underlying t,Hr P t with
  |some (.struct fs),some z=>if fs.all fun f=>(P.info? f.type).isSome then (partsOf (fun i=>(fs[i]?).bind fun f=>(Bj P f.type).map fun n=>(f.offset,n)) parts.toList).map fun ps=>.p (.build z ps)else none
  |some (.array _ e),some z=>(Bj P e).bind fun n=>(partsOf (fun i=>some (i*n,n)) parts.toList).map fun ps=>.p (.build z ps)
  |_,_=>none
 |.buildSlice t len parts=>match P.underlying t with
  |some (.slice e)=>match Bj P e,Hr P e with
   |some n,some z=>if len*n≤65536&&z.length==n then (partsOf (fun i=>some (i*n,n)) parts.toList).map fun ps=>.a (.bslice len (List.replicate len z).flatten ps)else none
   |_,_=>none
  |_=>none
 |.insert t m k v|.mapUpdate t m k v=>match P.underlying t with
  |some (.map kt _)=>(Ya P kt).map fun kk=>.m (.mapUp kk (AJ m) (AJ k) (AJ v))
  |_=>none
 |.load t x=>(Ed P t).map fun n=>.r (.load n (AJ x))
 |.store t a x=>(Bj P t).map fun n=>.m (.store n (AJ a) (AJ x))
 |.nilCheck x=>some (.p (.Afp (AJ x)))
 |.binOp op t x y _=>(Xk P pl op t x y).map .p
 |.unOp op _ x=>some (.p (.un op (AJ x)))
 |.convert s d x=>N6 P s d x
 |.typeAssert x _ t ok=>Jj P t ok x
 |.makeInterface t x=>match P.underlying t with
  |some (.interface _)=>none
  |some _=>some (.p (.iface t (AJ x)))
  |none=>none
 |.makeFunc (.func f) a c=>some (.p (.func f (Cg a.toList) (Cg c.toList)))
 |.makeMap t r=>match P.underlying t,r with
  |some (.map _ _),none|some (.map _ _),some (.const (.int _ _))=>some (.a .mkMap)
  |_,_=>none
 |.makeSlice t l c=>match P.underlying t with
  |some (.slice e)=>match P.info? e,Hr P e with
   |some i,some z=>if i.bytes≤1048576&&z.length==i.size then some (.a (.mkSlice z (AJ l) (AJ c)))else none
   |_,_=>none
  |_=>none
 |.slice t x lo hi mx=>match P.underlying t,mx with
  |some .string,none=>some (.p (.subs (AJ x) (lo.map AJ) (hi.map AJ)))
  |some (.slice e),none=>(Bj P e).map fun n=>.p (.reslice n (AJ x) (lo.map AJ) (hi.map AJ) none)
  |some (.slice e),some m=>if hi.isSome then (Bj P e).map fun n=>.p (.reslice n (AJ x) (lo.map AJ) (hi.map AJ) (some (AJ m)))else none
  |_,_=>none
 |.fieldAddr t x f=>match P.underlying t with
  |some (.struct fs)=>(fs[f]?).bind fun g=>match Bj P g.type with
   |some (_+1)=>some (.p (.UP g.offset (AJ x)))
   |_=>none
  |_=>none
 |.field t x f=>match P.underlying t with
  |some (.struct fs)=>(fs[f]?).bind fun g=>(Ed P g.type).map fun n=>.p (.field g.offset n (AJ x))
  |_=>none
 |.indexAddr t x i=>match P.underlying t with
  |some (.slice e)=>(Bj P e).map fun n=>.p (.Afz n (AJ x) (AJ i))
  |some (.array len e)=>(Bj P e).map fun n=>.p (.U6 len n (AJ x) (AJ i))
  |_=>none
 |.index t x i=>match P.underlying t with
  |some (.array len e)=>match Bj P e,Ed P e with
   |some n,some a=>some (.p (.idx len n a (AJ x) (AJ i)))
   |_,_=>none
  |some .string=>some (.p (.Afy (AJ x) (AJ i)))
  |_=>none
 |.lookup t x k ok=>match P.underlying t with
  |some (.map kt e)=>match P.info? e,Ya P kt with
   |some i,some kk=>i.zero.map fun z=>.r (.lookup kk (GP z) ok (AJ x) (AJ k))
   |_,_=>none
  |_=>none
 |.extract x i=>some (.p (.ext (AJ x) i))
 |.panic x=>some (.m (.panic (AJ x)))
 |.call c=>Fq P c
 |.defer {callee:=.value f,args,.. }=>some (.m (.defer (AJ f) (Cg args.toList)))
 |_=>none
def guardOf (c:Array Oper):Option (Nat×Bool)→Option (Option (Nat×Bool))
 |none=>some none
 |some (j,want)=>match (c[j]?).bind (·.dst)with
  |some d=>some (some (d,want))
  |none=>none
def stepOf (P:Program) (pl:List C3) (nt:Nat) (c:Array Oper) (o:Oper) (back:Nat):Option Step:=
 match D6 P pl o,guardOf c o.guard with
 |some op,some g=>if (o.dst.all fun d=>Nat.blt d nt)&&(g.all fun x=>Nat.blt x.1 nt)then some ⟨o.dst,g,op,back⟩else none
 |_,_=>none
def BE {α:Type}:List (Option α)→Option (List α)
 |[]=>some []
 |some a::r=>(BE r).map (a::·)
 |none::_=>none
def Qz (before:Array Nat) (n:Nat):List Nat→List Nat→List Nat
 |[],done=>done++(List.range n).filter fun i=>!done.contains i
 |m::ms,done=>Qz before n ms (done++(List.range n).filter fun i=>!done.contains i&&(i==m||(before.getD m 0).testBit i))
def C7.names:C7→List Nat
 |.tmp t=>[t]
 |.con _=>[]
def POp.Cg:POp→List C7
 |.mv x|.Afp x|.un _ x|.conv _ x|.same x|.iface _ x|.UP _ x|.field _ _ x|.ext x _|.Aft x|.Afu x|.assert _ _ x|.ZL x=>[x]
 |.pick c a b=>[c,a,b]
 |.build _ ps=>ps.map (·.2.2)
 |.bin _ x y|.eqs _ _ x y|.Afz _ x y|.U6 _ _ x y|.idx _ _ _ x y|.Afy x y=>[x,y]
 |.func _ a c=>a++c
 |.subs x lo hi=>x::(lo.toList++hi.toList)
 |.reslice _ x lo hi mx=>x::(lo.toList++(hi.toList++mx.toList))
 |.big _ xs=>xs
def NX.Cg:NX→List C7
 |.load _ x|.lenM x|.uptr _ x|.bstr x=>[x]
 |.lookup _ _ _ x k=>[x,k]
def AOp.Cg:AOp→List C7
 |.box _ x=>[x]
 |.zero _ _|.mkMap=>[]
 |.bslice _ _ ps=>ps.map (·.2.2)
 |.mkSlice _ l c=>[l,c]
def MOp.Cg:MOp→List C7
 |.store _ a x|.append _ _ _ a x|.copy _ _ a x|.Ael _ a x=>[a,x]
 |.call f args|.defer f args=>f::args
 |.mapUp _ m k v=>[m,k,v]
 |.clone x|.panic x|.Aaj x=>[x]
 |.recover=>[]
def DO.Cg:DO→List C7
 |.p o=>o.Cg
 |.r o=>o.Cg
 |.a o=>o.Cg
 |.m o=>o.Cg
def Step.names (s:Step):List Nat:=
 match s.guard with
 |some g=>g.1::s.op.Cg.flatMap C7.names
 |none=>s.op.Cg.flatMap C7.names
def Vo (W:Nat→Nat→Bool) (x y:Nat×Step):Bool:=
 !(Nat.beq x.1 y.1)&&(!BZ y.2.op||W x.1 y.1)&&
 (match x.2.dst with
  |some d=>(match y.2.dst with|some e=>!(Nat.beq e d) |none=>true)&&(!(y.2.names.any (Nat.beq d)) ||W x.1 y.1)
  |none=>true)&&
 (match y.2.dst with
  |some d=>!(x.2.names.any (Nat.beq d)) ||W x.1 y.1
  |none=>true)
def NK (W:Nat→Nat→Bool) (x:Nat):List (Nat×Step)→Nat→Bool
 |[],_=>true
 |y::r,k=>if BZ y.2.op then NK W x r (k+1)else (Nat.blt k y.2.back||W x y.1)&&NK W x r k
def AdH (s:Step):Bool:=
 match s.dst with
 |some d=>!(s.names.any (Nat.beq d))
 |none=>true
def okD (W:Nat→Nat→Bool):List (Nat×Step)→Bool
 |[]=>true
 |x::r=>AdH x.2&&(r.all (Vo W x)&&((!BZ x.2.op||NK W x.1 r 0)&&okD W r))
def CZ (c:Array Oper) (i:Nat):List Nat:=
 match c[i]? with
 |some o=>(o.after.toList.filter (Region.binds .any)).map (·.on)
 |none=>[]
def XZ (c:Array Oper):List Nat→Bool
 |[]=>true
 |i::r=>(CZ c i).all (fun e=>Nat.blt e i&&!(r.any (Nat.beq e)))&&XZ c r
def waits (before:List Nat) (i j:Nat):Bool:=(before.getD j 0).testBit i
def II (c:Array Oper) (before:List Nat):Bool:=
 (List.range c.size).all fun j=>(List.range c.size).all fun i=>!(waits before i j) ||
  (CZ c j).any fun e=>Nat.blt e j&&(Nat.beq e i||waits before i e)
def Abh (before:Array Nat) (muts c:List Nat) (i:Nat):Nat:=
 let seen:=(c.takeWhile (·!=i)).filter muts.contains
 (seen.filter fun m=>!(before.getD i 0).testBit m).length
def AaU (d:Array Oper) (before c:List Nat) (g:List Step):Bool:=
 Nat.beq c.length g.length&&Nat.beq c.length d.size&&((List.range d.size).all (fun i=>c.any (Nat.beq i))&&(c.all (fun i=>Nat.blt i d.size)&&(XZ d c&&(II d before&&okD (waits before) (c.zip g)))))
def N5 (P:Program) (pl:List C3) (nt:Nat) (c:Array Oper):Option (List Step):=
 let before:=Region.before c
 match BE (c.toList.map (D6 P pl))with
 |none=>none
 |some iops=>
  let muts:=(List.range c.size).filter fun i=>(iops[i]?.map BZ).getD false
  let d:=Qz before c.size muts []
  match BE (d.map fun i=>(c[i]?).bind fun o=>stepOf P pl nt c o (Abh before muts d i))with
  |some steps=>if AaU c before.toList d steps then some steps else none
  |none=>none
def GK (P:Program) (pl:List C3) (nt:Nat) (c:Array Oper) (d:Bool):Option (List Step):=
 if d then N5 P pl nt c else BE (c.toList.map fun o=>stepOf P pl nt c o 0)
def Bd (P:Program) (pl:List C3) (nt:Nat):Code→Option IC
 |.skip=>some .skip
 |.region _ ops draw=>(GK P pl nt ops draw).map (.region draw)
 |.seq a b=>match Bd P pl nt a,Bd P pl nt b with
  |some a,some b=>some (.seq a b)
  |_,_=>none
 |.cond c a b=>match Bd P pl nt a,Bd P pl nt b with
  |some a,some b=>some (.cond (AJ c) a b)
  |_,_=>none
 |.block id b=>(Bd P pl nt b).map (.block id)
 |.loop b=>(Bd P pl nt b).map .loop
 |.exit id=>some (.exit id)
 |.ret=>some .ret
 |.refuse _=>some (.cond (.con .any) .skip .skip)
 |_=>none
def GJ (P:Program):ResultVar→Option R8
 |.tmp t=>some (.tmp t)
 |.cell a t=>(Ed P t).map (.cell a)
def Ads (n:Nat):Nat:=Nat.log2 (n+1)+1
def EW (P:Program) (pl:List C3) (fn:Func):Option EI:=
 match fn.body with
 |none=>none
 |some c=>match Bd P pl fn.ntmps c,BE (fn.results.toList.map (GJ P))with
  |some body,some results=>some {depth:=Ads fn.ntmps,results,body}
  |_,_=>none
end Go.AM
end
section
namespace Go.AM
inductive PV where
 |bool (b:Bool)
 |int (k:IntKind) (n:Int)
 |str (s:List Nat)
 |list (es:Nat) (l:List (List PV))
 |nilp
structure Env where
 val:Nat→Int
 AY:Nat→Option Obj:=fun _=>none
 str:Nat→List Nat:=fun _=>[]
 lst:Nat→List (List PV):=fun _=>[]
 map:Nat→List (List Nat×List PV):=fun _=>[]
instance:Coe Env (Nat→Int):=⟨Env.val⟩
theorem QI (a b:Int):ile a b=decide (a≤b):=by
 rw [Bool.eq_iff_iff]
 cases a<;>cases b<;>simp [ile]<;>omega
theorem QK (a b:Int):YA a b=(a==b):=by
 rw [Bool.eq_iff_iff]
 cases a<;>cases b<;>simp [YA]<;>omega
theorem QJ {a b:Int}:YA a b=true↔a=b:=by rw [QK];simp
theorem Afw (a b:Int):ilt a b=decide (a<b):=by
 unfold ilt;rw [QI,Bool.eq_iff_iff];simp
theorem Dq {a b:IntKind}:U4 a b=true↔a=b:=by
 cases a<;>cases b<;>simp [U4,U3]
theorem HC {a b:BinOp}:Of a b=true↔a=b:=by
 cases a<;>cases b<;>simp [Of,XS]
theorem beq_eq (a b:Bool):beq a b=(a==b):=by cases a<;>cases b<;>rfl
theorem WQ (n:Int) (m:Nat) (c:0<m):(Q5 n m:Int)=n%(m:Int):=by
 cases n with
 |ofNat a=>simp [Q5]
 |negSucc a=>
  have h:=Nat.mod_lt a c
  simp only [Q5]
  rw [Int.negSucc_emod a (by omega:(0:Int)<(m:Int))]
  omega
theorem Ade (n:Int) (m:Nat) (c:0<m):Q5 n m<m:=by
 cases n with
 |ofNat a=>exact Nat.mod_lt _ c
 |negSucc a=>simp only [Q5];have h:=Nat.mod_lt a c;omega
theorem HD (k:IntKind):0<modulus k:=by cases k<;>decide
theorem IW (k:IntKind):(2:Int)^k.bits=(modulus k:Int):=by cases k<;>rfl
theorem Q6 (k:IntKind):(2:Int)^(k.bits-1)*2=(modulus k:Int):=by cases k<;>rfl
theorem Ua (k:IntKind):Ik k=k.signed:=by cases k<;>rfl
theorem Ju (k:IntKind) (n:Int) (m:Nat) (h:n%(2^k.bits:Int)=(m:Int)) (j:m<modulus k):k.wrap n=back k m:=by
 have g:=Q6 k
 unfold IntKind.wrap back
 simp only [h]
 rw [IW,Ua]
 cases hs:k.signed with
 |false=>simp
 |true=>
  simp only [Bool.true_and]
  by_cases hc:modulus k≤m+m
  ·have c:Nat.ble (modulus k) (m+m)=true:=by simpa using hc
   have d:decide ((m:Int)≥2^(k.bits-1))=true:=by simp;omega
   rw [if_pos (by simpa using d),c]
   simp only [cond_true]
   omega
  ·have c:Nat.ble (modulus k) (m+m)=false:=by
    cases h':Nat.ble (modulus k) (m+m)with
    |false=>rfl
    |true=>exact absurd (Nat.le_of_ble_eq_true h') hc
   have d:¬((m:Int)≥2^(k.bits-1)):=by omega
   rw [if_neg (by simpa using d),c]
   rfl
theorem Ht (k:IntKind) (n:Int):KY k n=k.wrap n:=by
 unfold KY
 exact (Ju k n _ (by rw [IW,WQ _ _ (HD k)]) (Ade _ _ (HD k))).symm
theorem WR (k:IntKind) (x:Int):Q5 x (modulus k)=(BitVec.ofInt k.bits x).toNat:=by
 rw [BitVec.toNat_ofInt]
 have h:=WQ x (modulus k) (HD k)
 have e:((2^k.bits:Nat):Int)=(modulus k:Int):=by cases k<;>rfl
 rw [e,←h]
 exact (Int.toNat_natCast _).symm
theorem Jx (k:IntKind):2^k.bits=modulus k:=by cases k<;>rfl
theorem Abf (op:BinOp) (k:IntKind) (x y:Int) (h:op=.and∨op=.or∨op=.xor∨op=.andNot):PC op k x y=bits op k x y:=by
 unfold PC bits
 rw [WR,WR]
 generalize BitVec.ofInt k.bits x=a
 generalize BitVec.ofInt k.bits y=b
 have hb:∀r:BitVec k.bits,back k r.toNat=k.wrap (r.toNat:Int):=fun r=>by
  have c:r.toNat<modulus k:=by rw [←Jx];exact r.isLt
  exact (Ju k _ _ (by rw [IW];exact Int.emod_eq_of_lt (by omega) (by omega)) c).symm
 rcases h with rfl|rfl|rfl|rfl<;>simp only [WS]<;>rw [←hb]
 ·rw [BitVec.toNat_and];rfl
 ·rw [BitVec.toNat_or];rfl
 ·rw [BitVec.toNat_xor];rfl
 ·rw [BitVec.toNat_and,BitVec.toNat_not,Jx];rfl
def DE (op:BinOp) (k:IntKind) (x y:Int):Int:=
 match op with
 |.add=>k.wrap (x+y)
 |.sub=>k.wrap (x-y)
 |.mul=>k.wrap (x*y)
 |.quo=>k.wrap (x.tdiv y)
 |.rem=>x.tmod y
 |.shl=>k.wrap (x*2^min y.toNat k.bits)
 |.shr=>x.fdiv (2^min y.toNat k.bits)
 |op=>bits op k x y
def EG (op:BinOp) (x y:Int):Bool:=
 match op with
 |.eql=>x==y
 |.neq=>x !=y
 |.lss=>decide (x<y)
 |.leq=>decide (x≤y)
 |.gtr=>decide (x>y)
 |_=>decide (x≥y)
def ST.den (ρ:Nat→Int):ST→Int
 |.lit n=>n
 |.var i=>ρ i
 |.bin op k a b=>DE op k (a.den ρ) (b.den ρ)
 |.conv k a=>k.wrap (a.den ρ)
def SB.den (ρ:Nat→Int):SB→Bool
 |.lit b=>b
 |.cmp op a b=>EG op (a.den ρ) (b.den ρ)
 |.no a=>!(a.den ρ)
theorem ST.Bk:∀{a b:ST},a.eq b=true→a=b
 |.lit a,.lit b,h=>by simp only [ST.eq]at h;rw [QJ.1 h]
 |.var i,.var j,h=>by simp only [ST.eq]at h;rw [Nat.eq_of_beq_eq_true h]
 |.bin o k a b,.bin o' k' a' b',h=>by
  simp only [ST.eq,aT]at h
  obtain ⟨⟨⟨g,d⟩,q⟩,c⟩:=h
  rw [HC.1 g,Dq.1 d,ST.Bk q,ST.Bk c]
 |.conv k a,.conv k' a',h=>by
  simp only [ST.eq,aT]at h
  rw [Dq.1 h.1,ST.Bk h.2]
 |.lit _,.var _,h|.lit _,.bin ..,h|.lit _,.conv ..,h|.var _,.lit _,h|.var _,.bin ..,h|.var _,.conv ..,h
 |.bin ..,.lit _,h|.bin ..,.var _,h|.bin ..,.conv ..,h|.conv ..,.lit _,h|.conv ..,.var _,h|.conv ..,.bin ..,h=>by simp [ST.eq]at h
theorem SB.Bk:∀{a b:SB},a.eq b=true→a=b
 |.lit a,.lit b,h=>by simp only [SB.eq,beq_eq]at h;simp at h;rw [h]
 |.cmp o a b,.cmp o' a' b',h=>by
  simp only [SB.eq,aT]at h
  rw [HC.1 h.1.1,ST.Bk h.1.2,ST.Bk h.2]
 |.no a,.no b,h=>by simp only [SB.eq]at h;rw [SB.Bk h]
 |.lit _,.cmp ..,h|.lit _,.no _,h|.cmp ..,.lit _,h|.cmp ..,.no _,h|.no _,.lit _,h|.no _,.cmp ..,h=>by simp [SB.eq]at h
def Eo (ρ:Env):Aa→Option (List Nat)
 |.str s=>some s
 |.svar i=>some (ρ.str i)
 |_=>none
def LR (ρ:Env):Aa→PV→Prop
 |.bool b,p=>p=.bool (b.den ρ)
 |.int k n,p=>p=.int k (n.den ρ)
 |.str s,p=>p=.str s
 |.svar i,p=>p=.str (ρ.str i)
 |.lst f i es n,p=>f=false∧p=.list es (ρ.lst i)∧n.den ρ=((ρ.lst i).length:Int)
 |.nilPtr,p=>p=.nilp
 |_,_=>False
def FK (ρ:Env):List Aa→List PV→Prop
 |[],ps=>ps=[]
 |a::as,ps=>∃p rest,ps=p::rest∧LR ρ a p∧FK ρ as rest
def Vy (ρ:Env) (a:Aa) (p:PV):Prop:=
 match a with
 |.nilSlice=>∃c,p=.list c []
 |a=>LR ρ a p
def CP (ρ:Env):List Aa→List PV→Prop
 |[],ps=>ps=[]
 |a::as,ps=>∃p rest,ps=p::rest∧Vy ρ a p∧CP ρ as rest
def Eg (ρ:Env):List (List Aa)→List (List PV)→Prop
 |[],ps=>ps=[]
 |a::as,ps=>∃p rest,ps=p::rest∧CP ρ a p∧Eg ρ as rest
def FI (ρ:Env):AR→List (List PV)→Prop
 |.els es,l=>Eg ρ es l
 |.all i,l=>l=ρ.lst i
 |.take i n,l=>0≤n.den ρ∧n.den ρ≤((ρ.lst i).length:Int)∧l=(ρ.lst i).take (n.den ρ).toNat
 |.drop i n,l=>0≤n.den ρ∧n.den ρ≤((ρ.lst i).length:Int)∧l=(ρ.lst i).drop (n.den ρ).toNat
def B8 (ρ:Env):List AR→List (List PV)→Prop
 |[],l=>l=[]
 |p::ps,l=>∃a b,l=a++b∧FI ρ p a∧B8 ρ ps b
def Ab1 (ρ:Env):List (Aa×List Aa)→List (List Nat×List PV)→Prop
 |[],l=>l=[]
 |x::r,l=>∃s ps rest,l=(s,ps)::rest∧Eo ρ x.1=some s∧CP ρ x.2 ps∧Ab1 ρ r rest
def BO:List (List Nat×List PV)→List Nat→Option (List PV)
 |[],_=>none
 |e::r,k=>if e.1=k then some e.2 else BO r k
def Bn:List (List Nat×List PV)→List Nat→List PV→List (List Nat×List PV)
 |[],k,v=>[(k,v)]
 |e::r,k,v=>if e.1=k then (k,v)::r else e::Bn r k v
structure Ao.AL (Γ:Ao) (ρ:Env):Prop where
 DY:∀x∈Γ.DY,x.1.den ρ=x.2
 tests:∀x∈Γ.tests,EG x.1 (x.2.1.den ρ) (x.2.2.1.den ρ)=x.2.2.2
 strs:∀x∈Γ.strs,∃s t,Eo ρ x.1=some s∧Eo ρ x.2.1=some t∧x.2.2=decide (s=t):=by intro _ h;cases h
 EO:∀x∈Γ.EO,∃s t,Eo ρ x.1=some s∧Eo ρ x.2.1=some t∧Eo ρ x.2.2=some (s++t)∧s.length+t.length≤1048576:=by intro _ h;cases h
 BA:∀x∈Γ.BA,x.2.1.den ρ=((ρ.str x.1).length:Int)∧x.2.2.1≤(ρ.str x.1).length∧(ρ.str x.1).length≤x.2.2.2:=by intro _ h;cases h
 Ad:∀x∈Γ.Ad,x.2.den ρ=((ρ.lst x.1).length:Int):=by intro _ h;cases h
 elems:∀x∈Γ.elems,∃ps,0≤x.2.1.den ρ∧(ρ.lst x.1)[(x.2.1.den ρ).toNat]?=some ps∧FK ρ x.2.2 ps:=by intro _ h;cases h
 defs:∀x∈Γ.defs,B8 ρ x.2 (ρ.lst x.1):=by intro _ h;cases h
 looks:∀x∈Γ.looks,∃s,Eo ρ x.2.1=some s∧(match x.2.2 with
  |some cs=>∃ps,BO (ρ.map x.1) s=some ps∧FK ρ cs ps
  |none=>BO (ρ.map x.1) s=none):=by intro _ h;cases h
 LI:∀x∈Γ.LI,∃s ps,Eo ρ x.2.1=some s∧CP ρ x.2.2.1 ps∧ρ.map x.2.2.2=Bn (ρ.map x.1) s ps:=by intro _ h;cases h
 CO:∀x∈Γ.CO,x.1.den ρ+x.2.1≤x.2.2.den ρ∧x.2.2.den ρ≤1048576:=by intro _ h;cases h
 CM:∀x∈Γ.CM,Ab1 ρ x.2 (ρ.map x.1):=by intro _ h;cases h
theorem Ao.AL.none (ρ:Env):({}:Ao).AL ρ where
 DY:=fun _ h=>(by cases h)
 tests:=fun _ h=>(by cases h)
theorem Lp:∀{l:List (ST×Int)} {t:ST} {n:Int},JH l t=some n→(t,n)∈l
 |[],_,_,h=>by simp [JH]at h
 |(s,m)::r,t,n,h=>by
  simp only [JH]at h
  cases e:s.eq t with
  |true=>
   rw [e]at h
   simp only [cond_true,oI]at h
   rw [ST.Bk e,h]
   exact List.mem_cons_self
  |false=>rw [e]at h;exact List.mem_cons_of_mem _ (Lp h)
theorem Dp:∀{l:List (BinOp×ST×ST×Bool)} {op:BinOp} {a b:ST} {v:Bool},Cf l op a b=some v→(op,a,b,v)∈l
 |[],_,_,_,_,h=>by simp [Cf]at h
 |(o,s,t,u)::r,op,a,b,v,h=>by
  simp only [Cf]at h
  cases e:Of o op&&s.eq a&&t.eq b with
  |true=>
   rw [e]at h
   simp only [cond_true,oI]at h
   simp only [aT]at e
   rw [HC.1 e.1.1,ST.Bk e.1.2,ST.Bk e.2,h]
   exact List.mem_cons_self
  |false=>rw [e]at h;exact List.mem_cons_of_mem _ (Dp h)
section
variable {Γ:Ao} {ρ:Env} (hΓ:Γ.AL ρ)
include hΓ
theorem Kz (t:ST):(numOf Γ t).den ρ=t.den ρ:=by
 unfold numOf
 split
 ·rename_i n h;exact (hΓ.DY _ (Lp h)).symm
 ·rfl
omit hΓ in
theorem Rz {op:BinOp} {k:IntKind} {a b n:Int} (h:R3 op k a b=some n):
  n=DE op k a b∧(op=.quo∨op=.rem→b≠0)∧FD op=false∧DZ op=false:=by
 cases op<;>simp only [R3,oI,reduceCtorEq]at h
 case add|sub|mul=>exact ⟨by rw [←h,Ht];rfl,by simp,rfl,rfl⟩
 case quo|rem=>
  cases e:YA b 0 with
  |true=>rw [e]at h;simp at h
  |false=>
   rw [e]at h
   simp only [cond_false,oI]at h
   refine ⟨by rw [←h];first|(rw [Ht];rfl) |rfl,fun _ hb=>?_,rfl,rfl⟩
   rw [QJ.2 hb]at e;cases e
 case and|or|xor|andNot=>exact ⟨by rw [←h,Abf _ _ _ _ (by simp)];rfl,by simp,rfl,rfl⟩
theorem HZ {op:BinOp} {k:IntKind} {a b t:ST} (h:arith Γ op k a b=some t):
  t.den ρ=DE op k (a.den ρ) (b.den ρ)∧(op=.quo∨op=.rem→b.den ρ≠0)∧FD op=false∧DZ op=false:=by
 have j:∀{t},Vm Γ op k a b=some t→t.den ρ=DE op k (a.den ρ) (b.den ρ)∧(op=.quo∨op=.rem→b.den ρ≠0)∧FD op=false∧DZ op=false:=fun {t} h=>by
  unfold Vm at h
  cases e:total op b||Xh Γ op b with
  |false=>rw [e]at h;simp at h
  |true=>
   rw [e]at h
   simp only [cond_true,oI]at h
   rw [Bool.or_eq_true]at e
   refine ⟨by rw [←h,Kz hΓ];rfl,fun d=>?_,?_,?_⟩
   ·rcases e with e|e
    ·rcases d with rfl|rfl<;>cases b<;>simp [total,QK]at e<;>simpa [ST.den]using e
    ·have key:Cf Γ.tests .eql b (.lit 0)=some false:=by
      have c:(match Cf Γ.tests .eql b (.lit 0)with|some v=>!v|none=>false)=true:=by rcases d with rfl|rfl<;>exact e
      cases hv:Cf Γ.tests .eql b (.lit 0)with
      |none=>rw [hv]at c;cases c
      |some v=>
       rw [hv]at c
       cases v with
       |false=>rfl
       |true=>cases c
     have g:EG .eql (b.den ρ) ((ST.lit 0).den ρ)=false:=hΓ.tests _ (Dp key)
     simpa [EG,ST.den]using g
   ·rcases e with e|e<;>cases op<;>first|rfl|(simp [total]at e) |(simp [Xh]at e)
   ·rcases e with e|e<;>cases op<;>first|rfl|(simp [total]at e) |(simp [Xh]at e)
 unfold arith at h
 split at h
 ·rename_i x y
  cases e:R3 op k x y with
  |none=>rw [e]at h;simp [AF]at h
  |some n=>
   rw [e]at h
   simp only [AF,oI]at h
   rw [←h]
   exact Rz e
 ·exact j h
omit hΓ in
theorem N7 {op:BinOp} {a b:Int} {v:Bool} (h:AaZ op a b=some v):v=EG op a b∧FD op=true:=by
 cases op<;>simp only [AaZ,oI,reduceCtorEq]at h<;>subst h<;>refine ⟨?_,rfl⟩<;>simp [EG,QK,QI,Afw,bne]<;>rfl
theorem CS {op:BinOp} {a b:ST} {s:SB} (h:compare Γ op a b=some s):s.den ρ=EG op (a.den ρ) (b.den ρ)∧FD op=true:=by
 have c:∀{s},N4 Γ op a b=some s→s.den ρ=EG op (a.den ρ) (b.den ρ)∧FD op=true:=fun {s} h=>by
  unfold N4 at h
  cases e:FD op with
  |false=>rw [e]at h;simp at h
  |true=>
   rw [e]at h
   simp only [cond_true]at h
   split at h
   ·rename_i v hv
    simp only [oI]at h
    subst h
    exact ⟨(hΓ.tests _ (Dp hv)).symm,rfl⟩
   ·simp only [oI]at h
    subst h
    exact ⟨rfl,rfl⟩
 unfold compare at h
 split at h
 ·rename_i x y
  cases e:AaZ op x y with
  |none=>rw [e]at h;simp [AF]at h
  |some v=>
   rw [e]at h
   simp only [AF,oI]at h
   rw [←h]
   exact N7 e
 ·exact c h
theorem O3 (k:IntKind) (a:ST):(convert Γ k a).den ρ=k.wrap (a.den ρ):=by
 unfold convert
 split
 ·simp [ST.den,Ht]
 ·rw [Kz hΓ];rfl
theorem Og {b:ST} (h:natural Γ b=true):0≤b.den ρ:=by
 unfold natural at h
 split at h
 ·rw [QI]at h;simpa [ST.den]using h
 ·rename_i hb
  cases e:Cf Γ.tests .geq b (.lit (.ofNat 0))with
  |none=>rw [e]at h;cases h
  |some v=>
   rw [e]at h
   cases v with
   |false=>cases h
   |true=>
    have:=hΓ.tests _ (Dp e)
    simpa [EG,ST.den]using this
end
theorem J5 {op:BinOp} {k yk:IntKind} {x y n:Int} (h:Qo op k x y=some n):Op.shift op k x yk y=pure (.int k n):=by
 cases y with
 |negSucc y=>simp [Qo]at h
 |ofNat y=>
  simp only [Qo]at h
  have d:(bif Nat.ble y k.bits then y else k.bits)=min y k.bits:=by
   cases e:Nat.ble y k.bits with
   |true=>simp only [cond_true];have:=Nat.le_of_ble_eq_true e;omega
   |false=>
         simp only [cond_false];have:¬y≤k.bits:=fun h=>by rw [Nat.ble_eq_true_of_le h]at e;cases e
         omega
  rw [d]at h
  have c:Int.ofNat (2^min y k.bits)=(2:Int)^min y k.bits:=by simp
  unfold Op.shift
  rw [if_neg (by simp)]
  cases op<;>simp only [Mu,oI,reduceCtorEq]at h
  ·rw [←h,Ht,c];rfl
  ·rw [←h,c];rfl
theorem Sc {op:BinOp} {k yk:IntKind} {x y:Int} (hs:DZ op=true) (g:0≤y):Op.shift op k x yk y=pure (.int k (DE op k x y)):=by
 obtain ⟨n,rfl⟩:=Int.eq_ofNat_of_zero_le g
 refine J5 ?_
 have d:(bif Nat.ble n k.bits then n else k.bits)=min n k.bits:=by
  cases e:Nat.ble n k.bits with
  |true=>simp only [cond_true];have:=Nat.le_of_ble_eq_true e;omega
  |false=>
        simp only [cond_false];have:¬n≤k.bits:=fun h=>by rw [Nat.ble_eq_true_of_le h]at e;cases e
        omega
 have c:Int.ofNat (2^min n k.bits)=(2:Int)^min n k.bits:=by simp
 show Mu op k x (bif Nat.ble n k.bits then n else k.bits)=_
 rw [d]
 cases op<;>simp only [DZ,Bool.false_eq_true]at hs
 ·simp only [Mu,DE,Ht,c,Int.toNat_natCast]
 ·simp only [Mu,DE,c,Int.toNat_natCast]
theorem Tp {op:BinOp} {t:TypeId} {k:IntKind} {x y:Int} (h:op=.quo∨op=.rem→y≠0) (hc:FD op=false) (hs:DZ op=false):
  binOp op t (.int k x) (.int k y)=pure (.int k (DE op k x y)):=by
 cases op<;>first|(simp [FD,XS]at hc;done) |(simp [DZ]at hs;done) |skip
 case add|sub|mul=>simp [binOp,Op.intArith,DE]
 case quo|rem=>have:=h (by simp);simp [binOp,Op.intDiv,DE,this]
 case and|or|xor|andNot=>simp [binOp,DE];rfl
theorem Yv {op:BinOp} {t:TypeId} {k:IntKind} {x y:Int} (hc:FD op=true):binOp op t (.int k x) (.int k y)=pure (.bool (EG op x y)):=by
 cases op<;>first|(simp [FD,XS]at hc;done) |skip
 all_goals (simp [binOp,Op.intCmp,EG])
end Go.AM
end
section
namespace Go.AM
section
variable {α:Type}
theorem Tr.Ea (v:Option α) (l r:Tr α) (n:Nat):
  (Tr.node v l r).get n=bif Nat.beq n 0 then v else bif Nat.beq (n%2) 1 then l.get (n/2)else r.get (n/2-1):=rfl
theorem Tr.Fm (m:Nat) (v:Option α) (t:Tr α) (n:Nat):(Tr.over m v t).get n=bif Nat.beq n m then v else t.get n:=rfl
theorem Tr.set_nil (n:Nat) (x:Option α):(Tr.nil:Tr α).set n x=.over n x .nil:=rfl
theorem Tr.ZJ (v:Option α) (l r:Tr α) (n:Nat) (x:Option α):
  (Tr.node v l r).set n x=bif Nat.beq n 0 then .node x l r else bif Nat.beq (n%2) 1 then .node v (l.set (n/2) x) r else .node v l (r.set (n/2-1) x):=rfl
theorem Tr.ZI (m:Nat) (v:Option α) (t:Tr α) (n:Nat) (x:Option α):
  (Tr.over m v t).set n x=bif Nat.beq n m then .over m x t else .over m v (t.set n x):=rfl
theorem AP {β:Type} (m n:Nat) (a b:β):(bif Nat.beq m n then a else b)=if m=n then a else b:=by
 by_cases h:m=n
 ·subst h;simp
 ·have:Nat.beq m n=false:=by
   cases e:Nat.beq m n with
   |false=>rfl
   |true=>exact absurd (Nat.eq_of_beq_eq_true e) h
  rw [this,if_neg h];rfl
theorem Tr.Bq:∀(t:Tr α) (n m:Nat) (x:Option α),(t.set n x).get m=if m=n then x else t.get m
 |.nil,n,m,x=>by rw [Tr.set_nil,Tr.Fm,AP]
 |.over k v t,n,m,x=>by
  rw [Tr.ZI,AP]
  by_cases h:n=k
  ·subst h
   rw [if_pos rfl,Tr.Fm,Tr.Fm,AP,AP]
   by_cases h2:m=n<;>simp [h2]
  ·rw [if_neg h,Tr.Fm,Tr.Fm,AP,AP,Tr.Bq t n m x]
   by_cases h2:m=k
   ·subst h2;rw [if_pos rfl,if_neg (Ne.symm h),if_pos rfl]
   ·rw [if_neg h2,if_neg h2]
 |.node v l r,n,m,x=>by
  rw [Tr.ZJ,AP,AP]
  by_cases h0:n=0
  ·rw [if_pos h0,Tr.Ea,Tr.Ea]
   simp only [AP]
   by_cases h2:m=0
   ·rw [if_pos h2,if_pos (by omega)]
   ·rw [if_neg h2,if_neg (by omega:¬m=n),if_neg h2]
  ·rw [if_neg h0]
   by_cases h1:n%2=1
   ·rw [if_pos h1,Tr.Ea,Tr.Ea]
    simp only [AP]
    rw [Tr.Bq l]
    by_cases h2:m=0
    ·rw [if_pos h2,if_neg (by omega),if_pos h2]
    ·rw [if_neg h2,if_neg h2]
     by_cases h3:m%2=1
     ·rw [if_pos h3,if_pos h3]
      by_cases h4:m=n
      ·rw [if_pos h4,if_pos (by omega)]
      ·rw [if_neg h4,if_neg (by omega)]
     ·rw [if_neg h3,if_neg h3,if_neg (by intro e;subst e;exact h3 h1)]
   ·rw [if_neg h1,Tr.Ea,Tr.Ea]
    simp only [AP]
    rw [Tr.Bq r]
    by_cases h2:m=0
    ·rw [if_pos h2,if_neg (by omega),if_pos h2]
    ·rw [if_neg h2,if_neg h2]
     by_cases h3:m%2=1
     ·rw [if_pos h3,if_pos h3,if_neg (by intro e;subst e;exact h1 h3)]
     ·rw [if_neg h3,if_neg h3]
      by_cases h4:m=n
      ·rw [if_pos h4,if_pos (by omega)]
      ·rw [if_neg h4,if_neg (by omega)]
theorem Tr.JO:∀(n m:Nat),(Tr.full α n).get m=none
 |0,m=>rfl
 |n+1,m=>by
  show (Tr.node none (Tr.full α n) (Tr.full α n)).get m=none
  rw [Tr.Ea,AP,AP,Tr.JO,Tr.JO]
  split<;>first|rfl|(split<;>rfl)
end
def BR (m:Nat):Nat:=m%1048577
def Ca (m:Nat):Nat:=m/1048577
def On (len cap:Nat):Nat:=len+1048577*cap
theorem B6 {len cap:Nat} (h:len≤1048576):BR (On len cap)=len:=by unfold BR On;omega
theorem BS {len cap:Nat} (h:len≤1048576):Ca (On len cap)=cap:=by unfold Ca On;omega
abbrev Yz:=Nat×Nat×Nat
structure Aq where
 spot:Nat→Option Yz
 Bg:Nat→Option Obj
instance:CoeFun Aq fun _=>Nat→Option Yz:=⟨Aq.spot⟩
def Aq.none:Aq:=⟨fun _=>Option.none,fun _=>Option.none⟩
def IF (Bg:Nat→Option Obj) (r:Nat) (a:Array Value) (e:TypeId):Prop:=∃fr:Nat×Nat,Bg r=some (.cells a e fr)
theorem IF.mono {Bg ice':Nat→Option Obj} (c:∀g o,Bg g=some o→ice' g=some o) {r:Nat} {a:Array Value} {e:TypeId} (h:IF Bg r a e):IF ice' r a e:=by obtain ⟨fr,h⟩:=h;exact ⟨fr,c _ _ h⟩
section
variable (Bg:Nat→Option Obj)
mutual
def I0:PV→Value→Prop
 |.bool b,v=>v=.bool b
 |.int k n,v=>v=.int k n
 |.str s,v=>∃b:ByteArray,v=.string b∧strOf b=s
 |.list es l,v=>∃c,l.length≤c∧((l=[]∧∃p,v=.slice p 0 c)∨∃r δ a e,v=.slice (some ⟨r,δ,none⟩) l.length c∧IF Bg r a e∧BU es a δ l)
 |.nilp,v=>v=.pointer none
def AW (a:Array Value) (δ:Nat):List PV→Prop
 |[]=>True
 |p::ps=>(∃u,a[δ]?=some u∧I0 p u)∧AW a (δ+1) ps
def BU (c:Nat) (a:Array Value) (δ:Nat):List (List PV)→Prop
 |[]=>True
 |ps::r=>ps.length=c∧AW a δ ps∧BU c a (δ+c) r
end
def Jp:List (List Nat×List PV)→List MapEntry→Prop
 |[],ms=>ms=[]
 |e::es,ms=>∃m rest,ms=m::rest∧(∃b:ByteArray,m.key=.string b∧strOf b=e.1)∧(∃a:Array Value,m.val=.agg a∧a.size=e.2.length∧AW Bg a 0 e.2)∧Jp es rest
end
section
variable (ρ:Env) (μ:Aq)
mutual
def Ag:Aa→Value→Prop
 |.any,_=>True
 |.bool b,v=>v=.bool (b.den ρ)
 |.int k n,v=>v=.int k (n.den ρ)
 |.str s,v=>∃b:ByteArray,v=.string b∧strOf b=s
 |.ptr b off,v=>∃r δ m,μ b=some (r,δ,m)∧v=.pointer (some ⟨r,δ+off,none⟩)
 |.nilPtr,v=>v=.pointer none
 |.slice b off len c,v=>∃r δ m,μ b=some (r,δ,m)∧v=.slice (some ⟨r,δ+off,none⟩) len c∧len≤c
 |.gslice b off len es,v=>∃r δ m c,μ b=some (r,δ,m)∧v=.slice (some ⟨r,δ+off,none⟩) len c∧len≤c∧off+c*es≤m
 |.nilSlice,v=>v=.slice none 0 0
 |.map b,v=>∃r,μ b=some (r,0,0)∧v=.map (some r)
 |.nilMap,v=>v=.map none
 |.func f a c,v=>∃g d:Array Value,v=.func (.func f) g d∧A9 a g.toList∧A9 c d.toList
 |.nilFunc,v=>v=.nilFunc
 |.iface t x,v=>∃u,v=.iface t u∧Ag x u
 |.nilIface,v=>v=.nilIface
 |.agg cs,v=>∃a:Array Value,v=.agg a∧Ay cs a.toList
 |.tuple vs,v=>∃a:Array Value,v=.tuple a∧A9 vs a.toList
 |.anyStr n,v=>∃b:ByteArray,v=.string b∧1≤b.size∧b.size≤n
 |.gbytes b,v=>∃r m,μ b=some (r,0,m)∧v=.slice (some ⟨r,0,none⟩) (BR m) (Ca m)∧1≤BR m∧BR m≤Ca m
 |.glen b,v=>∃r m,μ b=some (r,0,m)∧v=.int .i64 (BR m:Nat)
 |.svar i,v=>∃b:ByteArray,v=.string b∧strOf b=ρ.str i
 |.lst full i es n,v=>I0 μ.Bg (.list es (ρ.lst i)) v∧n.den ρ=((ρ.lst i).length:Int)∧(full=true→∃p,v=.slice p (ρ.lst i).length (ρ.lst i).length)
 |.lptr i j off,v=>∃r δ a e ps,v=.pointer (some ⟨r,δ+off,none⟩)∧IF μ.Bg r a e∧0≤j.den ρ∧(ρ.lst i)[(j.den ρ).toNat]?=some ps∧AW μ.Bg a δ ps
 |.vec b _ n,v=>∃r m k,μ b=some (r,0,m)∧v=.slice (some ⟨r,0,none⟩) k (Ca m)∧n.den ρ=(k:Int)∧k≤BR m∧BR m≤Ca m
 |.vptr b es j off,v=>∃r m,μ b=some (r,0,m)∧v=.pointer (some ⟨r,(j.den ρ).toNat*es+off,none⟩)∧0≤j.den ρ
def A9:List Aa→List Value→Prop
 |[],vs=>vs=[]
 |a::as,vs=>∃v rest,vs=v::rest∧Ag a v∧A9 as rest
def Ay:List Aa→List Value→Prop
 |[],vs=>vs=[]
 |a::as,vs=>∃v rest,vs=v::rest∧(a.single=true∧Ag a v)∧Ay as rest
end
end
structure Aq.le (μ μ':Aq):Prop where
 to:∀b x,μ b=some x→μ' b=some x
 Bg:∀g o,μ.Bg g=some o→μ'.Bg g=some o
theorem Aq.le_refl (μ:Aq):μ.le μ:=⟨fun _ _ h=>h,fun _ _ h=>h⟩
theorem Aq.le_trans {μ μ' c:Aq} (h:μ.le μ') (d:μ'.le c):μ.le c:=⟨fun _ _ e=>d.to _ _ (h.to _ _ e),fun _ _ e=>d.Bg _ _ (h.Bg _ _ e)⟩
section
variable {Bg ice':Nat→Option Obj} (h:∀g o,Bg g=some o→ice' g=some o)
include h
mutual
theorem I0.mono:∀{p:PV} {v:Value},I0 Bg p v→I0 ice' p v
 |.bool _,_,e=>e
 |.int _ _,_,e=>e
 |.str _,_,e=>e
 |.nilp,_,e=>e
 |.list es l,v,e=>by
  simp only [I0]at e⊢
  obtain ⟨c,hc,e⟩:=e
  refine ⟨c,hc,?_⟩
  rcases e with e|⟨r,δ,a,t,e1,e2,e3⟩
  ·exact .inl e
  ·exact .inr ⟨r,δ,a,t,e1,e2.mono h,BU.mono e3⟩
theorem AW.mono:∀{ps:List PV} {a:Array Value} {δ:Nat},AW Bg a δ ps→AW ice' a δ ps
 |[],_,_,_=>trivial
 |p::ps,a,δ,e=>by
  simp only [AW]at e⊢
  obtain ⟨⟨u,d,g⟩,c⟩:=e
  exact ⟨⟨u,d,I0.mono g⟩,AW.mono c⟩
theorem BU.mono:∀{l:List (List PV)} {c:Nat} {a:Array Value} {δ:Nat},BU Bg c a δ l→BU ice' c a δ l
 |[],_,_,_,_=>trivial
 |ps::r,c,a,δ,e=>by
  simp only [BU]at e⊢
  obtain ⟨d,g,j⟩:=e
  exact ⟨d,AW.mono g,BU.mono j⟩
end
theorem Jp.mono:∀{l:List (List Nat×List PV)} {ms:List MapEntry},Jp Bg l ms→Jp ice' l ms
 |[],_,e=>e
 |_::_,_,e=>let ⟨m,rest,e1,e2,⟨a,e3,e4,e5⟩,e6⟩:=e;⟨m,rest,e1,e2,⟨a,e3,e4,AW.mono h e5⟩,Jp.mono e6⟩
end
section
variable {ρ:Env} {μ μ':Aq} (h:μ.le μ')
include h
mutual
theorem Ag.mono:∀{a:Aa} {v:Value},Ag ρ μ a v→Ag ρ μ' a v
 |.any,_,_=>trivial
 |.bool _,_,e=>e
 |.int _ _,_,e=>e
 |.str _,_,e=>e
 |.ptr b off,_,e=>let ⟨r,δ,m,e1,e2⟩:=e;⟨r,δ,m,h.to _ _ e1,e2⟩
 |.nilPtr,_,e=>e
 |.slice b off len cap,_,e=>let ⟨r,δ,m,e1,e2⟩:=e;⟨r,δ,m,h.to _ _ e1,e2⟩
 |.gslice b off len es,_,e=>let ⟨r,δ,m,c,e1,e2⟩:=e;⟨r,δ,m,c,h.to _ _ e1,e2⟩
 |.nilSlice,_,e=>e
 |.map b,_,e=>let ⟨r,e1,e2⟩:=e;⟨r,h.to _ _ e1,e2⟩
 |.nilMap,_,e=>e
 |.func f a c,_,e=>let ⟨a',c',e1,e2,e3⟩:=e;⟨a',c',e1,A9.mono e2,A9.mono e3⟩
 |.nilFunc,_,e=>e
 |.iface t x,_,e=>let ⟨u,e1,e2⟩:=e;⟨u,e1,Ag.mono e2⟩
 |.nilIface,_,e=>e
 |.agg cs,_,e=>let ⟨a,e1,e2⟩:=e;⟨a,e1,Ay.mono e2⟩
 |.tuple vs,_,e=>let ⟨a,e1,e2⟩:=e;⟨a,e1,A9.mono e2⟩
 |.anyStr _,_,e=>e
 |.gbytes _,_,e=>let ⟨r,m,e1,e2⟩:=e;⟨r,m,h.to _ _ e1,e2⟩
 |.glen _,_,e=>let ⟨r,m,e1,e2⟩:=e;⟨r,m,h.to _ _ e1,e2⟩
 |.svar _,_,e=>e
 |.lst _ _ _ _,_,e=>⟨I0.mono h.Bg e.1,e.2⟩
 |.lptr _ _ _,_,e=>let ⟨r,δ,a,t,ps,e1,e2,e3,e4,e5⟩:=e;⟨r,δ,a,t,ps,e1,(e2.mono h.Bg),e3,e4,AW.mono h.Bg e5⟩
 |.vec _ _ _,_,e=>let ⟨r,m,k,e1,e2⟩:=e;⟨r,m,k,h.to _ _ e1,e2⟩
 |.vptr _ _ _ _,_,e=>let ⟨r,m,e1,e2⟩:=e;⟨r,m,h.to _ _ e1,e2⟩
theorem A9.mono:∀{as:List Aa} {vs:List Value},A9 ρ μ as vs→A9 ρ μ' as vs
 |[],_,e=>e
 |_::_,_,e=>let ⟨v,rest,e1,e2,e3⟩:=e;⟨v,rest,e1,Ag.mono e2,A9.mono e3⟩
theorem Ay.mono:∀{as:List Aa} {vs:List Value},Ay ρ μ as vs→Ay ρ μ' as vs
 |[],_,e=>e
 |_::_,_,e=>let ⟨v,rest,e1,⟨e2,e2'⟩,e3⟩:=e;⟨v,rest,e1,⟨e2,Ag.mono e2'⟩,Ay.mono e3⟩
end
end
section
variable {ρ:Env} {μ:Aq}
theorem Ay.length:∀{as:List Aa} {vs:List Value},Ay ρ μ as vs→as.length=vs.length
 |[],_,e=>by simp only [Ay]at e;rw [e];rfl
 |_::_,_,e=>by
  simp only [Ay]at e
  obtain ⟨v,rest,rfl,_,h⟩:=e
  simp [Ay.length h]
theorem Ay.get:∀{as:List Aa} {vs:List Value} {i:Nat} {a:Aa},Ay ρ μ as vs→as[i]?=some a→∃v,vs[i]?=some v∧a.single=true∧Ag ρ μ a v
 |[],_,i,_,_,h=>by simp at h
 |b::as,_,i,a,e,h=>by
  simp only [Ay]at e
  obtain ⟨v,rest,rfl,hb,c⟩:=e
  cases i with
  |zero=>simp only [List.getElem?_cons_zero,oI]at h;subst h;exact ⟨v,rfl,hb⟩
  |succ i=>simpa using Ay.get c (by simpa using h)
theorem Ay.Ky:∀{as:List Aa} {vs:List Value},as.length=vs.length→(∀(i:Nat) (a:Aa),as[i]?=some a→∃v,vs[i]?=some v∧a.single=true∧Ag ρ μ a v)→Ay ρ μ as vs
 |[],vs,hl,_=>by simp only [Ay];exact List.eq_nil_of_length_eq_zero (by simpa using hl.symm)
 |a::as,[],hl,_=>by simp at hl
 |a::as,v::vs,hl,h=>by
  simp only [Ay]
  obtain ⟨u,c,d⟩:=h 0 a rfl
  simp only [List.getElem?_cons_zero,oI]at c
  subst c
  exact ⟨v,vs,rfl,d,Ay.Ky (by simpa using hl) fun i b hb=>by simpa using h (i+1) b (by simpa using hb)⟩
theorem Ay.append:∀{as bs:List Aa} {vs us:List Value},Ay ρ μ as vs→Ay ρ μ bs us→Ay ρ μ (as++bs) (vs++us)
 |[],_,_,_,h,h'=>by simp only [Ay]at h;subst h;exact h'
 |_::_,_,_,_,h,h'=>by
  simp only [Ay]at h
  obtain ⟨v,rest,rfl,d,c⟩:=h
  simp only [List.cons_append,Ay]
  exact ⟨v,_,rfl,d,Ay.append c h'⟩
theorem A9.append:∀{as bs:List Aa} {vs us:List Value},A9 ρ μ as vs→A9 ρ μ bs us→A9 ρ μ (as++bs) (vs++us)
 |[],_,_,_,h,h'=>by simp only [A9]at h;subst h;exact h'
 |_::_,_,_,_,h,h'=>by
  simp only [A9]at h
  obtain ⟨v,rest,rfl,d,c⟩:=h
  simp only [List.cons_append,A9]
  exact ⟨v,_,rfl,d,A9.append c h'⟩
theorem A9.get:∀{as:List Aa} {vs:List Value} {i:Nat} {a:Aa},A9 ρ μ as vs→as[i]?=some a→∃v,vs[i]?=some v∧Ag ρ μ a v
 |[],_,i,_,_,h=>by simp at h
 |b::as,_,i,a,e,h=>by
  simp only [A9]at e
  obtain ⟨v,rest,rfl,hb,c⟩:=e
  cases i with
  |zero=>simp only [List.getElem?_cons_zero,oI]at h;subst h;exact ⟨v,rfl,hb⟩
  |succ i=>simpa using A9.get c (by simpa using h)
theorem Ag.Q1 {a:Aa} {v:Value} (h:Ag ρ μ a v) (hs:a.single=true):v.oneCell'=true:=by
 cases a<;>simp only [Aa.single,Bool.false_eq_true]at hs<;>simp only [Ag]at h
 case bool|int|nilPtr|nilSlice|nilMap|nilFunc|nilIface=>subst h;rfl
 case str=>obtain ⟨_,rfl,_⟩:=h;rfl
 case ptr=>obtain ⟨_,_,_,_,rfl⟩:=h;rfl
 case slice=>obtain ⟨_,_,_,_,rfl,_⟩:=h;rfl
 case gslice=>obtain ⟨_,_,_,_,_,rfl,_⟩:=h;rfl
 case map=>obtain ⟨_,_,rfl⟩:=h;rfl
 case func=>obtain ⟨_,_,rfl,_⟩:=h;rfl
 case iface=>obtain ⟨_,rfl,_⟩:=h;rfl
 case anyStr=>obtain ⟨_,rfl,_⟩:=h;rfl
 case gbytes=>obtain ⟨_,_,_,rfl,_⟩:=h;rfl
 case glen=>obtain ⟨_,_,_,rfl⟩:=h;rfl
 case svar=>obtain ⟨_,rfl,_⟩:=h;rfl
 case lst=>
  simp only [I0]at h
  obtain ⟨⟨_,_,⟨_,_,rfl⟩|⟨_,_,_,_,rfl,_⟩⟩,_⟩:=h<;>rfl
 case lptr=>obtain ⟨_,_,_,_,_,rfl,_⟩:=h;rfl
 case vec=>obtain ⟨_,_,_,_,rfl,_⟩:=h;rfl
 case vptr=>obtain ⟨_,_,_,rfl,_⟩:=h;rfl
theorem Ag.cells {a:Aa} {v:Value} {cs:List Aa} (h:Ag ρ μ a v) (hc:a.cells=some cs):Ay ρ μ cs v.cells.toList:=by
 cases a<;>simp only [Aa.cells,oI,reduceCtorEq]at hc
 case agg=>
  subst hc
  simp only [Ag]at h
  obtain ⟨a,rfl,h⟩:=h
  exact h
 all_goals
  subst hc
  have hv:v.cells.toList=[v]:=by
   have c:=h.Q1 (by rfl)
   cases v<;>first|rfl|(simp [Value.oneCell']at c)
  rw [hv]
  simp only [Ay]
  exact ⟨v,[],rfl,⟨by rfl,h⟩,rfl⟩
end
section
variable (ρ:Env) (μ:Aq)
def AbE (e:Entry) (m:MapEntry):Prop:=e.key.single=true∧Ag ρ μ e.key m.key∧Ag ρ μ e.val m.val∧m.born=e.born
def Cb:List Entry→List MapEntry→Prop
 |[],ms=>ms=[]
 |e::es,ms=>∃m rest,ms=m::rest∧AbE ρ μ e m∧Cb es rest
def CI:Block→Option Obj→Nat×Nat→Prop
 |.cells vs,o,(δ,m)=>∃c e,o=some (.cells c e (0,0))∧δ+m≤c.size∧∀(i:Nat) (a:Aa),vs[i]?=some a→∃v,c[δ+i]?=some v∧a.single=true∧Ag ρ μ a v
 |.map es d,o,δ=>δ=(0,0)∧∃ms:Array MapEntry,o=some (.map ms d)∧Cb ρ μ es ms.toList
 |.typed e vs,o,(δ,m)=>∃c,o=some (.cells c e (0,0))∧(δ=0∧c.size=vs.length)∧δ+m≤c.size∧∀(i:Nat) (a:Aa),vs[i]?=some a→∃v,c[δ+i]?=some v∧a.single=true∧Ag ρ μ a v
 |.bytes n e,o,(δ,m)=>∃c,o=some (.cells c e (0,0))∧δ=0∧1≤BR m∧BR m≤n∧n≤1048576∧BR m≤Ca m∧Ca m≤c.size∧∀i,i<Ca m→∃x:UInt8,c[i]?=some (.int .u8 x.toNat)
 |.sbytes t e,o,(δ,m)=>∃c,o=some (.cells c e (0,0))∧δ=0∧1≤BR m∧(BR m:Int)≤t.den ρ∧t.den ρ≤1048576∧BR m≤Ca m∧Ca m≤c.size∧∀i,i<Ca m→∃x:UInt8,c[i]?=some (.int .u8 x.toNat)
 |.list i es,o,(δ,m)=>∃c e,o=some (.cells c e (0,0))∧δ=0∧(ρ.lst i).length≤BR m∧BR m≤1048576∧BR m≤Ca m∧Ca m*es≤c.size∧BU μ.Bg es c 0 (ρ.lst i)
 |.smap i,o,δ=>δ=(0,0)∧∃(ms:Array MapEntry) (d:Nat),o=some (.map ms d)∧Jp μ.Bg (ρ.map i) ms.toList
def AU (h:Al) (r:Nat):Prop:=∃b B δ,h.get b=some B∧μ b=some (r,δ)
structure Y8 (h:Al) (w:World):Prop where
 AY:∀g o,ρ.AY g=some o→w.heap[g]?=some o∧¬AU μ h g
 Bg:∀g o,μ.Bg g=some o→w.heap[g]?=some o∧¬AU μ h g
 facts:h.fx.AL ρ
structure AO (h:Al) (w:World):Prop where
 fresh:∀b,h.next≤b→μ b=none
 blk:∀b B,h.get b=some B→∃r δ,μ b=some (r,δ)∧CI ρ μ B w.heap[r]? δ
 inj:∀b b' B B' r δ δ',h.get b=some B→h.get b'=some B'→μ b=some (r,δ)→μ b'=some (r,δ')→b=b'
 AY:Y8 ρ μ h w
end
section
variable {ρ:Env} {μ μ':Aq}
theorem AbE.mono (h:μ.le μ') {e:Entry} {m:MapEntry} (x:AbE ρ μ e m):AbE ρ μ' e m:=⟨x.1,x.2.1.mono h,x.2.2.1.mono h,x.2.2.2⟩
theorem Cb.mono (h:μ.le μ'):∀{c:List Entry} {ms:List MapEntry},Cb ρ μ c ms→Cb ρ μ' c ms
 |[],_,e=>e
 |_::_,_,e=>let ⟨m,rest,e1,e2,e3⟩:=e;⟨m,rest,e1,e2.mono h,Cb.mono h e3⟩
theorem CI.mono (h:μ.le μ') {B:Block} {o:Option Obj} {δ:Nat×Nat} (x:CI ρ μ B o δ):CI ρ μ' B o δ:=by
 cases B with
 |cells vs=>
  obtain ⟨c,e,d,j,hc⟩:=x
  exact ⟨c,e,d,j,fun i a ha=>let ⟨v,h1,h2,h3⟩:=hc i a ha;⟨v,h1,h2,h3.mono h⟩⟩
 |map es clock=>
  obtain ⟨g,ms,d,u⟩:=x
  exact ⟨g,ms,d,u.mono h⟩
 |typed t vs=>
  obtain ⟨c,d,hs,j,hc⟩:=x
  exact ⟨c,d,hs,j,fun i a ha=>let ⟨v,h1,h2,h3⟩:=hc i a ha;⟨v,h1,h2,h3.mono h⟩⟩
 |bytes n t=>exact x
 |sbytes n t=>exact x
 |list i es=>obtain ⟨c,e,q,k,y,A,z,D,C⟩:=x;exact ⟨c,e,q,k,y,A,z,D,BU.mono h.Bg C⟩
 |smap i=>obtain ⟨g,ms,c,q,k⟩:=x;exact ⟨g,ms,c,q,Jp.mono h.Bg k⟩
theorem CI.some {B:Block} {o:Option Obj} {δ:Nat×Nat} (x:CI ρ μ B o δ):∃x,o=some x:=by
 cases B with
 |cells vs=>obtain ⟨c,e,d,_⟩:=x;exact ⟨_,d⟩
 |map es clock=>obtain ⟨_,ms,d,_⟩:=x;exact ⟨_,d⟩
 |typed t vs=>obtain ⟨c,d,_⟩:=x;exact ⟨_,d⟩
 |bytes n t=>obtain ⟨c,d,_⟩:=x;exact ⟨_,d⟩
 |sbytes n t=>obtain ⟨c,d,_⟩:=x;exact ⟨_,d⟩
 |list i es=>obtain ⟨c,e,d,_⟩:=x;exact ⟨_,d⟩
 |smap i=>obtain ⟨_,ms,c,d,_⟩:=x;exact ⟨_,d⟩
theorem AO.lt {h:Al} {w:World} (H:AO ρ μ h w) {b:Nat} {B:Block} {r:Nat} {δ:Nat×Nat} (hb:h.get b=some B) (d:μ b=some (r,δ)):r<w.heap.size:=by
 obtain ⟨j,g,c,hB⟩:=H.blk b B hb
 rw [d]at c
 simp only [oI,Prod.mk.injEq]at c
 obtain ⟨rfl,rfl⟩:=c
 obtain ⟨x,hx⟩:=hB.some
 rcases Nat.lt_or_ge r w.heap.size with h'|h'
 ·exact h'
 ·simp [Array.getElem?_eq_none h']at hx
theorem AO.F9 {h:Al} {w:World} (H:AO ρ μ h w) {b:Nat} {B:Block} (hb:h.get b=some B):b<h.next:=by
 obtain ⟨r,δ,c,_⟩:=H.blk b B hb
 rcases Nat.lt_or_ge b h.next with h'|h'
 ·exact h'
 ·rw [H.fresh b h']at c;cases c
end
structure Aw (ρ:Env) (μ:Aq) (h:Al) (w:World) (μ':Aq) (h':Al) (w':World):Prop where
 le:μ.le μ'
 rel:AO ρ μ' h' w'
 size:w.heap.size≤w'.heap.size
 kept:∀r,r<w.heap.size→¬AU μ h r→w'.heap[r]?=w.heap[r]?∧¬AU μ' h' r
 os:w'.os=w.os
 output:w'.output=w.output
 next:h.next≤h'.next
 old:∀b,b<h.next→μ' b=μ b
 icy:∀g o,μ'.Bg g=some o→μ.Bg g=some o∨AU μ h g∨w.heap.size≤g
 fx:h'.fx=h.fx
theorem Aw.refl {ρ:Env} {μ:Aq} {h:Al} {w:World} (H:AO ρ μ h w):Aw ρ μ h w μ h w:=
 ⟨μ.le_refl,H,Nat.le_refl _,fun _ _ h=>⟨rfl,h⟩,rfl,rfl,Nat.le_refl _,fun _ _=>rfl,fun _ _ h=>.inl h,rfl⟩
theorem Aw.trans {ρ:Env} {μ μ' q:Aq} {h x u:Al} {w w' j:World} (g:Aw ρ μ h w μ' x w') (c:Aw ρ μ' x w' q u j):
  Aw ρ μ h w q u j where
 le:=Aq.le_trans g.le c.le
 rel:=c.rel
 size:=Nat.le_trans g.size c.size
 kept:=fun r y d=>by
  obtain ⟨e,z⟩:=g.kept r y d
  obtain ⟨C,v⟩:=c.kept r (Nat.lt_of_lt_of_le y g.size) z
  exact ⟨C.trans e,v⟩
 os:=c.os.trans g.os
 output:=c.output.trans g.output
 next:=Nat.le_trans g.next c.next
 old:=fun b hb=>(c.old b (Nat.lt_of_lt_of_le hb g.next)).trans (g.old b hb)
 icy:=fun k o A=>by
  rcases c.icy k o A with h1|h1|h1
  ·exact g.icy k o h1
  ·rcases Nat.lt_or_ge k w.heap.size with hlt|hge
   ·by_cases d:AU μ h k
    ·exact .inr (.inl d)
    ·exact absurd h1 (g.kept k hlt d).2
   ·exact .inr (.inr hge)
  ·exact .inr (.inr (Nat.le_trans g.size h1))
 fx:=c.fx.trans g.fx
theorem AO.drew {ρ:Env} {μ:Aq} {h:Al} {w:World} (H:AO ρ μ h w):AO ρ μ h {w with drawn:=w.drawn+1}:=⟨H.fresh,H.blk,H.inj,⟨H.AY.AY,H.AY.Bg,H.AY.facts⟩⟩
theorem Y8.of {ρ:Env} {μ μ':Aq} {h c:Al} {w w':World} (F:Y8 ρ μ h w) (k:∀r,r<w.heap.size→¬AU μ h r→w'.heap[r]?=w.heap[r]?∧¬AU μ' c r) (j:μ'.Bg=μ.Bg) (hx:c.fx=h.fx):Y8 ρ μ' c w':=by
 have key:∀g (o:Obj),w.heap[g]?=some o∧¬AU μ h g→w'.heap[g]?=some o∧¬AU μ' c g:=fun g o ⟨h1,h2⟩=>by
  obtain ⟨q,d⟩:=k g (Array.getElem?_eq_some_iff.1 h1).1 h2
  exact ⟨q.trans h1,d⟩
 exact ⟨fun g o hg=>key g o (F.AY g o hg),fun g o hg=>key g o (F.Bg g o (j▸hg)),hx▸F.facts⟩
theorem AO.Gr {ρ:Env} {μ μ':Aq} {h c:Al} {w w':World} (H:AO ρ μ h w) (g:∀r,r<w.heap.size→¬AU μ h r→w'.heap[r]?=w.heap[r]?∧¬AU μ' c r) (d:μ'.Bg=μ.Bg:=by rfl) (hx:c.fx=h.fx:=by rfl):
  Y8 ρ μ' c w':=H.AY.of g d hx
theorem Aw.drew {ρ:Env} {μ:Aq} {h:Al} {w:World} (H:AO ρ μ h w):Aw ρ μ h w μ h {w with drawn:=w.drawn+1}:=
 ⟨μ.le_refl,H.drew,Nat.le_refl _,fun _ _ h=>⟨rfl,h⟩,rfl,rfl,Nat.le_refl _,fun _ _=>rfl,fun _ _ h=>.inl h,rfl⟩
def Aq.put (μ:Aq) (b:Nat) (x:Yz):Aq:=⟨fun c=>if c=b then some x else μ c,μ.Bg⟩
theorem Aq.QE {μ:Aq} {b:Nat} {x:Yz} (h:μ b=Option.none):μ.le (μ.put b x):=⟨fun c y e=>by
 simp only [Aq.put]
 by_cases hc:c=b
 ·subst hc;rw [h]at e;cases e
 ·rw [if_neg hc];exact e,fun _ _ e=>e⟩
theorem Aq.BQ (μ:Aq) (b:Nat) (x:Yz):μ.put b x b=some x:=by simp [Aq.put]
theorem Aq.Cl (μ:Aq) {b c:Nat} (x:Yz) (h:c≠b):μ.put b x c=μ c:=by simp [Aq.put,h]
theorem Al.Bq (h:Al) (b c:Nat) (o:Option Block):(h.set b o).get c=if c=b then o else h.get c:=Tr.Bq _ _ _ _
theorem Al.JP (h:Al) (c:Nat) (B:Block):(h.add B).get c=if c=h.next then some B else h.get c:=Tr.Bq _ _ _ _
theorem Al.JF (h:Al) (b:Nat) (o:Option Block):(h.set b o).next=h.next:=rfl
theorem Al.JG (h:Al) (B:Block):(h.add B).next=h.next+1:=rfl
theorem World.D9 (w:World) (o:Obj) {r:Nat} (c:r<w.heap.size):(w.alloc o).heap[r]?=w.heap[r]?:=by
 show (w.heap.push o)[r]?=_
 rw [Array.getElem?_push,if_neg (by omega)]
theorem World.heap_alloc_new (w:World) (o:Obj):(w.alloc o).heap[w.heap.size]?=some o:=by
 show (w.heap.push o)[w.heap.size]?=_
 simp
theorem Aw.add {ρ:Env} {μ:Aq} {h:Al} {w:World} (H:AO ρ μ h w) (B:Block) (o:Obj) (δ:Nat×Nat)
  (hB:∀μ':Aq,μ.le μ'→CI ρ μ' B (some o) δ):Aw ρ μ h w (μ.put h.next (w.heap.size,δ)) (h.add B) (w.alloc o):=by
 have u:μ.le (μ.put h.next (w.heap.size,δ)):=Aq.QE (H.fresh _ (Nat.le_refl _))
 have q:∀b d r j,(h.add B).get b=some d→μ.put h.next (w.heap.size,δ) b=some (r,j)→(b=h.next∧r=w.heap.size)∨(h.get b=some d∧μ b=some (r,j)∧r<w.heap.size):=fun b d r j hb c=>by
  rw [Al.JP]at hb
  by_cases e:b=h.next
  ·subst e
   rw [Aq.BQ]at c
   simp only [oI,Prod.mk.injEq]at c
   exact .inl ⟨rfl,c.1.symm⟩
  ·rw [if_neg e]at hb
   rw [Aq.Cl _ _ e]at c
   exact .inr ⟨hb,c,H.lt hb c⟩
 have k:∀r,r<w.heap.size→¬AU μ h r→(w.alloc o).heap[r]?=w.heap[r]?∧¬AU (μ.put h.next (w.heap.size,δ)) (h.add B) r:=fun r v x=>⟨World.D9 _ _ v,by
  rintro ⟨b,d,j,hb,c⟩
  rcases q _ _ _ _ hb c with ⟨_,e⟩|⟨g,n,_⟩
  ·omega
  ·exact x ⟨b,d,j,g,n⟩⟩
 refine ⟨u,⟨fun b hb=>?_,fun b d hb=>?_,fun b N M J r O D C A y z=>?_,H.Gr k⟩,?_,k,rfl,rfl,Nat.le_succ _,fun b hb=>Aq.Cl _ _ (by omega),fun _ _ h=>.inl h,rfl⟩
 ·rw [Al.JG]at hb
  rw [Aq.Cl _ _ (by omega)]
  exact H.fresh b (by omega)
 ·rw [Al.JP]at hb
  by_cases e:b=h.next
  ·subst e
   rw [if_pos rfl]at hb
   simp only [oI]at hb
   subst hb
   exact ⟨_,_,Aq.BQ _ _ _,by rw [World.heap_alloc_new];exact hB _ u⟩
  ·rw [if_neg e]at hb
   obtain ⟨r,j,c,v⟩:=H.blk b d hb
   exact ⟨r,j,by rw [Aq.Cl _ _ e];exact c,by rw [World.D9 _ _ (H.lt hb c)];exact v.mono u⟩
 ·rcases q _ _ _ _ C y with ⟨e1,e2⟩|⟨g1,n1,l1⟩<;>rcases q _ _ _ _ A z with ⟨e3,e4⟩|⟨g2,n2,l2⟩
  ·rw [e1,e3]
  ·omega
  ·omega
  ·exact H.inj _ _ _ _ _ _ _ g1 g2 n1 n2
 ·show w.heap.size≤(w.heap.push o).size;simp
theorem AO.drop {ρ:Env} {μ:Aq} {h:Al} {w:World} (H:AO ρ μ h w) (d:Al) (u:d.next=h.next) (g:d.fx=h.fx) (hs:∀b B,d.get b=some B→h.get b=some B):AO ρ μ d w:=
 ⟨fun b hb=>H.fresh b (u▸hb),fun b B hb=>H.blk b B (hs b B hb),fun _ _ _ _ _ _ _ k j v q=>H.inj _ _ _ _ _ _ _ (hs _ _ k) (hs _ _ j) v q,
  H.Gr (fun _ _ o=>⟨rfl,fun ⟨c,B,δ,hc,hm⟩=>o ⟨c,B,δ,hs c B hc,hm⟩⟩) rfl g⟩
theorem Aw.change {ρ:Env} {μ:Aq} {h:Al} {w w':World} (H:AO ρ μ h w) {b:Nat} {q:Block} {r:Nat} {δ:Nat×Nat} (hb:h.get b=some q) (k:μ b=some (r,δ)) (B:Block)
  (C:∀i,i≠r→w'.heap[i]?=w.heap[i]?) (Q:w'.heap.size=w.heap.size) (z:w'.os=w.os) (u:w'.output=w.output) (hB:CI ρ μ B w'.heap[r]? δ):Aw ρ μ h w μ (h.set b (some B)) w':=by
 have j:∀s,s<w.heap.size→¬AU μ h s→w'.heap[s]?=w.heap[s]?∧¬AU μ (h.set b (some B)) s:=fun s hs y=>by
  have o:s≠r:=fun e=>y ⟨b,q,δ,hb,e▸k⟩
  refine ⟨C s o,?_⟩
  rintro ⟨c,g,v,hc,d⟩
  rw [Al.Bq]at hc
  by_cases e:c=b
  ·subst e
   rw [k]at d
   simp only [oI,Prod.mk.injEq]at d
   exact o d.1.symm
  ·rw [if_neg e]at hc
   exact y ⟨c,g,v,hc,d⟩
 refine ⟨μ.le_refl,⟨fun c hc=>H.fresh c hc,fun c g hc=>?_,fun c Z X U s δ1 R P O M N=>?_,H.Gr j⟩,by omega,j,z,u,Nat.le_refl _,fun _ _=>rfl,fun _ _ h=>.inl h,rfl⟩
 ·rw [Al.Bq]at hc
  by_cases e:c=b
  ·subst e
   rw [if_pos rfl]at hc
   simp only [oI]at hc
   subst hc
   exact ⟨r,δ,k,hB⟩
  ·rw [if_neg e]at hc
   obtain ⟨s,v,d,J⟩:=H.blk c g hc
   refine ⟨s,v,d,?_⟩
   rw [C s (fun D=>e (H.inj _ _ _ _ _ _ _ hc hb d (D▸k)))]
   exact J
 ·have A:∀c g,(h.set b (some B)).get c=some g→∃x,h.get c=some x:=fun c g hc=>by
   rw [Al.Bq]at hc
   by_cases e:c=b
   ·exact ⟨q,e▸hb⟩
   ·rw [if_neg e]at hc;exact ⟨g,hc⟩
  obtain ⟨_,g1⟩:=A _ _ P
  obtain ⟨_,g2⟩:=A _ _ O
  exact H.inj _ _ _ _ _ _ _ g1 g2 M N
end Go.AM
end
section
namespace Go.AM
theorem Ac {α β:Type} {o:Option α} {f:α→Option β} {b:β} (h:AF o f=some b):∃a,o=some a∧f a=some b:=by
 cases o with
 |none=>exact absurd h (by simp [AF])
 |some a=>exact ⟨a,rfl,h⟩
theorem Ap {α:Type} {c:Bool} {x:Option α} {b:α} (h:(bif c then x else none)=some b):c=true∧x=some b:=by
 cases c with
 |false=>simp at h
 |true=>exact ⟨rfl,h⟩
theorem AX {a b:Nat}:Nat.ble a b=true↔a≤b:=⟨Nat.le_of_ble_eq_true,Nat.ble_eq_true_of_le⟩
theorem Is {a b:Nat}:Nat.blt a b=true↔a<b:=AX
theorem An {a b:Nat}:Nat.beq a b=true↔a=b:=⟨Nat.eq_of_beq_eq_true,fun h=>by subst h;simp⟩
theorem JJ:∀l:List Aa,Ad l=l.length
 |[]=>rfl
 |_::r=>by show Ad r+1=_;rw [JJ r];rfl
theorem K0:∀(l:List Aa) (n:Nat),nth l n=l[n]?
 |[],n=>by simp;rfl
 |x::r,0=>rfl
 |x::r,n+1=>by show nth r n=_;rw [K0 r n];simp
theorem Ji:∀(n:Nat) (l:List Aa),dropped n l=l.drop n
 |0,l=>rfl
 |n+1,[]=>rfl
 |n+1,x::r=>by show dropped n r=_;rw [Ji n r];rfl
theorem Gq:∀{n:Nat} {l r:List Aa},taken n l=some r→r=l.take n∧n≤l.length
 |0,l,r,h=>by
  have h:some []=some r:=h
  simp only [oI]at h
  subst h;simp
 |n+1,[],r,h=>by have h:none=some r:=h;cases h
 |n+1,x::l,r,h=>by
  have h:(AF (taken n l) fun r=>some (x::r))=some r:=h
  obtain ⟨s,hs,c⟩:=Ac h
  simp only [oI]at c
  subst c
  obtain ⟨rfl,hl⟩:=Gq hs
  exact ⟨rfl,by simp;omega⟩
theorem Ka {c r:List Aa} {i n:Nat} (h:cut c i n=some r):r.length=n∧(n=0∨i+n≤c.length)∧∀k,r[k]?=if k<n then c[i+k]? else none:=by
 unfold cut at h
 rw [Ji]at h
 obtain ⟨rfl,hl⟩:=Gq h
 rw [List.length_drop]at hl
 refine ⟨by simp;omega,by omega,fun k=>?_⟩
 rw [List.getElem?_take]
 split
 ·rw [List.getElem?_drop]
 ·rfl
theorem OW:∀{vs c r:List Aa},over vs c=some r→r.length=c.length∧vs.length≤c.length∧∀k,r[k]?=if k<vs.length then vs[k]? else c[k]?
 |[],c,r,h=>by
  have h:some c=some r:=h
  simp only [oI]at h
  subst h;simp
 |v::vs,[],r,h=>by have h:none=some r:=h;cases h
 |v::vs,x::c,r,h=>by
  have h:(AF (over vs c) fun r=>some (v::r))=some r:=h
  obtain ⟨s,hs,d⟩:=Ac h
  simp only [oI]at d
  subst d
  obtain ⟨j,g,o⟩:=OW hs
  refine ⟨by simp [j],by simpa using g,fun k=>?_⟩
  cases k with
  |zero=>simp
  |succ k=>simp [o k]
theorem Hz {vs:List Aa}:∀{i:Nat} {c r:List Aa},splice vs i c=some r→
  r.length=c.length∧i+vs.length≤c.length∧∀k,r[k]?=if i≤k∧k<i+vs.length then vs[k-i]? else c[k]?
 |0,c,r,h=>by
  have h:over vs c=some r:=h
  obtain ⟨d,o,g⟩:=OW h
  exact ⟨d,by omega,fun k=>by rw [g k];simp⟩
 |i+1,[],r,h=>by have h:none=some r:=h;cases h
 |i+1,x::c,r,h=>by
  have h:(AF (splice vs i c) fun r=>some (x::r))=some r:=h
  obtain ⟨s,hs,j⟩:=Ac h
  simp only [oI]at j
  subst j
  obtain ⟨d,o,g⟩:=Hz hs
  refine ⟨by simp [d],by simp;omega,fun k=>?_⟩
  cases k with
  |zero=>rw [if_neg (by omega)];rfl
  |succ k=>
   rw [List.getElem?_cons_succ,List.getElem?_cons_succ,g k]
   by_cases hk:i≤k∧k<i+vs.length
   ·rw [if_pos hk,if_pos (by omega)];congr 1;omega
   ·rw [if_neg hk,if_neg (by omega)]
theorem ZR (z:List Aa):∀n,rep z n=(List.replicate n z).flatten
 |0=>rfl
 |n+1=>by show z++rep z n=_;rw [ZR z n,List.replicate_succ,List.flatten_cons]
theorem IT (z:List Aa):∀n,(rep z n).length=n*z.length
 |0=>by simp [show rep z 0=[]from rfl]
 |n+1=>by
  show (z++rep z n).length=_
  rw [lA,IT z n,Nat.succ_mul];omega
theorem WG (z:List Aa):∀(n k:Nat),k<n*z.length→(rep z n)[k]?=z[k%z.length]?
 |0,k,h=>by omega
 |n+1,k,h=>by
  show (z++rep z n)[k]?=_
  by_cases hk:k<z.length
  ·rw [List.getElem?_append_left hk,Nat.mod_eq_of_lt hk]
  ·rw [List.getElem?_append_right (by omega),WG z n _ (by rw [Nat.succ_mul]at h;omega)]
   rw [←Nat.mod_eq_sub_mod (by omega)]
theorem Dm:∀l:List Nat,Iz l=l.length
 |[]=>rfl
 |_::r=>by show Iz r+1=_;rw [Dm r];rfl
theorem F8:∀(l:List Nat) (n:Nat),Cm l n=l[n]?
 |[],n=>by simp;rfl
 |x::r,0=>rfl
 |x::r,n+1=>by show Cm r n=_;rw [F8 r n];simp
theorem Ll:∀(n:Nat) (l:List Nat),MI n l=l.drop n
 |0,l=>rfl
 |n+1,[]=>rfl
 |n+1,x::r=>by show MI n r=_;rw [Ll n r];rfl
theorem Lj:∀{n:Nat} {l r:List Nat},Uo n l=some r→r=l.take n
 |0,l,r,h=>by
  have h:some []=some r:=h
  simp only [oI]at h
  subst h;simp
 |n+1,[],r,h=>by have h:none=some r:=h;cases h
 |n+1,x::l,r,h=>by
  have h:(AF (Uo n l) fun r=>some (x::r))=some r:=h
  obtain ⟨s,hs,c⟩:=Ac h
  simp only [oI]at c
  subst c
  rw [Lj hs];rfl
theorem DA:∀{a b:List Nat},O7 a b=true↔a=b
 |[],[]=>by simp;rfl
 |[],b::y=>by constructor<;>intro h<;>(first|cases h|(have h:false=true:=h;cases h))
 |a::x,[]=>by constructor<;>intro h<;>(first|cases h|(have h:false=true:=h;cases h))
 |a::x,b::y=>by
  show (Nat.beq a b&&O7 x y)=true↔_
  rw [aT,An,DA,List.cons.injEq]
theorem Xf:∀l:List Entry,Adr l=l.length
 |[]=>rfl
 |_::r=>by show Adr r+1=_;rw [Xf r];rfl
theorem Ko {a b:ByteArray} (h:strOf a=strOf b):a=b:=by
 unfold strOf at h
 have:a.data.toList=b.data.toList:=by
  generalize a.data.toList=x at h
  generalize b.data.toList=y at h
  induction x generalizing y with
  |nil=>cases y with
   |nil=>rfl
   |cons _ _=>simp at h
  |cons c x ih=>cases y with
   |nil=>simp at h
   |cons d y=>
    simp only [List.map_cons,List.cons.injEq]at h
    rw [UInt8.toNat_inj.1 h.1,ih y h.2]
 cases a;cases b
 simp only at this
 congr 1
 exact Array.toList_inj.1 this
theorem CR (a b:ByteArray):O7 (strOf a) (strOf b)=(a.toList==b.toList):=by
 rw [Bool.eq_iff_iff,DA,ByteArray.toList_eq,ByteArray.toList_eq]
 simp only [beq_iff_eq]
 constructor
 ·intro h;rw [Ko h]
 ·intro h;unfold strOf;rw [h]
theorem YV (a b:ByteArray):ltL (strOf a) (strOf b)=Op.bytesLess a.toList b.toList:=by
 rw [ByteArray.toList_eq,ByteArray.toList_eq]
 unfold strOf
 generalize a.data.toList=x
 generalize b.data.toList=y
 induction x generalizing y with
 |nil=>cases y<;>rfl
 |cons c x ih=>
  cases y with
  |nil=>rfl
  |cons d y=>
   show (Nat.blt c.toNat d.toNat||(Nat.beq c.toNat d.toNat&&ltL (x.map (·.toNat)) (y.map (·.toNat))))=(decide (c<d) ||(c==d&&Op.bytesLess x y))
   rw [ih y]
   congr 1
   ·rw [Bool.eq_iff_iff,Is];simp [UInt8.lt_iff_toNat_lt]
   ·congr 1
    rw [Bool.eq_iff_iff,An];simp [UInt8.toNat_inj]
theorem BL (a:ByteArray):(strOf a).length=a.size:=by
 unfold strOf;rw [List.length_map];rfl
theorem beq_iff' {a b:Bool}:beq a b=true↔a=b:=by rw [beq_eq];simp
theorem Aa.Te {x y:Aa} (h:x.eqC y=true):x=y:=by
 unfold Aa.eqC at h
 split at h<;>first
  |rfl
  |(cases h;done)
  |(simp only [aT,An]at h;obtain ⟨⟨⟨rfl,rfl⟩,rfl⟩,rfl⟩:=h;rfl)
  |(simp only [aT,An]at h;obtain ⟨rfl,rfl⟩:=h;rfl)
  |(rw [An]at h;rw [h];done)
  |(rw [DA]at h;rw [h];done)
  |(rw [SB.Bk h];done)
  |(rw [aT,Dq]at h;obtain ⟨rfl,h⟩:=h;rw [ST.Bk h];done)
  |(rw [aT,aT,aT,beq_iff',An,An]at h;obtain ⟨rfl,rfl,rfl,h⟩:=h;rw [ST.Bk h];done)
  |(rw [aT,aT,An,An]at h;obtain ⟨rfl,h,rfl⟩:=h;rw [ST.Bk h];done)
  |(rw [aT,aT,An,An]at h;obtain ⟨rfl,rfl,h⟩:=h;rw [ST.Bk h];done)
  |(rw [aT,aT,aT,An,An,An]at h;obtain ⟨rfl,rfl,h,rfl⟩:=h;rw [ST.Bk h];done)
theorem Aa.KJ:∀{x y:List Aa},Aa.Adq x y=true→x=y
 |[],[],_=>rfl
 |[],_::_,h=>by cases h
 |_::_,[],h=>by cases h
 |a::x,b::y,h=>by
  have h:(a.eqC b&&Aa.Adq x y)=true:=h
  rw [aT]at h
  rw [Aa.Te h.1,Aa.KJ h.2]
theorem Aa.Dt {x y:Aa} (h:x.eq y=true):x=y:=by
 unfold Aa.eq at h
 split at h
 ·rw [aT,aT,An]at h
  obtain ⟨rfl,d,c⟩:=h
  rw [Aa.KJ d,Aa.KJ c]
 ·exact Aa.Te h
theorem Aa.Dh:∀{x y:List Aa},Aa.P0 x y=true→x=y
 |[],[],_=>rfl
 |[],_::_,h=>by cases h
 |_::_,[],h=>by cases h
 |a::x,b::y,h=>by
  have h:(a.eq b&&Aa.P0 x y)=true:=h
  rw [aT]at h
  rw [Aa.Dt h.1,Aa.Dh h.2]
theorem Pz:∀{x y:List (List Aa)},Af7 x y=true→x=y
 |[],[],_=>rfl
 |[],_::_,h=>by cases h
 |_::_,[],h=>by cases h
 |a::x,b::y,h=>by
  have h:(Aa.P0 a b&&Af7 x y)=true:=h
  rw [aT]at h
  rw [Aa.Dh h.1,Pz h.2]
theorem AR.Dt {x y:AR} (h:x.eq y=true):x=y:=by
 unfold AR.eq at h
 split at h
 ·rw [Pz h]
 ·rw [Nat.eq_of_beq_eq_true h]
 ·rw [aT]at h;rw [Nat.eq_of_beq_eq_true h.1,ST.Bk h.2]
 ·rw [aT]at h;rw [Nat.eq_of_beq_eq_true h.1,ST.Bk h.2]
 ·cases h
theorem AR.Dh:∀{x y:List AR},AR.P0 x y=true→x=y
 |[],[],_=>rfl
 |[],_::_,h=>by cases h
 |_::_,[],h=>by cases h
 |a::x,b::y,h=>by
  have h:(a.eq b&&AR.P0 x y)=true:=h
  rw [aT]at h
  rw [AR.Dt h.1,AR.Dh h.2]
theorem Gg {x y:Aa} {v:Bool}:∀{l:List (Aa×Aa×Bool)},MM x y l=some v→(x,y,v)∈l
 |[],h=>by cases h
 |e::r,h=>by
  have h:(bif x.eq e.1&&y.eq e.2.1 then some e.2.2 else MM x y r)=some v:=h
  cases c:x.eq e.1&&y.eq e.2.1 with
  |true=>
   rw [c]at h
   simp only [cond_true,oI]at h
   rw [aT]at c
   rw [Aa.Dt c.1,Aa.Dt c.2,←h]
   exact List.mem_cons_self
  |false=>rw [c]at h;exact List.mem_cons_of_mem _ (Gg h)
theorem Ph {x y v:Aa}:∀{l:List (Aa×Aa×Aa)},Aaw x y l=some v→(x,y,v)∈l
 |[],h=>by cases h
 |e::r,h=>by
  have h:(bif x.eq e.1&&y.eq e.2.1 then some e.2.2 else Aaw x y r)=some v:=h
  cases c:x.eq e.1&&y.eq e.2.1 with
  |true=>
   rw [c]at h
   simp only [cond_true,oI]at h
   rw [aT]at c
   rw [Aa.Dt c.1,Aa.Dt c.2,←h]
   exact List.mem_cons_self
  |false=>rw [c]at h;exact List.mem_cons_of_mem _ (Ph h)
theorem K2 {i:Nat} {v:ST×Nat×Nat}:∀{l:List (Nat×ST×Nat×Nat)},WU i l=some v→(i,v)∈l
 |[],h=>by cases h
 |e::r,h=>by
  have h:(bif Nat.beq e.1 i then some e.2 else WU i r)=some v:=h
  cases c:Nat.beq e.1 i with
  |true=>
   rw [c]at h
   simp only [cond_true,oI]at h
   rw [←h,←Nat.eq_of_beq_eq_true c]
   exact List.mem_cons_self
  |false=>rw [c]at h;exact List.mem_cons_of_mem _ (K2 h)
theorem CE {i:Nat} {v:ST}:∀{l:List (Nat×ST)},EU i l=some v→(i,v)∈l
 |[],h=>by cases h
 |e::r,h=>by
  have h:(bif Nat.beq e.1 i then some e.2 else EU i r)=some v:=h
  cases c:Nat.beq e.1 i with
  |true=>
   rw [c]at h
   simp only [cond_true,oI]at h
   rw [←h,←Nat.eq_of_beq_eq_true c]
   exact List.mem_cons_self
  |false=>rw [c]at h;exact List.mem_cons_of_mem _ (CE h)
theorem Io {i:Nat} {t:ST} {v:List Aa}:∀{l:List (Nat×ST×List Aa)},Pg i t l=some v→(i,t,v)∈l
 |[],h=>by cases h
 |e::r,h=>by
  have h:(bif Nat.beq e.1 i&&e.2.1.eq t then some e.2.2 else Pg i t r)=some v:=h
  cases c:Nat.beq e.1 i&&e.2.1.eq t with
  |true=>
   rw [c]at h
   simp only [cond_true,oI]at h
   rw [aT]at c
   rw [←Nat.eq_of_beq_eq_true c.1,←ST.Bk c.2,←h]
   exact List.mem_cons_self
  |false=>rw [c]at h;exact List.mem_cons_of_mem _ (Io h)
theorem Pf {i:Nat} {k:Aa} {v:Option (List Aa)}:∀{l:List (Nat×Aa×Option (List Aa))},Aau i k l=some v→(i,k,v)∈l
 |[],h=>by cases h
 |e::r,h=>by
  have h:(bif Nat.beq e.1 i&&k.eq e.2.1 then some e.2.2 else Aau i k r)=some v:=h
  cases c:Nat.beq e.1 i&&k.eq e.2.1 with
  |true=>
   rw [c]at h
   simp only [cond_true,oI]at h
   rw [aT]at c
   rw [←Nat.eq_of_beq_eq_true c.1,Aa.Dt c.2,←h]
   exact List.mem_cons_self
  |false=>rw [c]at h;exact List.mem_cons_of_mem _ (Pf h)
theorem Pd {i j:Nat} {k:Aa} {cs:List Aa}:∀{l:List (Nat×Aa×List Aa×Nat)},Aat i k cs l=some j→(i,k,cs,j)∈l
 |[],h=>by cases h
 |e::r,h=>by
  have h:(bif Nat.beq e.1 i&&(k.eq e.2.1&&Aa.P0 cs e.2.2.1)then some e.2.2.2 else Aat i k cs r)=some j:=h
  cases c:Nat.beq e.1 i&&(k.eq e.2.1&&Aa.P0 cs e.2.2.1)with
  |true=>
   rw [c]at h
   simp only [cond_true,oI]at h
   rw [aT,aT]at c
   rw [←Nat.eq_of_beq_eq_true c.1,Aa.Dt c.2.1,Aa.Dh c.2.2,←h]
   exact List.mem_cons_self
  |false=>rw [c]at h;exact List.mem_cons_of_mem _ (Pd h)
theorem Pj {t u:ST} {n:Nat}:∀{l:List (ST×Nat×ST)},Aax t n l=some u→∃m,n≤m∧(t,m,u)∈l
 |[],h=>by cases h
 |e::r,h=>by
  have h:(bif t.eq e.1&&Nat.ble n e.2.1 then some e.2.2 else Aax t n r)=some u:=h
  cases c:t.eq e.1&&Nat.ble n e.2.1 with
  |true=>
   rw [c]at h
   simp only [cond_true,oI]at h
   rw [aT]at c
   refine ⟨e.2.1,Nat.le_of_ble_eq_true c.2,?_⟩
   rw [ST.Bk c.1,←h]
   exact List.mem_cons_self
  |false=>
   rw [c]at h
   obtain ⟨m,g,d⟩:=Pj h
   exact ⟨m,g,List.mem_cons_of_mem _ d⟩
theorem Fc {p:List AR} {j:Nat}:∀{l:List (Nat×List AR)},JI p l=some j→(j,p)∈l
 |[],h=>by cases h
 |e::r,h=>by
  have h:(bif AR.P0 p e.2 then some e.1 else JI p r)=some j:=h
  cases c:AR.P0 p e.2 with
  |true=>
   rw [c]at h
   simp only [cond_true,oI]at h
   rw [AR.Dh c,←h]
   exact List.mem_cons_self
  |false=>rw [c]at h;exact List.mem_cons_of_mem _ (Fc h)
theorem OR {p:List AR} {j:Nat}:∀{l:List (Nat×List AR)},ZK p l=some j→(j,p)∈l
 |[],h=>by cases h
 |e::r,h=>by
  have h:(bif AR.P0 p e.2 then some e.1 else ZK p r)=some j:=h
  cases c:AR.P0 p e.2 with
  |true=>
   rw [c]at h
   simp only [cond_true,oI]at h
   rw [AR.Dh c,←h]
   exact List.mem_cons_self
  |false=>rw [c]at h;exact List.mem_cons_of_mem _ (OR h)
end Go.AM
end
section
namespace Go.AM
section
variable {P:Program} {Γ:Ao} {ρ:Env} {μ:Aq} {tm:Tr Aa} {a:Act} {w:World}
def Bf (ρ:Env) (μ:Aq) (tm:Tr Aa) (a:Act):Prop:=∀t,Ag ρ μ (EB (tm.get t)) (a.tmps.getD t undef)
theorem Bf.mono {c:Aq} (d:Bf ρ μ tm a) (h:μ.le c):Bf ρ c tm a:=fun t=>(d t).mono h
mutual
theorem Dj:∀v:Value,Ag ρ μ (GP v) v
 |.bool b=>by simp only [GP,Ag,SB.den]
 |.int k n=>by simp only [GP,Ag,ST.den]
 |.string s=>by simp only [GP,Ag];exact ⟨s,rfl,rfl⟩
 |.pointer none=>by simp only [GP,Ag]
 |.pointer (some _)=>trivial
 |.slice none 0 0=>by simp only [GP,Ag]
 |.slice none 0 (_+1)=>trivial
 |.slice none (_+1) _=>trivial
 |.slice (some _) _ _=>trivial
 |.map none=>by simp only [GP,Ag]
 |.map (some _)=>trivial
 |.nilFunc=>by simp only [GP,Ag]
 |.nilIface=>by simp only [GP,Ag]
 |.agg ⟨cs⟩=>by
  simp only [GP]
  split
  ·rename_i h
   simp only [Ag]
   exact ⟨⟨cs⟩,rfl,NO cs h⟩
  ·trivial
 |.float _ _=>trivial
 |.complex _ _ _=>trivial
 |.chan _=>trivial
 |.func _ _ _=>trivial
 |.iface _ _=>trivial
 |.tuple _=>trivial
theorem NO:∀l:List Value,(Ty l).all (·.single)=true→Ay ρ μ (Ty l) l
 |[],_=>by simp only [Ty,Ay]
 |v::r,h=>by
  simp only [Ty,List.all_cons,aT]at h
  simp only [Ty,Ay]
  exact ⟨v,r,rfl,⟨h.1,Dj v⟩,NO r h.2⟩
end
theorem As (c:Bf ρ μ tm a) (x:Operand):Ag ρ μ (ev tm (AJ x)) (a.eval x):=by
 cases x with
 |tmp t=>exact c t
 |const v=>exact Dj v
 |global g=>trivial
 |func f=>
  show Ag ρ μ (.func f [] []) (.func (.func f) #[] #[])
  simp only [Ag]
  exact ⟨#[],#[],rfl,by simp only [A9],by simp only [A9]⟩
theorem Gi (c:Bf ρ μ tm a):∀l:List Operand,A9 ρ μ (RC tm (Cg l)) (l.map a.eval)
 |[]=>by show A9 ρ μ [] [];simp only [A9]
 |x::r=>by
  show A9 ρ μ (ev tm (AJ x)::RC tm (Cg r)) _
  simp only [A9,List.map_cons]
  exact ⟨_,_,rfl,As c x,Gi c r⟩
theorem Bf.put (c:Bf ρ μ tm a) {d:Option Tmp} {v:Aa} {u:Value} (hd:∀t,d=some t→t<a.tmps.size) (h:Ag ρ μ v u):Bf ρ μ (DX tm d v) (a.put d u):=by
 cases d with
 |none=>exact c
 |some d=>
  intro t
  show Ag ρ μ (EB ((tm.set d (some v)).get t)) ((a.tmps.setIfInBounds d u).getD t undef)
  rw [Tr.Bq]
  have g:=hd d rfl
  by_cases e:t=d
  ·subst e
   rw [if_pos rfl]
   simpa [Array.getD_eq_getD_getElem?,g,EB]using h
  ·rw [if_neg e]
   have:=c t
   simpa [Array.getD_eq_getD_getElem?,Array.getElem?_setIfInBounds_ne (Ne.symm e)]using this
theorem Act.Mt (d:Option Tmp) (u:Value):(a.put d u).tmps.size=a.tmps.size:=by
 cases d<;>simp [Act.put]
theorem Ag.int {k:IntKind} {n:ST} {v:Value} (h:Ag ρ μ (.int k n) v):v=.int k (n.den ρ):=by simpa only [Ag]using h
theorem Ag.bool {b:SB} {v:Value} (h:Ag ρ μ (.bool b) v):v=.bool (b.den ρ):=by simpa only [Ag]using h
theorem Ag.agg {cs:List Aa} {v:Value} (h:Ag ρ μ (.agg cs) v):∃a:Array Value,v=.agg a∧Ay ρ μ cs a.toList:=by simpa only [Ag]using h
theorem Ag.tuple {cs:List Aa} {v:Value} (h:Ag ρ μ (.tuple cs) v):∃a:Array Value,v=.tuple a∧A9 ρ μ cs a.toList:=by simpa only [Ag]using h
theorem Ag.str {s:List Nat} {v:Value} (h:Ag ρ μ (.str s) v):∃b:ByteArray,v=.string b∧strOf b=s:=by simpa only [Ag]using h
theorem Ag.ptr {b c:Nat} {v:Value} (h:Ag ρ μ (.ptr b c) v):∃r δ m,μ b=some (r,δ,m)∧v=.pointer (some ⟨r,δ+c,none⟩):=by simpa only [Ag]using h
theorem Ag.slice {b d len c:Nat} {v:Value} (h:Ag ρ μ (.slice b d len c) v):
  ∃r δ m,μ b=some (r,δ,m)∧v=.slice (some ⟨r,δ+d,none⟩) len c∧len≤c:=by simpa only [Ag]using h
theorem Ag.gslice {b d len g:Nat} {v:Value} (h:Ag ρ μ (.gslice b d len g) v):
  ∃r δ m c,μ b=some (r,δ,m)∧v=.slice (some ⟨r,δ+d,none⟩) len c∧len≤c∧d+c*g≤m:=by simpa only [Ag]using h
theorem Ag.Oh {b:Nat} {v:Value} (h:Ag ρ μ (.map b) v):∃r,μ b=some (r,0,0)∧v=.map (some r):=by simpa only [Ag]using h
theorem Ag.func {f:FuncId} {x c:List Aa} {v:Value} (h:Ag ρ μ (.func f x c) v):∃g d:Array Value,v=.func (.func f) g d∧A9 ρ μ x g.toList∧A9 ρ μ c d.toList:=by simpa only [Ag]using h
theorem Ag.iface {t:TypeId} {x:Aa} {v:Value} (h:Ag ρ μ (.iface t x) v):∃u,v=.iface t u∧Ag ρ μ x u:=by simpa only [Ag]using h
theorem Ag.anyStr {n:Nat} {v:Value} (h:Ag ρ μ (.anyStr n) v):∃b:ByteArray,v=.string b∧1≤b.size∧b.size≤n:=by simpa only [Ag]using h
theorem Ag.gbytes {b:Nat} {v:Value} (h:Ag ρ μ (.gbytes b) v):∃r m,μ b=some (r,0,m)∧v=.slice (some ⟨r,0,none⟩) (BR m) (Ca m)∧1≤BR m∧BR m≤Ca m:=by simpa only [Ag]using h
theorem Ag.glen {b:Nat} {v:Value} (h:Ag ρ μ (.glen b) v):∃r m,μ b=some (r,0,m)∧v=.int .i64 (BR m:Nat):=by simpa only [Ag]using h
theorem Ag.svar {i:Nat} {v:Value} (h:Ag ρ μ (.svar i) v):∃b:ByteArray,v=.string b∧strOf b=ρ.str i:=by simpa only [Ag]using h
theorem Ag.lst {f:Bool} {i c:Nat} {n:ST} {v:Value} (h:Ag ρ μ (.lst f i c n) v):I0 μ.Bg (.list c (ρ.lst i)) v∧n.den ρ=((ρ.lst i).length:Int)∧(f=true→∃p,v=.slice p (ρ.lst i).length (ρ.lst i).length):=by simpa only [Ag]using h
theorem Ag.lptr {i c:Nat} {j:ST} {v:Value} (h:Ag ρ μ (.lptr i j c) v):∃r δ a e ps,v=.pointer (some ⟨r,δ+c,none⟩)∧IF μ.Bg r a e∧0≤j.den ρ∧(ρ.lst i)[(j.den ρ).toNat]?=some ps∧AW μ.Bg a δ ps:=by simpa only [Ag]using h
theorem Ag.vec {b c:Nat} {n:ST} {v:Value} (h:Ag ρ μ (.vec b c n) v):∃r m k,μ b=some (r,0,m)∧v=.slice (some ⟨r,0,none⟩) k (Ca m)∧n.den ρ=(k:Int)∧k≤BR m∧BR m≤Ca m:=by simpa only [Ag]using h
theorem Ag.vptr {b d c:Nat} {j:ST} {v:Value} (h:Ag ρ μ (.vptr b d j c) v):∃r m,μ b=some (r,0,m)∧v=.pointer (some ⟨r,(j.den ρ).toNat*d+c,none⟩)∧0≤j.den ρ:=by simpa only [Ag]using h
theorem Ag.Et {f:Bool} {i d:Nat} {n:ST} {v:Value} (h:Ag ρ μ (.lst f i d n) v):∃p c,v=.slice p (ρ.lst i).length c∧(ρ.lst i).length≤c∧n.den ρ=((ρ.lst i).length:Int)∧
  ((ρ.lst i).length≠0→∃r δ a e,p=some ⟨r,δ,none⟩∧IF μ.Bg r a e∧BU μ.Bg d a δ (ρ.lst i)):=by
 obtain ⟨j,g,_⟩:=h.lst
 simp only [I0]at j
 obtain ⟨c,hc,⟨e,p,rfl⟩|⟨r,δ,a,t,rfl,o,k⟩⟩:=j
 ·exact ⟨p,c,by rw [e];rfl,hc,g,fun h=>absurd (by rw [e];rfl) h⟩
 ·exact ⟨_,c,rfl,hc,g,fun _=>⟨r,δ,a,t,rfl,o,k⟩⟩
theorem BU.get {Bg:Nat→Option Obj} {c:Nat} {a:Array Value}:∀{l:List (List PV)} {δ:Nat},BU Bg c a δ l→∀(i:Nat) (ps:List PV),l[i]?=some ps→ps.length=c∧AW Bg a (δ+i*c) ps
 |[],_,_,i,ps,h=>by simp at h
 |qs::r,δ,e,i,ps,h=>by
  simp only [BU]at e
  obtain ⟨d,g,j⟩:=e
  cases i with
  |zero=>
   simp only [List.getElem?_cons_zero,oI]at h
   subst h
   exact ⟨d,by simpa using g⟩
  |succ i=>
   obtain ⟨o,k⟩:=BU.get j i ps (by simpa using h)
   exact ⟨o,by rw [Nat.add_mul,Nat.one_mul];rw [show δ+(i*c+c)=δ+c+i*c by omega];exact k⟩
section
variable {Bg:Nat→Option Obj} {a:Array Value}
theorem AW.append_iff:∀{x y:List PV} {δ:Nat},AW Bg a δ (x++y)↔AW Bg a δ x∧AW Bg a (δ+x.length) y
 |[],y,δ=>by simp only [List.nil_append,AW,true_and,lN,Nat.add_zero]
 |p::x,y,δ=>by
  simp only [List.cons_append,AW,lC]
  rw [AW.append_iff (x:=x) (y:=y) (δ:=δ+1),and_assoc]
  rw [show δ+1+x.length=δ+(x.length+1) by omega]
theorem BB {c:Nat}:∀{l:List (List PV)} {δ:Nat},BU Bg c a δ l↔(∀ps∈l,ps.length=c)∧AW Bg a δ l.flatten
 |[],δ=>by simp only [BU,List.flatten_nil,AW,List.not_mem_nil,false_implies,implies_true,and_self]
 |ps::l,δ=>by
  simp only [BU,List.flatten_cons,AW.append_iff,BB (l:=l),List.mem_cons,forall_eq_or_imp]
  constructor
  ·rintro ⟨h1,h2,h3,h4⟩
   exact ⟨⟨h1,h3⟩,h2,by rw [h1];exact h4⟩
  ·rintro ⟨⟨h1,h3⟩,h2,h4⟩
   exact ⟨h1,h2,h3,by rw [h1]at h4;exact h4⟩
theorem BN {c:Nat}:∀{l:List (List PV)},(∀ps∈l,ps.length=c)→l.flatten.length=l.length*c
 |[],_=>by simp
 |ps::l,h=>by
  rw [List.flatten_cons,lA,BN fun x hx=>h x (List.mem_cons_of_mem _ hx),h ps List.mem_cons_self,lC,Nat.add_mul]
  omega
end
theorem I0.T6 {x:Aa} {p:PV} {v:Value} (hd:LR ρ x p) (h:I0 μ.Bg p v):Ag ρ μ x v∧x.single=true:=by
 cases x<;>simp only [LR]at hd
 case bool|int|nilPtr=>subst hd;simp only [I0]at h;exact ⟨by simp only [Ag];exact h,rfl⟩
 case str=>subst hd;simp only [I0]at h;exact ⟨by simp only [Ag];exact h,rfl⟩
 case svar=>subst hd;simp only [I0]at h;exact ⟨by simp only [Ag];exact h,rfl⟩
 case lst f i es n=>
  obtain ⟨rfl,rfl,c⟩:=hd
  exact ⟨by simp only [Ag];exact ⟨h,c,fun e=>by cases e⟩,rfl⟩
theorem AW.T6 {c:Array Value}:∀{d:List Aa} {ps:List PV} {δ:Nat},FK ρ d ps→AW μ.Bg c δ ps→d.length=ps.length∧∀(i:Nat) (x:Aa),d[i]?=some x→∃v,c[δ+i]?=some v∧x.single=true∧Ag ρ μ x v
 |[],ps,δ,hd,h=>by
  simp only [FK]at hd
  subst hd
  exact ⟨rfl,fun i x hx=>by simp at hx⟩
 |x::d,ps,δ,hd,h=>by
  simp only [FK]at hd
  obtain ⟨p,rest,rfl,C,A⟩:=hd
  simp only [AW]at h
  obtain ⟨⟨u,D,q⟩,o⟩:=h
  obtain ⟨z,H⟩:=AW.T6 A o
  refine ⟨by simp [z],fun i y g=>?_⟩
  cases i with
  |zero=>
   simp only [List.getElem?_cons_zero,oI]at g
   subst g
   obtain ⟨j,k⟩:=q.T6 C
   exact ⟨u,D,k,j⟩
  |succ i=>
   obtain ⟨v,j,k⟩:=H i y (by simpa using g)
   exact ⟨v,by rw [←j];congr 1;omega,k⟩
theorem AW.cs {c:Array Value} {d:List Aa} {ps:List PV} (hd:FK ρ d ps) (h:AW μ.Bg c 0 ps) (hs:c.size=ps.length):Ay ρ μ d c.toList:=by
 obtain ⟨k,j⟩:=AW.T6 hd h
 refine Ay.Ky (by rw [k,←hs];rfl) fun i x hx=>?_
 obtain ⟨v,g,o⟩:=j i x hx
 exact ⟨v,by rw [Array.getElem?_toList];simpa using g,o⟩
theorem BV {x:Aa} {s:List Nat} {v:Value} (hs:Eo ρ x=some s) (h:Ag ρ μ x v):∃b:ByteArray,v=.string b∧strOf b=s:=by
 cases x<;>simp only [Eo,oI,reduceCtorEq]at hs
 case str=>subst hs;exact h.str
 case svar=>subst hs;exact h.svar
theorem EV (d:Γ.AL ρ) {op:BinOp} {x y:ST} (h:D0 Γ op x y=true):EG op (x.den ρ) (y.den ρ)=true:=by
 unfold D0 at h
 split at h
 ·rename_i v hv
  obtain ⟨c,_⟩:=CS d hv
  subst h
  exact c.symm
 ·cases h
theorem Ja (c:Γ.AL ρ) {x y:ST} (h:D0 Γ .geq x y=true):y.den ρ≤x.den ρ:=by simpa [EG]using EV c h
theorem U2 (c:Γ.AL ρ) {x y:ST} (h:D0 Γ .gtr x y=true):y.den ρ<x.den ρ:=by simpa [EG]using EV c h
theorem MT (c:Γ.AL ρ) {x y:ST} (h:D0 Γ .lss x y=true):x.den ρ<y.den ρ:=by simpa [EG]using EV c h
theorem GA (c:Γ.AL ρ) {x y:ST} (h:D0 Γ .leq x y=true):x.den ρ≤y.den ρ:=by simpa [EG]using EV c h
theorem Us {x:Aa} {n:Nat} (h:CL x=some n):∃k,x=.int k (.lit (.ofNat n)):=by
 unfold CL at h
 split at h
 ·rename_i k m
  simp only [oI]at h
  exact ⟨k,by rw [h]⟩
 ·cases h
theorem Cv {x:Aa} {n:Nat} {v:Value} (h:CL x=some n) (hv:Ag ρ μ x v):∃k,v=.int k (n:Int):=by
 obtain ⟨k,rfl⟩:=Us h
 exact ⟨k,hv.int⟩
def Bx (P:Program) (ρ:Env) (μ:Aq) (a:Act) (o:Oper) (w:World) (v:Aa):Prop:=∃c,(execOp a.eval o).run P w=.ok (.value c) w∧Ag ρ μ v c
theorem E2 (P:Program) (w:World) (t:TypeId) {n:Option Nat} (h:Ed P t=some n):
  (isAgg t).run P w=.ok n.isSome w∧(∀m,n=some m→(sizeOf t).run P w=.ok m w):=by
 unfold Ed at h
 split at h
 ·rename_i fs i g j
  simp only [oI]at h
  subst h
  refine ⟨by simp [isAgg,run_underlying g],fun m c=>?_⟩
  simp only [oI]at c
  subst c
  simp [sizeOf,typeInfo,j]
 ·rename_i k e i g j
  simp only [oI]at h
  subst h
  refine ⟨by simp [isAgg,run_underlying g],fun m c=>?_⟩
  simp only [oI]at c
  subst c
  simp [sizeOf,typeInfo,j]
 ·rename_i d i o q g j
  simp only [oI]at h
  subst h
  refine ⟨?_,fun m c=>by cases c⟩
  cases d<;>first|(simp [isAgg,run_underlying g];done) |skip
  ·exact (q _ _ rfl).elim
  ·exact (o _ rfl).elim
 ·cases h
theorem B4 {t:TypeId} {n:Nat} (h:Bj P t=some n):(sizeOf t).run P w=.ok n w:=by
 unfold Bj at h
 cases e:P.info? t with
 |none=>rw [e]at h;cases h
 |some i=>
  rw [e]at h
  simp only [Option.map_some,oI]at h
  simp [sizeOf,typeInfo,e,h]
theorem Ay.extract {cs r:List Aa} {x:Array Value} {c n:Nat} (h:Ay ρ μ cs x.toList) (hc:cut cs c n=some r):Ay ρ μ r (x.extract c (c+n)).toList:=by
 obtain ⟨j,o,d⟩:=Ka hc
 have hl:cs.length=x.size:=by simpa using h.length
 refine Ay.Ky ?_ fun i b hb=>?_
 ·rw [j,Array.length_toList,Array.size_extract]
  omega
 ·rw [d]at hb
  split at hb
  ·rename_i k
   obtain ⟨v,hv,hs,g⟩:=h.get hb
   refine ⟨v,?_,hs,g⟩
   rw [Array.getElem?_toList,Array.getElem?_extract]
   rw [Array.getElem?_toList]at hv
   rw [if_pos (by omega)]
   exact hv
  ·cases hb
theorem ME {t:TypeId} {n:Option Nat} {cs:List Aa} {x:Array Value} {c:Nat} {v:Aa} (o:Ed P t=some n) (hx:Ay ρ μ cs x.toList) (h:JE cs c n=some v):
  ∃d,(part t x c).run P w=.ok d w∧Ag ρ μ v d:=by
 obtain ⟨j,k⟩:=E2 P w t o
 unfold JE at h
 cases n with
 |none=>
  simp only at h
  rw [K0]at h
  obtain ⟨d,hv,_,g⟩:=hx.get h
  rw [Array.getElem?_toList]at hv
  exact ⟨d,by simp [part,j,hv],g⟩
 |some n=>
  simp only at h
  obtain ⟨r,g,h⟩:=Ac h
  simp only [oI]at h
  subst h
  refine ⟨.agg (x.extract c (c+n)),by simp [part,j,k n rfl],?_⟩
  simp only [Ag]
  exact ⟨_,rfl,hx.extract g⟩
theorem SO {o:Oper} {x:Operand} (c:o.op=.move x∨o.op=.assign x) (d:Bf ρ μ tm a):Bx P ρ μ a o w (ev tm (AJ x)):=
 ⟨a.eval x,by rcases c with c|c<;>simp [execOp,c],As d x⟩
theorem UA {o:Oper} {c x y:Operand} (g:o.op=.pick c x y) (d:Bf ρ μ tm a) {v:Aa} (h:Aaf (ev tm (AJ c)) (ev tm (AJ x)) (ev tm (AJ y))=some v):Bx P ρ μ a o w v:=by
 have hc:=As d c
 unfold Aaf at h
 split at h
 ·rename_i b hb
  rw [hb]at hc
  have hc:=hc.bool
  simp only [oI]at h
  subst h
  refine ⟨if b then a.eval x else a.eval y,?_,?_⟩
  ·simp [execOp,g,hc,asBool,SB.den]
  ·cases b
   ·exact As d y
   ·exact As d x
 ·cases h
theorem UB {o:Oper} {x:Operand} (g:o.op=.nilCheck x) (q:Bf ρ μ tm a) {v:Aa} (h:Aak (ev tm (AJ x))=some v):Bx P ρ μ a o w v:=by
 have hx:=As q x
 unfold Aak at h
 split at h
 ·rename_i b k hb
  simp only [oI]at h
  rw [hb]at hx
  subst h
  have d:=hx
  obtain ⟨r,δ,_,_,e⟩:=hx.ptr
  exact ⟨a.eval x,by simp [execOp,g,e],d⟩
 ·rename_i f y c hb
  simp only [oI]at h
  rw [hb]at hx
  subst h
  have d:=hx
  obtain ⟨_,_,e,_⟩:=hx.func
  exact ⟨a.eval x,by simp [execOp,g,e],d⟩
 ·rename_i i j k hb
  simp only [oI]at h
  rw [hb]at hx
  subst h
  have d:=hx
  obtain ⟨r,δ,_,_,_,e,_⟩:=hx.lptr
  exact ⟨a.eval x,by simp [execOp,g,e],d⟩
 ·rename_i b u j k hb
  simp only [oI]at h
  rw [hb]at hx
  subst h
  have d:=hx
  obtain ⟨r,m,_,e,_⟩:=hx.vptr
  exact ⟨a.eval x,by simp [execOp,g,e],d⟩
 ·cases h
theorem SP {o:Oper} {t:TypeId} {x:Operand} (d:o.op=.makeInterface t x) (c:Bf ρ μ tm a) (hc:P.concrete t=true):Bx P ρ μ a o w (.iface t (ev tm (AJ x))):=
 ⟨.iface t (a.eval x),by simp [execOp,d,run_makeInterface,hc],by simp only [Ag];exact ⟨_,rfl,As c x⟩⟩
theorem UG {o:Oper} {f:FuncId} {x c:Array Operand} (g:o.op=.makeFunc (.func f) x c) (d:Bf ρ μ tm a):Bx P ρ μ a o w (.func f (RC tm (Cg x.toList)) (RC tm (Cg c.toList))):=
 ⟨.func (.func f) (x.map a.eval) (c.map a.eval),by simp [execOp,g,Instr.makeFunc],by
  simp only [Ag]
  exact ⟨_,_,rfl,by simpa using Gi d x.toList,by simpa using Gi d c.toList⟩⟩
theorem Yf {o:Oper} {x:Operand} {i:Nat} (g:o.op=.extract x i) (c:Bf ρ μ tm a) {v:Aa} (h:Af5 (ev tm (AJ x)) i=some v):Bx P ρ μ a o w v:=by
 have hx:=As c x
 unfold Af5 at h
 split at h
 ·rename_i vs hb
  rw [hb]at hx
  obtain ⟨y,e,j⟩:=hx.tuple
  rw [K0]at h
  obtain ⟨d,hv,k⟩:=j.get h
  rw [Array.getElem?_toList]at hv
  exact ⟨d,by simp [execOp,g,e,Instr.extract,hv],k⟩
 ·cases h
theorem Addr.Bl (r o n:Nat):(⟨r,o,none⟩:Addr).add n=⟨r,o+n,none⟩:=by
 unfold Addr.add
 by_cases h:n=0
 ·subst h;simp
 ·rw [if_neg h]
theorem QS {o:Oper} {t:TypeId} {x:Operand} {f:Nat} (u:o.op=.fieldAddr t x f) (A:Bf ρ μ tm a) {fs:Array Field} {g:Field} {n:Nat} (z:P.underlying t=some (.struct fs)) (hf:fs[f]?=some g)
  (k:Bj P g.type=some (n+1)) {v:Aa} (h:Rd g.offset (ev tm (AJ x))=some v):Bx P ρ μ a o w v:=by
 have hx:=As A x
 unfold Rd at h
 split at h
 ·rename_i b d hb
  simp only [oI]at h
  subst h
  rw [hb]at hx
  obtain ⟨r,δ,m,y,e⟩:=hx.ptr
  refine ⟨.pointer (some ⟨r,δ+(d+g.offset),none⟩),?_,?_⟩
  ·have hs:=B4 (w:=w) k
   simp [execOp,u,e,Instr.fieldAt,run_underlying z,hf,Instr.sureAddr,fieldPlace,hs,Addr.Bl,Nat.add_assoc]
  ·simp only [Ag];exact ⟨r,δ,_,y,rfl⟩
 ·rename_i i j d hb
  simp only [oI]at h
  subst h
  rw [hb]at hx
  obtain ⟨r,δ,c,t,ps,e,q,D⟩:=hx.lptr
  refine ⟨.pointer (some ⟨r,δ+(d+g.offset),none⟩),?_,?_⟩
  ·have hs:=B4 (w:=w) k
   simp [execOp,u,e,Instr.fieldAt,run_underlying z,hf,Instr.sureAddr,fieldPlace,hs,Addr.Bl,Nat.add_assoc]
  ·simp only [Ag];exact ⟨r,δ,c,t,ps,rfl,q,D⟩
 ·rename_i b C j d hb
  simp only [oI]at h
  subst h
  rw [hb]at hx
  obtain ⟨r,m,y,e,q⟩:=hx.vptr
  refine ⟨.pointer (some ⟨r,(j.den ρ).toNat*C+(d+g.offset),none⟩),?_,?_⟩
  ·have hs:=B4 (w:=w) k
   simp [execOp,u,e,Instr.fieldAt,run_underlying z,hf,Instr.sureAddr,fieldPlace,hs,Addr.Bl,Nat.add_assoc]
  ·simp only [Ag];exact ⟨r,m,y,rfl,q⟩
 ·cases h
theorem SQ {o:Oper} {t:TypeId} {x:Operand} {f:Nat} (u:o.op=.field t x f) (c:Bf ρ μ tm a) {fs:Array Field} {g:Field} {n:Option Nat} (z:P.underlying t=some (.struct fs)) (hf:fs[f]?=some g)
  (d:Ed P g.type=some n) {v:Aa} (h:UO g.offset n (ev tm (AJ x))=some v):Bx P ρ μ a o w v:=by
 have hx:=As c x
 unfold UO at h
 split at h
 ·rename_i cs hb
  rw [hb]at hx
  obtain ⟨y,e,A⟩:=hx.agg
  obtain ⟨j,q,k⟩:=ME (w:=w) d A h
  exact ⟨j,by simp [execOp,u,e,Instr.field,run_underlying z,hf,asAgg,q],k⟩
 ·cases h
theorem UF (M:Γ.AL ρ) {o:Oper} {t e:TypeId} {x i:Operand} (O:o.op=.indexAddr t x i) (R:Bf ρ μ tm a) {n:Nat} (Q:P.underlying t=some (.slice e)) (N:Bj P e=some n) {v:Aa}
  (h:Aa6 Γ n (ev tm (AJ x)) (ev tm (AJ i)) (CL (ev tm (AJ i)))=some v):Bx P ρ μ a o w v:=by
 have hx:=As R x
 have H:=As R i
 have key:∀(b y len r δ m c:Nat),WZ n b y len (CL (ev tm (AJ i)))=some v→μ b=some (r,δ,m)→a.eval x=.slice (some ⟨r,δ+y,none⟩) len c→Bx P ρ μ a o w v:=fun b y len r δ m c h u z=>by
  unfold WZ at h
  obtain ⟨j,hj,h⟩:=Ac h
  obtain ⟨d,h⟩:=Ap h
  simp only [oI]at h
  subst h
  obtain ⟨k,A⟩:=Cv hj H
  have hs:=B4 (w:=w) N
  have d:=Is.1 d
  refine ⟨.pointer (some ⟨r,δ+(y+j*n),none⟩),?_,?_⟩
  ·simp [execOp,O,z,A,Instr.indexAt,asIntOf,run_underlying Q,hs,d,Addr.Bl,Nat.add_assoc]
  ·simp only [Ag];exact ⟨r,δ,_,u,rfl⟩
 unfold Aa6 at h
 split at h
 ·rename_i b U len hb
  rw [hb]at hx
  unfold AdO at h
  split at h
  ·rename_i k t J
   obtain ⟨hc,h⟩:=Ap h
   simp only [oI]at h
   subst h
   rw [aT,aT,An]at hc
   obtain ⟨rfl,g,D⟩:=hc
   have g:=Ja M g
   have D:=MT M D
   rw [J]at H
   have A:=H.int
   obtain ⟨r,m,c,u,z,C,_,_⟩:=hx.vec
   rw [C]at D
   have g:0≤t.den ρ:=g
   obtain ⟨q,hq⟩:∃q:Nat,t.den ρ=(q:Int):=⟨(t.den ρ).toNat,by omega⟩
   have d:q<c:=by omega
   have hs:=B4 (w:=w) N
   refine ⟨.pointer (some ⟨r,(t.den ρ).toNat*n+0,none⟩),?_,?_⟩
   ·rw [hq]at A⊢
    simp [execOp,O,z,A,Instr.indexAt,asIntOf,run_underlying Q,hs,d,Addr.Bl,Nat.add_assoc]
   ·simp only [Ag]
    exact ⟨r,m,u,rfl,g⟩
  ·cases h
 ·rename_i f j U len hb
  rw [hb]at hx
  unfold AdP at h
  split at h
  ·rename_i k t J
   obtain ⟨hc,h⟩:=Ap h
   simp only [oI]at h
   subst h
   rw [aT,aT,An]at hc
   obtain ⟨rfl,g,D⟩:=hc
   have g:=Ja M g
   have D:=MT M D
   rw [J]at H
   have A:=H.int
   obtain ⟨p,c,z,hc,C,X⟩:=hx.Et
   rw [C]at D
   have g:0≤t.den ρ:=g
   obtain ⟨m,u⟩:∃m:Nat,t.den ρ=(m:Int):=⟨(t.den ρ).toNat,by omega⟩
   have d:m<(ρ.lst j).length:=by omega
   obtain ⟨r,δ,cs,ty,rfl,k1,Z⟩:=X (by omega)
   have hs:=B4 (w:=w) N
   obtain ⟨ps,hps⟩:∃ps,(ρ.lst j)[m]?=some ps:=⟨_,List.getElem?_eq_getElem d⟩
   refine ⟨.pointer (some ⟨r,δ+m*n,none⟩),?_,?_⟩
   ·rw [u]at A
    simp [execOp,O,z,A,Instr.indexAt,asIntOf,run_underlying Q,hs,d,Addr.Bl,Nat.add_assoc]
   ·simp only [Ag]
    refine ⟨r,δ+m*n,cs,ty,ps,rfl,k1,g,?_,(Z.get m ps hps).2⟩
    rw [u];exact hps
  ·cases h
 ·rename_i b y len cap hb
  rw [hb]at hx
  obtain ⟨r,δ,m,u,z,_⟩:=hx.slice
  exact key _ _ _ _ _ _ _ h u z
 ·rename_i b y len cap hb
  rw [hb]at hx
  obtain ⟨r,δ,m,c,u,z,_⟩:=hx.gslice
  exact key _ _ _ _ _ _ _ h u z
 ·cases h
theorem QO {o:Oper} {t e:TypeId} {x i:Operand} {len:Nat} (z:o.op=.indexAddr t x i) (d:Bf ρ μ tm a) {n:Nat} (H:P.underlying t=some (.array len e)) (y:Bj P e=some n) {v:Aa}
  (h:QL len n (ev tm (AJ x)) (CL (ev tm (AJ i)))=some v):Bx P ρ μ a o w v:=by
 have hx:=As d x
 have q:=As d i
 unfold QL at h
 split at h
 ·rename_i b g hb
  obtain ⟨j,A,h⟩:=Ac h
  obtain ⟨c,h⟩:=Ap h
  simp only [oI]at h
  subst h
  rw [hb]at hx
  obtain ⟨r,δ,m,D,C⟩:=hx.ptr
  obtain ⟨k,u⟩:=Cv A q
  have hs:=B4 (w:=w) y
  have c:=Is.1 c
  refine ⟨.pointer (some ⟨r,δ+(g+j*n),none⟩),?_,?_⟩
  ·simp [execOp,z,C,u,Instr.indexAt,asIntOf,run_underlying H,hs,c,Addr.Bl,Nat.add_assoc,Instr.sureAddr]
  ·simp only [Ag];exact ⟨r,δ,_,D,rfl⟩
 ·cases h
theorem Ye {o:Oper} {t e:TypeId} {x i:Operand} {len:Nat} (H:o.op=.index t x i) (d:Bf ρ μ tm a) {n:Nat} {g:Option Nat} (N:P.underlying t=some (.array len e)) (z:Bj P e=some n) (ha:Ed P e=some g) {v:Aa}
  (h:Afx len n g (ev tm (AJ x)) (CL (ev tm (AJ i)))=some v):Bx P ρ μ a o w v:=by
 have hx:=As d x
 have q:=As d i
 unfold Afx at h
 split at h
 ·rename_i cs hb
  obtain ⟨j,J,h⟩:=Ac h
  obtain ⟨c,h⟩:=Ap h
  rw [hb]at hx
  obtain ⟨y,M,O⟩:=hx.agg
  obtain ⟨k,u⟩:=Cv J q
  have hs:=B4 (w:=w) z
  have c:=Is.1 c
  obtain ⟨A,D,C⟩:=ME (w:=w) ha O h
  refine ⟨A,?_,C⟩
  simp [execOp,H,M,u,Instr.index,asIntOf,run_underlying N,hs,c,D]
 ·cases h
theorem UE {o:Oper} {t:TypeId} {x i:Operand} (C:o.op=.index t x i) (g:Bf ρ μ tm a) (J:P.underlying t=some .string) {v:Aa}
  (h:Aa5 (ev tm (AJ x)) (CL (ev tm (AJ i)))=some v):Bx P ρ μ a o w v:=by
 have hx:=As g x
 have z:=As g i
 unfold Aa5 at h
 split at h
 ·rename_i s hb
  obtain ⟨j,D,h⟩:=Ac h
  obtain ⟨c,hc,h⟩:=Ac h
  simp only [oI]at h
  subst h
  rw [hb]at hx
  obtain ⟨y,H,rfl⟩:=hx.str
  obtain ⟨k,A⟩:=Cv D z
  rw [F8]at hc
  unfold strOf at hc
  rw [List.getElem?_map]at hc
  obtain ⟨u,d,rfl⟩:=mS hc
  have q:j<y.size:=by
   have:=(List.getElem?_eq_some_iff.1 d).1
   simpa using this
  refine ⟨.int .u8 u.toNat,?_,by simp only [Ag,ST.den];rfl⟩
  have hg:y[j]?=some u:=by
   rw [ByteArray.getElem?_lt' _ _ q]
   rw [Array.getElem?_toList]at d
   have:=(Array.getElem?_eq_some_iff.1 d).2
   rw [←this];rfl
  simp [execOp,C,H,A,Instr.index,asIntOf,run_underlying J,hg]
 ·cases h
theorem UC (C:Γ.AL ρ) {o:Oper} {t:TypeId} {x:Operand} {c:Call} (u:o.op=.call c) (j:c.callee=.builtin .len) (d:c.args=#[x]) (g:c.argTypes=#[t]) (A:Bf ρ μ tm a)
  (y:P.underlying t=some .string) {v:Aa} (h:Aay Γ (ev tm (AJ x))=some v):Bx P ρ μ a o w v:=by
 have hx:=As A x
 unfold Aay at h
 split at h
 ·rename_i i hb
  obtain ⟨r,H,h⟩:=Ac h
  simp only [oI]at h
  subst h
  rw [hb]at hx
  obtain ⟨q,k,D⟩:=hx.svar
  refine ⟨.int .i64 q.size,?_,?_⟩
  ·simp [execOp,u,resolve,j,d,g,invoke,builtin,k,Builtin.len_,run_underlying y,goInt]
  ·have J:=K2 H
   have z:=(C.BA _ J).1
   simp only [Ag]
   rw [show (i,r).2.1=r.1 from rfl]at z
   rw [z,←D,BL]
 ·rename_i s hb
  simp only [oI]at h
  subst h
  rw [hb]at hx
  obtain ⟨q,k,rfl⟩:=hx.str
  refine ⟨.int .i64 q.size,?_,?_⟩
  ·simp [execOp,u,resolve,j,d,g,invoke,builtin,k,Builtin.len_,run_underlying y,goInt]
  ·simp only [lit,Ag,ST.den];rw [Dm,BL];rfl
 ·rename_i n hb
  simp only [oI]at h
  subst h
  rw [hb]at hx
  obtain ⟨q,k,_⟩:=hx.anyStr
  refine ⟨.int .i64 q.size,?_,trivial⟩
  simp [execOp,u,resolve,j,d,g,invoke,builtin,k,Builtin.len_,run_underlying y,goInt]
 ·cases h
theorem UD {o:Oper} {t e:TypeId} {x:Operand} {c:Call} (u:o.op=.call c) (j:c.callee=.builtin .len) (d:c.args=#[x]) (g:c.argTypes=#[t]) (C:Bf ρ μ tm a)
  (y:P.underlying t=some (.slice e)) {v:Aa} (h:Aaz (ev tm (AJ x))=some v):Bx P ρ μ a o w v:=by
 have hx:=As C x
 unfold Aaz at h
 split at h
 ·rename_i b A n cap hb
  simp only [oI]at h
  subst h
  rw [hb]at hx
  obtain ⟨r,δ,m,_,q,_⟩:=hx.slice
  refine ⟨.int .i64 n,?_,?_⟩
  ·simp [execOp,u,resolve,j,d,g,invoke,builtin,q,Builtin.len_,run_underlying y,goInt]
  ·simp only [lit,Ag,ST.den];rfl
 ·rename_i b A n cap hb
  simp only [oI]at h
  subst h
  rw [hb]at hx
  obtain ⟨r,δ,m,H,_,q,_⟩:=hx.gslice
  refine ⟨.int .i64 n,?_,?_⟩
  ·simp [execOp,u,resolve,j,d,g,invoke,builtin,q,Builtin.len_,run_underlying y,goInt]
  ·simp only [lit,Ag,ST.den];rfl
 ·rename_i hb
  simp only [oI]at h
  subst h
  rw [hb]at hx
  have q:a.eval x=.slice none 0 0:=by simpa only [Ag]using hx
  refine ⟨.int .i64 0,?_,?_⟩
  ·simp [execOp,u,resolve,j,d,g,invoke,builtin,q,Builtin.len_,run_underlying y,goInt]
  ·simp only [lit,Ag,ST.den];rfl
 ·rename_i b hb
  simp only [oI]at h
  subst h
  rw [hb]at hx
  obtain ⟨r,m,J,q,_⟩:=hx.gbytes
  refine ⟨.int .i64 (BR m:Nat),?_,?_⟩
  ·simp [execOp,u,resolve,j,d,g,invoke,builtin,q,Builtin.len_,run_underlying y,goInt]
  ·simp only [Ag];exact ⟨r,m,J,rfl⟩
 ·rename_i f i D n hb
  simp only [oI]at h
  subst h
  rw [hb]at hx
  obtain ⟨p,H,q,_,z,_⟩:=hx.Et
  refine ⟨.int .i64 (ρ.lst i).length,?_,?_⟩
  ·simp [execOp,u,resolve,j,d,g,invoke,builtin,q,Builtin.len_,run_underlying y,goInt]
  ·simp only [Ag];rw [z]
 ·rename_i b D n hb
  simp only [oI]at h
  subst h
  rw [hb]at hx
  obtain ⟨r,m,k,_,q,z,_⟩:=hx.vec
  refine ⟨.int .i64 k,?_,?_⟩
  ·simp [execOp,u,resolve,j,d,g,invoke,builtin,q,Builtin.len_,run_underlying y,goInt]
  ·simp only [Ag];rw [z]
 ·cases h
theorem Oc (ts:Array TypeId) (t:TypeId) (l c:Nat):Builtin.unsafeSliceData_ ts t #[.slice none l c]=pure (.pointer none):=rfl
theorem Ms (ts:Array TypeId) (t:TypeId) (p:Addr) (l c:Nat) (hc:c≠0):Builtin.unsafeSliceData_ ts t #[.slice (some p) l c]=pure (.pointer (some p)):=by
 have:Builtin.unsafeSliceData_ ts t #[.slice (some p) l c]=(if c≠0 then pure (.pointer (some p))else (viewAt p.block>>=fun v=>if v.isSome then pure (.pointer (some p))else (elemOf t>>=fun e=>newObj (.view p e)>>=fun n=>pure (.pointer (some ⟨n,0,none⟩))))):=rfl
 rw [this,if_pos hc]
theorem SM {o:Oper} {x:Operand} {c:Call} (k:o.op=.call c) (g:c.callee=.builtin .unsafeSliceData) (d:c.args=#[x]) (q:Bf ρ μ tm a)
  {v:Aa} (h:Ud (ev tm (AJ x))=some v):Bx P ρ μ a o w v:=by
 have hx:=As q x
 unfold Ud at h
 split at h
 ·rename_i hb
  simp only [oI]at h
  subst h
  rw [hb]at hx
  have j:a.eval x=.slice none 0 0:=by simpa only [Ag]using hx
  refine ⟨.pointer none,?_,by simp only [Ag]⟩
  simp [execOp,k,resolve,g,d,invoke,builtin,j,Oc]
 ·rename_i b hb
  simp only [oI]at h
  subst h
  rw [hb]at hx
  obtain ⟨r,m,u,j,z,y⟩:=hx.gbytes
  refine ⟨.pointer (some ⟨r,0,none⟩),?_,by simp only [Ag];exact ⟨r,0,m,u,rfl⟩⟩
  have hc:¬Ca m=0:=by omega
  simp [execOp,k,resolve,g,d,invoke,builtin,j,Ms _ _ _ _ _ hc]
 ·cases h
end
end Go.AM
end
section
namespace Go.AM
section
variable {P:Program} {Γ:Ao} {ρ:Env} {μ:Aq} {tm:Tr Aa} {a:Act} {w:World}
theorem HK (c:Nat):∀(l:List Value) (k:Nat) (cells:Array Value),c+k+l.length≤cells.size→
  ((l.zipIdx k).foldl (fun (cs:Array Value) (x:Value×Nat)=>cs.setIfInBounds (c+x.2) x.1) cells).size=cells.size∧
  ∀i,((l.zipIdx k).foldl (fun (cs:Array Value) (x:Value×Nat)=>cs.setIfInBounds (c+x.2) x.1) cells)[i]?=if c+k≤i∧i<c+k+l.length then l[i-(c+k)]? else cells[i]?
 |[],k,cells,h=>⟨rfl,fun i=>by rw [if_neg (by simp only [lN];omega)];rfl⟩
 |v::l,k,cells,h=>by
  simp only [lC]at h
  rw [List.zipIdx_cons,List.foldl_cons]
  obtain ⟨g,d⟩:=HK c l (k+1) (cells.setIfInBounds (c+k) v) (by simp;omega)
  refine ⟨by rw [g];simp,fun i=>?_⟩
  rw [d i]
  simp only [lC]
  by_cases hi:c+k=i
  ·subst hi
   rw [if_neg (by omega),if_pos (by omega),Array.getElem?_setIfInBounds_self_of_lt (by omega)]
   simp
  ·by_cases hj:c+(k+1)≤i∧i<c+(k+1)+l.length
   ·rw [if_pos hj,if_pos (by omega)]
    have:i-(c+k)=(i-(c+(k+1)))+1:=by omega
    rw [this,List.getElem?_cons_succ]
   ·rw [if_neg hj,if_neg (by omega),Array.getElem?_setIfInBounds_ne hi]
theorem Yg (c:Nat) (v cells:Array Value) (h:c+v.size≤cells.size):
  (v.zipIdx.foldl (fun (cs:Array Value) (x:Value×Nat)=>cs.setIfInBounds (c+x.2) x.1) cells).size=cells.size∧
  ∀i,(v.zipIdx.foldl (fun (cs:Array Value) (x:Value×Nat)=>cs.setIfInBounds (c+x.2) x.1) cells)[i]?=if c≤i∧i<c+v.size then v[i-c]? else cells[i]?:=by
 have:=HK c v.toList 0 cells (by simpa using h)
 rw [←Array.foldl_toList,Array.toList_zipIdx]
 simpa using this
theorem Ay.spliced {vs cs r:List Aa} {x y:Array Value} {c:Nat} (hx:Ay ρ μ cs x.toList) (d:Ay ρ μ vs y.toList) (h:splice vs c cs=some r):
  c+y.size≤x.size∧∀z:Array Value,z.size=x.size→(∀i,z[i]?=if c≤i∧i<c+y.size then y[i-c]? else x[i]?)→Ay ρ μ r z.toList:=by
 obtain ⟨o,u,g⟩:=Hz h
 have k:cs.length=x.size:=by simpa using hx.length
 have j:vs.length=y.size:=by simpa using d.length
 refine ⟨by omega,fun z q hg=>Ay.Ky (by rw [o,k,←q];simp) fun i b hb=>?_⟩
 rw [g i]at hb
 rw [Array.getElem?_toList,hg i]
 rw [j]at hb
 split at hb
 ·rename_i hc
  rw [if_pos hc]
  simpa using d.get hb
 ·rename_i hc
  rw [if_neg hc]
  simpa using hx.get hb
theorem Ov {cs r:List Aa} {x:Array Value} {v:Aa} {u:Value} {c size:Nat} (hx:Ay ρ μ cs x.toList) (hv:Ag ρ μ v u) (h:FG cs v c size=some r):
  u.cells.size=size∧c+u.cells.size≤x.size∧∀z:Array Value,z.size=x.size→(∀i,z[i]?=if c≤i∧i<c+u.cells.size then u.cells[i-c]? else x[i]?)→Ay ρ μ r z.toList:=by
 unfold FG at h
 obtain ⟨vs,g,h⟩:=Ac h
 obtain ⟨hl,h⟩:=Ap h
 have d:=hv.cells g
 obtain ⟨k,j⟩:=hx.spliced d h
 refine ⟨?_,k,j⟩
 have:=An.1 hl
 rw [JJ]at this
 rw [←this]
 simpa using d.length.symm
theorem GC (g:Bf ρ μ tm a):∀{parts:List (Nat×Operand)} {ps:List (Nat×Nat×C7)} {c place':Nat→Option (Nat×Nat)} {cs r:List Aa} {x:Array Value},
  partsOf c parts=some ps→(∀i y,c i=some y→place' i=some y)→Ay ρ μ cs x.toList→HO tm ps cs=some r→
  ∃z:Array Value,Instr.fill place' x (parts.map fun p=>(p.1,a.eval p.2))=some z∧Ay ρ μ r z.toList
 |[],ps,c,place',cs,r,x,hp,hpl,hx,h=>by
  simp only [partsOf,oI]at hp
  subst hp
  have h:some cs=some r:=h
  simp only [oI]at h
  subst h
  exact ⟨x,rfl,hx⟩
 |(i,y)::parts,ps,c,place',cs,r,x,hp,hpl,hx,h=>by
  simp only [partsOf]at hp
  split at hp
  ·rename_i d size k C A
   simp only [oI]at hp
   subst hp
   have h:(AF (FG cs (ev tm (AJ y)) d size) (HO tm k))=some r:=h
   obtain ⟨J,hc,h⟩:=Ac h
   obtain ⟨M,q,o⟩:=Ov hx (As g y) hc
   obtain ⟨H,u⟩:=Yg d (a.eval y).cells x q
   have j:=o _ H u
   obtain ⟨z,D,v⟩:=GC g A hpl j h
   refine ⟨z,?_,v⟩
   simp only [List.map_cons,Instr.fill,hpl i _ C]
   rw [if_neg (by simp;omega)]
   exact D
  ·cases hp
theorem E4 {t:TypeId} {cs:List Aa} (h:Hr P t=some cs):∃v,(zeroValue t).run P w=.ok v w∧Ay ρ μ cs v.cells.toList:=by
 unfold Hr at h
 cases e:P.info? t with
 |none=>rw [e]at h;cases h
 |some i=>
  rw [e]at h
  simp only at h
  obtain ⟨v,hv,h⟩:=Option.bind_eq_some_iff.1 h
  obtain ⟨c,hc,h⟩:=Option.bind_eq_some_iff.1 h
  split at h
  ·simp only [oI]at h
   subst h
   exact ⟨v,by simp [zeroValue,typeInfo,e,hv],(Dj v).cells hc⟩
  ·cases h
theorem GV:∀(fs:List Field),fs.all (fun f=>(P.info? f.type).isSome)=true→
  (fs.mapM fun f=>Functor.map (Prod.mk f.offset) (sizeOf f.type)).run P w=.ok (fs.map fun f=>(f.offset,P.cellsOf f.type)) w
 |[],_=>by simp
 |f::fs,h=>by
  simp only [List.all_cons,aT]at h
  obtain ⟨i,c⟩:=Option.isSome_iff_exists.1 h.1
  have hs:(sizeOf f.type).run P w=.ok i.size w:=by simp [sizeOf,typeInfo,c]
  simp [List.mapM_cons,GV fs h.2,hs,Program.cellsOf,c]
theorem Jb {o:Oper} {t:TypeId} {parts:Array (Nat×Operand)} (A:o.op=.build t parts) (D:Bf ρ μ tm a) {fs:Array Field} {z:List Aa} {ps:List (Nat×Nat×C7)}
  (O:P.underlying t=some (.struct fs)) (N:Hr P t=some z) (g:fs.all (fun f=>(P.info? f.type).isSome)=true)
  (q:partsOf (fun i=>(fs[i]?).bind fun f=>(Bj P f.type).map fun n=>(f.offset,n)) parts.toList=some ps) {v:Aa} (h:NF (HO tm ps z)=some v):Bx P ρ μ a o w v:=by
 obtain ⟨Q,M,J⟩:=E4 (w:=w) (ρ:=ρ) (μ:=μ) N
 unfold NF at h
 obtain ⟨r,u,h⟩:=Ac h
 simp only [oI]at h
 subst h
 have k:∀i y,((fs[i]?).bind fun (f:Field)=>(Bj P f.type).map fun n=>(f.offset,n))=some y→(fs.map fun f=>(f.offset,P.cellsOf f.type))[i]?=some y:=fun i y e=>by
  obtain ⟨f,hf,e⟩:=Option.bind_eq_some_iff.1 e
  obtain ⟨n,j,e⟩:=mS e
  rw [Array.getElem?_map,hf,←e]
  unfold Bj at j
  simp [Program.cellsOf,j]
 obtain ⟨x,hx,hc⟩:=GC D q k J u
 refine ⟨.agg x,?_,by simp only [Ag];exact ⟨x,rfl,hc⟩⟩
 have c:fs.toList.all (fun f=>(P.info? f.type).isSome)=true:=by rw [←g];simp
 have C:=GV (w:=w) fs.toList c
 have H:(parts.map fun x=>(x.1,a.eval x.2)).toList=parts.toList.map fun p=>(p.1,a.eval p.2):=by simp
 have d:Instr.fill (fun i=>(fs.map fun f=>(f.offset,P.cellsOf f.type))[i]?) Q.cells ((parts.map fun x=>(x.1,a.eval x.2)).toList)=some x:=by rw [H];exact hx
 simp [execOp,A,Instr.build,M,run_underlying O,Array.mapM_eq_mapM_toList,C]
 simp at d
 rw [d]
 simp
theorem JN {o:Oper} {t e:TypeId} {len n:Nat} {parts:Array (Nat×Operand)} (k:o.op=.build t parts) (q:Bf ρ μ tm a) {z:List Aa} {ps:List (Nat×Nat×C7)}
  (H:P.underlying t=some (.array len e)) (D:Hr P t=some z) (g:Bj P e=some n)
  (d:partsOf (fun i=>some (i*n,n)) parts.toList=some ps) {v:Aa} (h:NF (HO tm ps z)=some v):Bx P ρ μ a o w v:=by
 obtain ⟨J,C,A⟩:=E4 (w:=w) (ρ:=ρ) (μ:=μ) D
 unfold NF at h
 obtain ⟨r,j,h⟩:=Ac h
 simp only [oI]at h
 subst h
 obtain ⟨x,hx,hc⟩:=GC (place':=fun i=>some (i*n,n)) q d (fun i y e=>e) A j
 refine ⟨.agg x,?_,by simp only [Ag];exact ⟨x,rfl,hc⟩⟩
 have u:(parts.map fun x=>(x.1,a.eval x.2)).toList=parts.toList.map fun p=>(p.1,a.eval p.2):=by simp
 have c:Instr.fill (fun i=>some (i*n,n)) J.cells ((parts.map fun x=>(x.1,a.eval x.2)).toList)=some x:=by rw [u];exact hx
 have hs:=B4 (w:=w) g
 simp [execOp,k,Instr.build,C,run_underlying H,hs]
 simp at c
 rw [c]
 simp
theorem J0 (b c:ByteArray):strOf (b++c)=strOf b++strOf c:=by simp [strOf,ByteArray.data_append]
theorem YU {x:Aa} {b:ByteArray} (h:Eo ρ x=some (strOf b)):Ag ρ μ x (.string b):=by
 cases x<;>simp only [Eo,oI,reduceCtorEq]at h
 case str=>simp only [Ag];exact ⟨b,rfl,h.symm⟩
 case svar=>simp only [Ag];exact ⟨b,rfl,h.symm⟩
theorem Jn {o:Oper} {op:BinOp} {t D:TypeId} {x y:Operand} (A:o.op=.binOp op t x y D) (z:Γ.AL ρ) {X Y:Aa} (hx:Ag ρ μ X (a.eval x)) (C:Ag ρ μ Y (a.eval y)) {v:Aa} (h:Abg Γ op X Y=some v):Bx P ρ μ a o w v:=by
 unfold Abg at h
 split at h
 ·obtain ⟨b,hb,h⟩:=Ac h
  simp only [oI]at h
  subst h
  obtain ⟨s,u,k,j,c⟩:=z.strs _ (Gg hb)
  obtain ⟨d,q,rfl⟩:=BV k hx
  obtain ⟨b2,g,rfl⟩:=BV j C
  have c:b=decide (strOf d=strOf b2):=c
  refine ⟨.bool (d.toList==b2.toList),?_,?_⟩
  ·simp only [execOp,A,q,g,eqGuard_at_string,binOp,Op.stringOp,Sem.run_bind,Sem.run_pure,Result.andThen_ok]
  ·simp only [Ag,SB.den]
   rw [←CR,c]
   congr 1
   rw [Bool.eq_iff_iff,DA];simp
 ·obtain ⟨b,hb,h⟩:=Ac h
  simp only [oI]at h
  subst h
  obtain ⟨s,u,k,j,c⟩:=z.strs _ (Gg hb)
  obtain ⟨d,q,rfl⟩:=BV k hx
  obtain ⟨b2,g,rfl⟩:=BV j C
  have c:b=decide (strOf d=strOf b2):=c
  refine ⟨.bool (!(d.toList==b2.toList)),?_,?_⟩
  ·simp only [execOp,A,q,g,eqGuard_at_string,binOp,Op.stringOp,Sem.run_bind,Sem.run_pure,Result.andThen_ok]
  ·simp only [Ag,SB.den]
   rw [←CR,c]
   congr 2
   rw [Bool.eq_iff_iff,DA];simp
 ·obtain ⟨s,u,k,j,c,J⟩:=z.EO _ (Ph h)
  obtain ⟨d,q,rfl⟩:=BV k hx
  obtain ⟨b2,g,rfl⟩:=BV j C
  refine ⟨.string (d++b2),?_,YU (by rw [J0];exact c)⟩
  rw [BL,BL]at J
  have H:¬(((d.size+b2.size:Nat):Int)>IntKind.i64.max):=by
   have:IntKind.i64.max=9223372036854775807:=by decide
   rw [this];omega
  simp only [execOp,A,q,g,eqGuard_at_string,binOp,Op.stringOp,Sem.run_bind,Sem.run_pure,Result.andThen_ok]
  rw [if_neg H]
  rfl
 ·cases h
theorem Pq {o:Oper} {op:BinOp} {t O:TypeId} {x y:Operand} (g:o.op=.binOp op t x y O) (j:Γ.AL ρ) (M:Bf ρ μ tm a) {v:Aa} (h:AfK Γ op (ev tm (AJ x)) (ev tm (AJ y))=some v):Bx P ρ μ a o w v:=by
 have hx:=As M x
 have d:=As M y
 unfold AfK at h
 split at h
 ·rename_i k m J n hb hc
  rw [hb]at hx
  rw [hc]at d
  have z:=hx.int
  have u:=d.int
  unfold Aj1 at h
  cases hs:DZ op with
  |true=>
   rw [hs]at h
   simp only [cond_true]at h
   unfold ZG at h
   split at h
   ·rename_i p q
    obtain ⟨r,Q,h⟩:=Ac h
    simp only [oI]at h
    subst h
    refine ⟨.int k r,?_,by simp only [Ag,ST.den]⟩
    have A:=J5 (yk:=J) Q
    cases op<;>simp only [DZ,Bool.false_eq_true]at hs<;>simp [execOp,g,z,u,ST.den,eqGuard_at_int,binOp,A]
   ·unfold ZF at h
    obtain ⟨H,h⟩:=Ap h
    simp only [oI]at h
    subst h
    refine ⟨.int k (DE op k (m.den ρ) (n.den ρ)),?_,by simp only [Ag];rw [Kz j];rfl⟩
    have A:=Sc (k:=k) (yk:=J) (x:=m.den ρ) hs (Og j H)
    cases op<;>simp only [DZ,Bool.false_eq_true]at hs<;>simp [execOp,g,z,u,eqGuard_at_int,binOp,A]
  |false=>
   rw [hs]at h
   simp only [cond_false]at h
   cases hk:U4 k J with
   |false=>rw [hk]at h;simp at h
   |true=>
    have N:=Dq.1 hk
    subst N
    rw [hk]at h
    simp only [Bool.not_true,cond_false]at h
    cases hcm:FD op with
    |true=>
     rw [hcm]at h
     simp only [cond_true]at h
     obtain ⟨s,C,h⟩:=Ac h
     simp only [oI]at h
     subst h
     have hd:=(CS j C).1
     refine ⟨.bool (EG op (m.den ρ) (n.den ρ)),?_,by simp only [Ag];rw [hd]⟩
     simp [execOp,g,z,u,eqGuard_at_int,Yv hcm]
    |false=>
     rw [hcm]at h
     simp only [cond_false]at h
     obtain ⟨s,C,h⟩:=Ac h
     simp only [oI]at h
     subst h
     obtain ⟨hd,R,_,_⟩:=HZ j C
     refine ⟨.int k (DE op k (m.den ρ) (n.den ρ)),?_,by simp only [Ag];rw [hd]⟩
     simp [execOp,g,z,u,eqGuard_at_int,Tp R hcm hs]
 ·rename_i s U hb hc
  rw [hb]at hx
  rw [hc]at d
  obtain ⟨b,z,rfl⟩:=hx.str
  obtain ⟨c,u,rfl⟩:=d.str
  cases op
  case add=>
   simp only [TA]at h
   obtain ⟨D,h⟩:=Ap h
   have D:=AX.1 D
   simp only [oI]at h
   subst h
   refine ⟨.string (b++c),?_,by simp only [Ag];exact ⟨_,rfl,J0 _ _⟩⟩
   rw [Dm,Dm,BL,BL]at D
   have H:¬(((b.size+c.size:Nat):Int)>IntKind.i64.max):=by
    have:IntKind.i64.max=9223372036854775807:=by decide
    rw [this];omega
   simp only [execOp,g,z,u,eqGuard_at_string,binOp,Op.stringOp,Sem.run_bind,Sem.run_pure,Result.andThen_ok]
   rw [if_neg H]
   rfl
  all_goals
   simp only [TA,oI,reduceCtorEq]at h<;>subst h<;>
   refine ⟨_,by simp only [execOp,g,z,u,eqGuard_at_string,binOp,Op.stringOp,Sem.run_bind,Sem.run_pure,Result.andThen_ok];rfl,by simp only [Ag,SB.den,CR,YV]⟩
 ·rename_i hb hc
  rw [hb]at hx
  rw [hc]at d
  exact Jn g j hx d h
 ·rename_i hb hc
  rw [hb]at hx
  rw [hc]at d
  exact Jn g j hx d h
 ·rename_i hb hc
  rw [hb]at hx
  rw [hc]at d
  exact Jn g j hx d h
 ·cases h
theorem Aa8 {o:Oper} {op:UnOp} {t:TypeId} {x:Operand} (c:o.op=.unOp op t x) (d:Γ.AL ρ) (g:Bf ρ μ tm a) {v:Aa} (h:unA Γ op (ev tm (AJ x))=some v):Bx P ρ μ a o w v:=by
 have hx:=As g x
 unfold unA at h
 split at h
 ·rename_i k n hb
  rw [hb]at hx
  have e:=hx.int
  obtain ⟨s,hs,h⟩:=Ac h
  simp only [oI]at h
  subst h
  obtain ⟨hd,_⟩:=HZ d hs
  refine ⟨.int k (s.den ρ),?_,by simp only [Ag]⟩
  rw [hd]
  simp [execOp,c,e,unary_neg,Op.intArith,DE,ST.den]
 ·rename_i k n hb
  rw [hb]at hx
  have e:=hx.int
  obtain ⟨s,hs,h⟩:=Ac h
  simp only [oI]at h
  subst h
  obtain ⟨hd,_⟩:=HZ d hs
  refine ⟨.int k (s.den ρ),?_,by simp only [Ag]⟩
  rw [hd]
  have j:((.lit (bif Ik k then Int.negSucc 0 else Int.ofNat (modulus k-1)):ST).den ρ)=if k.signed then -1 else k.max:=by
   cases k<;>rfl
  rw [j]
  simp [execOp,c,e,unary_xor,intBits_xor,DE]
 ·rename_i b hb
  rw [hb]at hx
  have e:=hx.bool
  simp only [oI]at h
  subst h
  exact ⟨.bool (!b),by simp [execOp,c,e,unary_not,SB.den],by simp only [Ag,SB.den]⟩
 ·rename_i b _ hb
  rw [hb]at hx
  have e:=hx.bool
  simp only [oI]at h
  subst h
  exact ⟨.bool (!(b.den ρ)),by simp [execOp,c,e,unary_not],by simp only [Ag,SB.den]⟩
 ·cases h
theorem UH {o:Oper} {s d:TypeId} {j k:IntKind} {x:Operand} (q:o.op=.convert s d x) (g:Γ.AL ρ) (c:Bf ρ μ tm a) (hs:P.underlying s=some (.int j)) (hd:P.underlying d=some (.int k))
  {v:Aa} (h:AaX Γ k (ev tm (AJ x))=some v):Bx P ρ μ a o w v:=by
 have hx:=As c x
 unfold AaX at h
 split at h
 ·rename_i u n hb
  rw [hb]at hx
  have e:=hx.int
  simp only [oI]at h
  subst h
  refine ⟨.int k (k.wrap (n.den ρ)),?_,by simp only [Ag];rw [O3 g]⟩
  simp [execOp,q,e,Go.convert,run_underlying hs,run_underlying hd,Conv.intToInt]
 ·cases h
theorem U9 {o:Oper} {s d:TypeId} {x:Operand} (k:o.op=.convert s d x) (j:Bf ρ μ tm a) (hs:P.underlying s=some .string) (hd:P.underlying d=some .string)
  {v:Aa} (h:ZM (ev tm (AJ x))=some v):Bx P ρ μ a o w v:=by
 have hx:=As j x
 unfold ZM at h
 split at h
 ·rename_i c hb
  rw [hb]at hx
  simp only [oI]at h
  subst h
  have g:=hx
  obtain ⟨b,e,_⟩:=hx.str
  refine ⟨a.eval x,?_,g⟩
  simp [execOp,k,e,Go.convert,run_underlying hs,run_underlying hd]
 ·cases h
theorem NI {Γ:Ao} (A:Γ.AL ρ) (most:Bool):∀{H:List Aa} {x v:Aa} {us:List Value} {u:Value},Ag ρ μ x u→A9 ρ μ H us→Ad2 Γ most H x=some v→
  ∃j,(us.foldlM (if most then Builtin.max2 else Builtin.min2) u).run P w=.ok j w∧Ag ρ μ v j
 |[],x,v,us,u,hu,hs,h=>by
  simp only [A9]at hs
  subst hs
  have h:some x=some v:=h
  simp only [oI]at h
  subst h
  exact ⟨u,by simp,hu⟩
 |y::ys,x,v,us,u,hu,hs,h=>by
  simp only [A9]at hs
  obtain ⟨u',rest,rfl,Z,O⟩:=hs
  have D:AF (Vl Γ most x y) (Ad2 Γ most ys)=some v:=h
  clear h
  obtain ⟨z,g,o⟩:=Ac D
  clear D
  unfold Vl at g
  split at g
  ·rename_i k m k' n
   obtain ⟨U,d⟩:=Ap g
   have M:=Dq.1 U
   subst M
   split at d
   case h_2=>cases d
   rename_i c q
   simp only [oI]at d
   have g:=d
   have X:=hu.int
   have N:=Z.int
   subst X N
   have C:c=(bif most then decide (m.den ρ<n.den ρ)else decide (n.den ρ<m.den ρ)):=by
    cases most with
    |true=>exact (CS A q).1
    |false=>exact (CS A q).1
   have J:Ag ρ μ z (.int k (bif c then n.den ρ else m.den ρ)):=by rw [←g];cases c<;>simp only [Ag,cond_true,cond_false]
   obtain ⟨j,R,Q⟩:=NI A most J O o
   subst C
   generalize m.den ρ=m at*
   generalize n.den ρ=n at*
   refine ⟨j,?_,Q⟩
   rw [←R,List.foldlM_cons]
   cases most
   ·simp only [Bool.false_eq_true,if_false,cond_false,Sem.run_bind]
    simp only [Builtin.min2,Sem.run_pure,Result.andThen_ok]
    congr 2
    by_cases hc:n<m<;>simp [hc]
   ·simp only [if_true,cond_true,Sem.run_bind]
    simp only [Builtin.max2,Sem.run_pure,Result.andThen_ok]
    congr 2
    by_cases hc:m<n<;>simp [hc]
  ·cases g
theorem Pr {Γ:Ao} (z:Γ.AL ρ) {o:Oper} {g:List Operand} {c:Call} {most:Bool} (y:o.op=.call c) (d:c.callee=.builtin (if most then .max else .min)) (j:c.args.toList=g) (u:Bf ρ μ tm a)
  {v:Aa} (h:Aj2 Γ most (RC tm (Cg g))=some v):Bx P ρ μ a o w v:=by
 cases g with
 |nil=>have h:none=some v:=h;cases h
 |cons x g=>
  have h:Ad2 Γ most (RC tm (Cg g)) (ev tm (AJ x))=some v:=h
  obtain ⟨q,k,A⟩:=NI (P:=P) (w:=w) z most (As u x) (Gi u g) h
  refine ⟨q,?_,A⟩
  cases most
  ·have d:c.callee=.builtin .min:=d
   have k:Sem.run P (List.foldlM Builtin.min2 (a.eval x) (List.map a.eval g)) w=.ok q w:=k
   simp [execOp,y,resolve,d,invoke,builtin,Builtin.min_,j,k]
  ·have d:c.callee=.builtin .max:=d
   have k:Sem.run P (List.foldlM Builtin.max2 (a.eval x) (List.map a.eval g)) w=.ok q w:=k
   simp [execOp,y,resolve,d,invoke,builtin,Builtin.max_,j,k]
end
end Go.AM
end
section
namespace Go.AM
section
variable {P:Program} {Γ:Ao} {ρ:Env} {μ:Aq} {tm:Tr Aa} {a:Act} {w:World}
theorem Pk {o:Option SB} {v:Bool} (h:Afs o=some v):o=some (.lit v):=by
 unfold Afs at h
 split at h
 ·simp only [oI]at h;rw [h]
 ·cases h
def LK.fits (k:LK) (d:TypeDesc):Prop:=
 match k with
 |.bool=>d=.bool
 |.int=>∃i,d=.int i
 |.str=>d=.string
theorem Rm (A:Γ.AL ρ) {k:LK} {x y:Aa} {u v:Value} {b:Bool} (hx:Ag ρ μ x u) (j:Ag ρ μ y v) (h:Jh Γ k x y=some b) {t:TypeId} {d:TypeDesc} (g:P.underlying t=some d) (c:k.fits d) (n:Nat):
  (Op.equalIn (n+1) t u v).run P w=.ok b w:=by
 unfold Jh at h
 split at h
 ·rename_i N m U X
  obtain ⟨i,rfl⟩:=c
  obtain ⟨D,z⟩:=Ap h
  clear h
  have H:=Dq.1 D
  subst H
  have hc:=(CS A (Pk z)).1
  rw [hx.int,j.int,run_equalIn_int w n t N i _ _ g]
  simp only [SB.den,EG]at hc
  rw [hc]
 ·rename_i p q
  have c:d=.bool:=c
  subst c
  simp only [oI]at h
  rw [hx.bool,j.bool]
  simp only [SB.den]
  rw [run_equalIn_bool' w n t p q g,←h,beq_eq]
 ·rename_i p q
  have c:d=.string:=c
  subst c
  simp only [oI]at h
  obtain ⟨s,rfl,M⟩:=hx.str
  obtain ⟨Q,rfl,J⟩:=j.str
  rw [run_equalIn_string w n t s Q g,←h,←M,←J,CR]
 all_goals first
  |(cases h;done)
  |(have c:d=.string:=c
    subst c
    obtain ⟨s,R,O,z,o⟩:=A.strs _ (Gg h)
    obtain ⟨C,rfl,rfl⟩:=BV O hx
    obtain ⟨b2,rfl,rfl⟩:=BV z j
    have o:b=decide (strOf C=strOf b2):=o
    rw [run_equalIn_string w n t C b2 g,←CR,o]
    congr 1
    rw [Bool.eq_iff_iff,DA];simp)
theorem EN (cs ds:List Aa):∀(d c:List (Nat×LK)),Dg Γ cs ds (d++c)=AF (Dg Γ cs ds d) fun e=>bif e then Dg Γ cs ds c else some false
 |[],c=>rfl
 |o::d,c=>by
  show (AF (Tf Γ cs ds o) fun e=>bif e then Dg Γ cs ds (d++c)else some false)=AF (AF (Tf Γ cs ds o) fun e=>bif e then Dg Γ cs ds d else some false) _
  cases Tf Γ cs ds o with
  |none=>rfl
  |some e=>
   cases e with
   |false=>rfl
   |true=>exact EN cs ds d c
theorem H8 (k:Nat) (x y:List (Nat×LK)):C5 k (x++y)=C5 k x++C5 k y:=by simp [C5]
theorem GU (k j:Nat) (x:List (Nat×LK)):C5 k (C5 j x)=C5 (k+j) x:=by
 unfold C5;rw [List.map_map];apply List.map_congr_left;intro x _;simp [Nat.add_assoc]
theorem NJ {n:Nat} {l:List (Nat×LK)} (h:below n l=true):∀x∈l,x.1<n:=fun x hx=>by
 unfold below at h
 have:=List.all_eq_true.1 h x hx
 exact Is.1 this
structure Yw (X:Array Value) (base n:Nat) (Z:Array Value):Prop where
 cell:∀off,off<n→Z[off]?=X[base+off]?
 part:∀off m,off+m≤n→Z.extract off (off+m)=X.extract (base+off) (base+off+m)
theorem Yw.whole (X:Array Value) (n:Nat):Yw X 0 n X:=⟨fun c _=>by simp,fun c m _=>by simp⟩
theorem Yw.sub {X Z:Array Value} {d n:Nat} (h:Yw X d n Z) {c m:Nat} (o:c+m≤n):Yw X (d+c) m (Z.extract c (c+m)) where
 cell:=fun i j=>by
  rw [Array.getElem?_extract]
  by_cases hz:i<min (c+m) Z.size-c
  ·rw [if_pos hz,h.cell _ (by omega),Nat.add_assoc]
  ·rw [if_neg hz]
   have g:¬c+i<Z.size:=by omega
   have e:=h.cell (c+i) (by omega)
   rw [Array.getElem?_eq_none (by omega)]at e
   rw [Nat.add_assoc]
   exact e
 part:=fun i k q=>by
  rw [Array.extract_extract,show min (c+(i+k)) (c+m)=(c+i)+k by omega,h.part _ _ (by omega)]
  congr 1<;>omega
theorem U1 {d:Nat} {t:TypeId} {l:List (Nat×LK)} (h:leaves P d t=some l) (c:Ed P t=some none):∃j,l=[(0,j)]:=by
 cases d with
 |zero=>simp [leaves]at h
 |succ d=>
  simp only [leaves]at h
  split at h
  ·simp only [oI]at h;exact ⟨_,h.symm⟩
  ·simp only [oI]at h;exact ⟨_,h.symm⟩
  ·simp only [oI]at h;exact ⟨_,h.symm⟩
  ·rename_i fs g
   unfold Ed at c
   rw [g]at c
   cases e:P.info? t<;>rw [e]at c<;>simp at c
  ·rename_i k e g
   unfold Ed at c
   rw [g]at c
   cases e:P.info? t<;>rw [e]at c<;>simp at c
  ·cases h
theorem Vq {t:TypeId} {n:Nat} (g:Bj P t=some n) {d:Nat} {l:List (Nat×LK)} (h:leaves P d t=some l):Ed P t=some none∨Ed P t=some (some n):=by
 unfold Bj at g
 obtain ⟨i,j,e⟩:=mS g
 have c:∃u,P.underlying t=some u:=by
  cases c:P.underlying t with
  |some u=>exact ⟨u,rfl⟩
  |none=>
   cases d with
   |zero=>simp [leaves]at h
   |succ d=>simp [leaves,c]at h
 obtain ⟨u,c⟩:=c
 unfold Ed
 rw [c,j]
 cases u<;>simp [e]
theorem J7 {t:TypeId} {X:Array Value} {c n:Nat} (k:Bj P t=some n):
  (∀m,Ed P t=some (some m)→(part t X c).run P w=.ok (.agg (X.extract c (c+m))) w)∧
  (Ed P t=some none→∀x,X[c]?=some x→(part t X c).run P w=.ok x w):=by
 refine ⟨fun m j=>?_,fun h x hx=>?_⟩
 ·obtain ⟨d,g⟩:=E2 P w t j
  simp [part,d,g m rfl]
 ·obtain ⟨d,g⟩:=E2 P w t h
  simp [part,d,hx]
structure AbG (P:Program) (X Y:Array Value) (base:Nat) (t:TypeId) (x y:Value):Prop where
 agg:∀n,Ed P t=some (some n)→∃X' Y',x=.agg X'∧y=.agg Y'∧Yw X base n X'∧Yw Y base n Y'
 one:Ed P t=some none→X[base]?=some x∧Y[base]?=some y
theorem JD {X Y X' Y':Array Value} {cs ds:List Aa} (hX:Ay ρ μ cs X.toList) (hY:Ay ρ μ ds Y.toList) {d:Nat} {t:TypeId} {l:List (Nat×LK)} {m n c g k:Nat} {e:Bool}
  (H:Yw X c n X') (J:Yw Y c n Y') (hl:leaves P d t=some l) (o:Bj P t=some m) (z:g+m≤n) (Q:∀x∈l,x.1<m)
  (O:Dg Γ cs ds (C5 (c+g) l)=some e)
  (rec:∀(x y:Value),AbG P X Y (c+g) t x y→(Op.equalIn k t x y).run P w=.ok e w):
  ∃R U,(part t X' g).run P w=.ok R w∧(part t Y' g).run P w=.ok U w∧(Op.equalIn k t R U).run P w=.ok e w:=by
 rcases Vq o hl with ha|ha
 ·obtain ⟨lk,rfl⟩:=U1 hl ha
  have O:(AF (Tf Γ cs ds (c+g+0,lk)) fun e=>bif e then some true else some false)=some e:=O
  obtain ⟨e',D,_⟩:=Ac O
  unfold Tf at D
  obtain ⟨p,M,D⟩:=Ac D
  obtain ⟨q,N,_⟩:=Ac D
  rw [K0]at M N
  simp only [Nat.add_zero]at M N
  obtain ⟨u,j,_,_⟩:=hX.get M
  obtain ⟨v,C,_,_⟩:=hY.get N
  rw [Array.getElem?_toList]at j C
  have aa:=Q _ (List.mem_singleton.2 rfl)
  simp only at aa
  refine ⟨u,v,(J7 o).2 ha _ (by rw [H.cell _ (by omega)];exact j),(J7 o).2 ha _ (by rw [J.cell _ (by omega)];exact C),rec u v ⟨fun n Z=>?_,fun _=>⟨j,C⟩⟩⟩
  rw [ha]at Z;cases Z
 ·refine ⟨_,_,(J7 o).1 m ha,(J7 o).1 m ha,rec _ _ ⟨fun n' A=>?_,fun h=>?_⟩⟩
  ·rw [ha]at A
   simp only [oI]at A
   subst A
   exact ⟨_,_,rfl,rfl,H.sub z,J.sub z⟩
  ·rw [ha]at h;cases h
theorem LP {α:Type} {o:Option (List α)} {r:List (Option (List α))} {l:List α} (h:DD (o::r)=some l):∃d c,o=some d∧DD r=some c∧l=d++c:=by
 cases o with
 |none=>simp [DD]at h
 |some d=>
  simp only [DD]at h
  obtain ⟨c,j,g⟩:=mS h
  exact ⟨d,c,rfl,j,g.symm⟩
theorem Hi {t:TypeId} {d:TypeDesc} (g:P.underlying t=some d) (h:(∀fs,d≠.struct fs)∧∀k e,d≠.array k e) (c:(P.info? t).isSome=true):Ed P t=some none:=by
 obtain ⟨i,c⟩:=Option.isSome_iff_exists.1 c
 unfold Ed
 rw [g,c]
 cases d<;>first|rfl|(exact absurd rfl (h.1 _)) |(exact absurd rfl (h.2 _ _))
theorem info_of_underlying {t:TypeId} {d:TypeDesc} (c:P.underlying t=some d):(P.info? t).isSome=true:=by
 unfold Program.underlying at c
 cases e:P.info? t with
 |none=>rw [e]at c;cases c
 |some i=>rfl
theorem Tx {t:TypeId} {fs:Array Field} {n:Nat} (d:P.underlying t=some (.struct fs)) (c:Bj P t=some n):Ed P t=some (some n):=by
 unfold Bj at c
 obtain ⟨i,g,e⟩:=mS c
 unfold Ed
 rw [d,g]
 simp [e]
theorem Vr {t e:TypeId} {k n:Nat} (g:P.underlying t=some (.array k e)) (c:Bj P t=some n):Ed P t=some (some n):=by
 unfold Bj at c
 obtain ⟨i,d,e⟩:=mS c
 unfold Ed
 rw [g,d]
 simp [e]
theorem Gz (hΓ:Γ.AL ρ) {X Y:Array Value} {cs ds:List Aa} (O:Ay ρ μ cs X.toList) (hY:Ay ρ μ ds Y.toList):
  ∀(d:Nat) (t:TypeId) (ls:List (Nat×LK)),leaves P d t=some ls→∀(k A:Nat) (x y:Value) (b:Bool),d≤k→AbG P X Y A t x y→
   Dg Γ cs ds (C5 A ls)=some b→(Op.equalIn k t x y).run P w=.ok b w
 |0,t,ls,h,k,A,x,y,b,hk,hxy,C=>by simp [leaves]at h
 |d+1,t,ls,h,k,A,x,y,b,hk,hxy,C=>by
  obtain ⟨k,rfl⟩:∃k',k=k'+1:=⟨k-1,by omega⟩
  have z:∀(D:TypeDesc) (lk:LK),P.underlying t=some D→(∀fs,D≠.struct fs)∧(∀k e,D≠.array k e)→lk.fits D→ls=[(0,lk)]→(Op.equalIn (k+1) t x y).run P w=.ok b w:=fun D lk g az hf hl=>by
   subst hl
   obtain ⟨hx,hy⟩:=hxy.one (Hi g az (info_of_underlying g))
   have C:(AF (Tf Γ cs ds (A+0,lk)) fun e=>bif e then some true else some false)=some b:=C
   obtain ⟨e,c,h2⟩:=Ac C
   have hb:e=b:=by cases e<;>simpa using h2
   subst hb
   unfold Tf at c
   obtain ⟨p,hp,c⟩:=Ac c
   obtain ⟨q,hq,c⟩:=Ac c
   rw [K0]at hp hq
   simp only [Nat.add_zero]at hp hq
   obtain ⟨u,Q,_,aC⟩:=O.get hp
   obtain ⟨v,ae,_,aB⟩:=hY.get hq
   rw [Array.getElem?_toList,hx]at Q
   rw [Array.getElem?_toList,hy]at ae
   simp only [oI]at Q ae
   subst Q ae
   exact Rm hΓ aC aB c g hf k
  simp only [leaves]at h
  split at h
  ·rename_i g
   simp only [oI]at h
   exact z _ .bool g ⟨by simp,by simp⟩ rfl h.symm
  ·rename_i i g
   simp only [oI]at h
   exact z _ .int g ⟨by simp,by simp⟩ ⟨_,rfl⟩ h.symm
  ·rename_i g
   simp only [oI]at h
   exact z _ .str g ⟨by simp,by simp⟩ rfl h.symm
  ·
   rename_i fs g
   split at h
   ·cases h
   ·rename_i J
    have J:P.stoodInHeld t=false:=by simpa using J
    obtain ⟨n,hn⟩:∃n,Bj P t=some n:=by
     obtain ⟨i,H⟩:=Option.isSome_iff_exists.1 (info_of_underlying g)
     exact ⟨i.size,by simp [Bj,H]⟩
    obtain ⟨X',Y',rfl,rfl,ac,U⟩:=hxy.agg n (Tx g hn)
    have ad:P.fieldsOf t=fs:=by simp [Program.fieldsOf,g]
    rw [run_equalIn_struct w k t _ _ (by rw [ad];exact g) J,ad]
    have R:d≤k:=by omega
    clear hxy z g ad J
    generalize fs.toList=fl at h
    induction fl generalizing ls b with
    |nil=>
     simp only [List.map_nil,DD,oI]at h
     subst h
     have C:some true=some b:=C
     simp only [oI]at C
     subst C
     simp [Op.eqFields]
    |cons f fl ih=>
     simp only [List.map_cons]at h
     obtain ⟨l1,l2,c,h2,rfl⟩:=LP h
     split at c
     ·cases c
     ·rename_i ag
      split at c
      ·rename_i l m hl hm
       split at c
       ·rename_i o
        simp only [oI]at c
        subst c
        rw [H8,GU,EN]at C
        obtain ⟨e,al,M⟩:=Ac C
        have Z:∃px py,(part f.type X' f.offset).run P w=.ok px w∧(part f.type Y' f.offset).run P w=.ok py w∧(Op.equalIn k f.type px py).run P w=.ok e w:=by
         rw [aT]at o
         have ab:f.offset+m≤n:=by
          have:=AX.1 o.2
          unfold Bj at hn
          simp only [Program.cellsOf,hn,Option.getD_some]at this
          exact this
         exact JD O hY ac U hl hm ab (NJ o.1) al fun x y c=>Gz hΓ O hY d f.type l hl k _ x y e R c al
        obtain ⟨px,py,r1,r2,r3⟩:=Z
        simp only [Op.eqFields,if_pos (show f.name≠ "_" from ag)]
        simp only [Sem.run_bind,r1,Result.andThen_ok,r2,r3]
        cases e with
        |false=>
         simp only [cond_false,oI]at M
         subst M
         simp
        |true=>
         simp only [cond_true]at M
         simp only [Bool.not_true,Bool.false_eq_true,if_false]
         exact ih l2 b M h2
       ·cases c
      ·cases c
  ·
   rename_i len e g
   split at h
   ·rename_i l m hl hm
    split at h
    ·rename_i o
     simp only [oI]at h
     rw [aT]at o
     obtain ⟨n,hn⟩:∃n,Bj P t=some n:=by
      obtain ⟨i,H⟩:=Option.isSome_iff_exists.1 (info_of_underlying g)
      exact ⟨i.size,by simp [Bj,H]⟩
     obtain ⟨X',Y',rfl,rfl,ac,U⟩:=hxy.agg n (Vr g hn)
     have ab:len*m≤n:=by
      have:=AX.1 o.2
      unfold Bj at hn
      simp only [Program.cellsOf,hn,Option.getD_some]at this
      exact this
     have R:d≤k:=by omega
     have hs:=B4 (w:=w) hm
     simp only [Op.equalIn,Sem.run_bind,run_underlying g,Result.andThen_ok,hs]
     have key:∀(L:List Nat) (b:Bool),(∀i∈L,i<len)→Dg Γ cs ds (C5 A (L.flatMap fun i=>C5 (i*m) l))=some b→
       (forIn L ((none,()):Option Bool×Unit) fun i (_:Option Bool×Unit)=>do
        let p←part e X' (i*m)
        let q←part e Y' (i*m)
        let r←Op.equalIn k e p q
        if (!r)=true then pure (ForInStep.done (some false,()))else pure (ForInStep.yield (none,())):Sem (Option Bool×Unit)).run P w=.ok (if b then none else some false,()) w:=by
      intro L
      induction L with
      |nil=>
       intro b _ hb
       have hb:some true=some b:=hb
       simp only [oI]at hb
       subst hb
       simp
      |cons i L ih=>
       intro b hL hb
       rw [List.flatMap_cons,H8,GU,EN]at hb
       obtain ⟨r,ak,N⟩:=Ac hb
       have H:i<len:=hL i List.mem_cons_self
       have aA:i*m+m≤n:=by
        have:=Nat.mul_le_mul_right m (show i+1≤len from H)
        rw [Nat.succ_mul]at this
        omega
       obtain ⟨px,py,r1,r2,r3⟩:=JD (n:=n) (k:=k) (w:=w) O hY ac U hl hm aA (NJ o.1) ak fun x y c=>Gz hΓ O hY d e l hl k _ x y r R c ak
       rw [List.forIn_cons]
       simp only [Sem.run_bind,r1,Result.andThen_ok,r2,r3]
       cases r with
       |false=>
        simp only [cond_false,oI]at N
        subst N
        simp
       |true=>
        simp only [cond_true]at N
        simp only [Bool.not_true,Bool.false_eq_true,if_false,Sem.run_pure,Result.andThen_ok]
        exact ih b (fun j hj=>hL j (List.mem_cons_of_mem _ hj)) N
     rw [Std.Legacy.Range.forIn_eq_forIn_range']
     have hr:List.range' 0 len 1=List.range len:=(List.range_eq_range' ..).symm
     simp only [Std.Legacy.Range.size,Nat.sub_zero,Nat.add_one_sub_one,Nat.div_one]
     rw [hr]
     have:=key (List.range len) b (fun i H=>List.mem_range.1 H) (by rw [h];exact C)
     rw [this]
     cases b<;>simp
    ·cases h
   ·cases h
  ·cases h
end
end Go.AM
end
