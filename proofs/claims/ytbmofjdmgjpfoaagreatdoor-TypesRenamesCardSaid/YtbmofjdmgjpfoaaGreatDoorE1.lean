/- Part 1 of the proof of TypesRenames. -/
import Derived.Orders
import Derived.Laws.Entries
import Derived.Laws.Strings
import Derived.Laws.StructEq
import Derived.Laws.Slices
import Derived.Laws.Strings2
import Derived.Laws.Unary
import Derived.Laws.Build
import Derived.Laws.Pointers
import Derived.WideLaws
import Derived.LaidEql
set_option linter.all false
section
namespace Go.AM
theorem oI {α:Type} {a b:α}:(some a=some b)=(a=b):=Option.some.injEq a b
theorem lA {α:Type} {a b:List α}:(a++b).length=a.length+b.length:=List.length_append
theorem lC {α:Type} {a:α} {b:List α}:(a::b).length=b.length+1:=List.length_cons
theorem lN {α:Type}:([]:List α).length=0:=List.length_nil
theorem lT' {α:Type} {n:Nat} {a:List α}:(a.take n).length=min n a.length:=List.length_take
theorem aT {a b:Bool}:((a&&b)=true)=(a=true∧b=true):=Bool.and_eq_true a b
theorem mS {α β:Type} {f:α→β} {o:Option α} {b:β} (h:o.map f=some b):∃a,o=some a∧f a=b:=Option.map_eq_some_iff.1 h
theorem cL {α:Type} {a b:List α} (h:a=b):a.length=b.length:=congrArg List.length h
noncomputable section
def ile:Int→Int→Bool
 |.ofNat a,.ofNat b=>Nat.ble a b
 |.negSucc _,.ofNat _=>true
 |.ofNat _,.negSucc _=>false
 |.negSucc a,.negSucc b=>Nat.ble b a
def ZF:Int→Int→Bool
 |.ofNat a,.ofNat b=>Nat.beq a b
 |.negSucc a,.negSucc b=>Nat.beq a b
 |_,_=>false
def ilt (a b:Int):Bool:=!(ile b a)
def Vz:IntKind→Nat
 |.i8=>0|.i16=>1|.i32=>2|.i64=>3|.u8=>4|.u16=>5|.u32=>6|.u64=>7
def VA (a b:IntKind):Bool:=Nat.beq (Vz a) (Vz b)
def modulus:IntKind→Nat
 |.i8=>256|.u8=>256
 |.i16=>65536|.u16=>65536
 |.i32=>4294967296|.u32=>4294967296
 |.i64=>18446744073709551616|.u64=>18446744073709551616
def Rf (n:Int) (m:Nat):Nat:=
 match n with
 |.ofNat a=>a%m
 |.negSucc a=>m-1-a%m
def Ix:IntKind→Bool
 |.i8=>true|.i16=>true|.i32=>true|.i64=>true
 |.u8=>false|.u16=>false|.u32=>false|.u64=>false
def back (k:IntKind) (m:Nat):Int:=
 bif Ix k&&Nat.ble (modulus k) (m+m)then .negSucc (modulus k-1-m)else .ofNat m
def Lu (k:IntKind) (n:Int):Int:=back k (Rf n (modulus k))
def XS (op:BinOp) (m a b:Nat):Nat:=
 match op with
 |.and=>Nat.land a b
 |.or=>Nat.lor a b
 |.xor=>Nat.xor a b
 |_=>Nat.land a (m-1-b)
def Qj (op:BinOp) (k:IntKind) (x y:Int):Int:=
 back k (XS op (modulus k) (Rf x (modulus k)) (Rf y (modulus k)))
def YV:BinOp→Nat
 |.add=>0|.sub=>1|.mul=>2|.quo=>3|.rem=>4|.and=>5|.or=>6|.xor=>7|.shl=>8|.shr=>9|.andNot=>10
 |.eql=>11|.neq=>12|.lss=>13|.leq=>14|.gtr=>15|.geq=>16
def O4 (a b:BinOp):Bool:=Nat.beq (YV a) (YV b)
def beq (a b:Bool):Bool:=bif a then b else !b
def AB {α β:Type} (o:Option α) (f:α→Option β):Option β:=
 Option.casesOn (motive:=fun _=>Option β) o none f
inductive ST where
 |lit (n:Int)
 |var (i:Nat)
 |bin (op:BinOp) (k:IntKind) (a b:ST)
 |conv (k:IntKind) (a:ST)
inductive SB where
 |lit (b:Bool)
 |cmp (op:BinOp) (a b:ST)
 |no (a:SB)
def ST.eq:ST→ST→Bool
 |.lit a,.lit b=>ZF a b
 |.var i,.var j=>Nat.beq i j
 |.bin o k a b,.bin o' k' a' b'=>O4 o o'&&VA k k'&&a.eq a'&&b.eq b'
 |.conv k a,.conv k' a'=>VA k k'&&a.eq a'
 |_,_=>false
def SB.eq:SB→SB→Bool
 |.lit a,.lit b=>beq a b
 |.cmp o a b,.cmp o' a' b'=>O4 o o'&&a.eq a'&&b.eq b'
 |.no a,.no b=>a.eq b
 |_,_=>false
inductive Aa where
 |any
 |bool (b:SB)
 |int (k:IntKind) (n:ST)
 |str (s:List Nat)
 |ptr (b off:Nat)
 |nilPtr
 |slice (b off len cap:Nat)
 |gslice (b off len es:Nat)
 |nilSlice
 |map (b:Nat)
 |nilMap
 |func (f:FuncId) (first captured:List Aa)
 |nilFunc
 |iface (t:TypeId) (v:Aa)
 |nilIface
 |agg (cells:List Aa)
 |tuple (vs:List Aa)
 |anyStr (n:Nat)
 |gbytes (b:Nat)
 |glen (b:Nat)
 |svar (i:Nat)
 |lst (full:Bool) (i es:Nat) (n:ST)
 |lptr (i:Nat) (j:ST) (off:Nat)
 |vec (b es:Nat) (n:ST)
 |vptr (b es:Nat) (j:ST) (off:Nat)
def Aa.single (v:Aa):Bool:=
 match v with
 |.agg _=>false
 |.tuple _=>false
 |.any=>false
 |_=>true
def Aa.cells (v:Aa):Option (List Aa):=
 match v with
 |.agg cs=>some cs
 |.tuple _=>none
 |.any=>none
 |v=>some [v]
def lit (k:IntKind) (n:Int):Aa:=.int k (.lit n)
def yes:Aa:=.bool (.lit true)
structure Entry where
 key:Aa
 val:Aa
 born:Nat
inductive Block where
 |cells (vs:List Aa)
 |map (es:List Entry) (clock:Nat)
 |typed (e:Nat) (vs:List Aa)
 |bytes (n e:Nat)
 |sbytes (n:ST) (e:Nat)
 |list (i es:Nat)
 |smap (i:Nat)
structure BE where
 id:Nat
 Y7:List (Nat×Aa)
 pre:List Block
 Oz:List (Nat×Aa)
 post:List (Option Block)
 df:List (FuncId×List Aa):=[]
 out:Bool:=false
inductive AL where
 |els (es:List (List Aa))
 |all (i:Nat)
 |take (i:Nat) (n:ST)
 |drop (i:Nat) (n:ST)
structure An where
 Eb:List (ST×Int):=[]
 tests:List (BinOp×ST×ST×Bool):=[]
 strs:List (Aa×Aa×Bool):=[]
 EV:List (Aa×Aa×Aa):=[]
 BB:List (Nat×ST×Nat×Nat):=[]
 Ad:List (Nat×ST):=[]
 elems:List (Nat×ST×List Aa):=[]
 defs:List (Nat×List AL):=[]
 looks:List (Nat×Aa×Option (List Aa)):=[]
 Mg:List (Nat×Aa×List Aa×Nat):=[]
 CQ:List (ST×Nat×ST):=[]
 CO:List (Nat×List (Aa×List Aa)):=[]
 BI:List (Nat×Nat×Nat×Nat×Nat):=[]
 loops:List BE:=[]
def JY:List (ST×Int)→ST→Option Int
 |[],_=>none
 |(t,n)::r,x=>bif t.eq x then some n else JY r x
def Cf:List (BinOp×ST×ST×Bool)→BinOp→ST→ST→Option Bool
 |[],_,_,_=>none
 |(o,s,t,v)::r,op,a,b=>bif O4 o op&&s.eq a&&t.eq b then some v else Cf r op a b
def numOf (Γ:An) (t:ST):ST:=
 match JY Γ.Eb t with
 |some n=>.lit n
 |none=>t
def Sg (op:BinOp) (k:IntKind) (a b:Int):Option Int:=
 match op with
 |.add=>some (Lu k (a+b))
 |.sub=>some (Lu k (a-b))
 |.mul=>some (Lu k (a*b))
 |.quo=>bif ZF b 0 then none else some (Lu k (a.tdiv b))
 |.rem=>bif ZF b 0 then none else some (a.tmod b)
 |.and=>some (Qj .and k a b)
 |.or=>some (Qj .or k a b)
 |.xor=>some (Qj .xor k a b)
 |.andNot=>some (Qj .andNot k a b)
 |_=>none
def AcD (op:BinOp) (a b:Int):Option Bool:=
 match op with
 |.eql=>some (ZF a b)
 |.neq=>some (!(ZF a b))
 |.lss=>some (ilt a b)
 |.leq=>some (ile a b)
 |.gtr=>some (ilt b a)
 |.geq=>some (ile b a)
 |_=>none
def MI (op:BinOp) (k:IntKind) (x:Int) (n:Nat):Option Int:=
 match op with
 |.shl=>some (Lu k (x*Int.ofNat (2^n)))
 |.shr=>some (x.fdiv (Int.ofNat (2^n)))
 |_=>none
def QF (op:BinOp) (k:IntKind) (x y:Int):Option Int:=
 match y with
 |.negSucc _=>none
 |.ofNat y=>MI op k x (bif Nat.ble y k.bits then y else k.bits)
def total (op:BinOp) (b:ST):Bool:=
 match op with
 |.add=>true|.sub=>true|.mul=>true|.and=>true|.or=>true|.xor=>true|.andNot=>true
 |.quo=>(match b with|.lit n=>!(ZF n 0) |_=>false)
 |.rem=>(match b with|.lit n=>!(ZF n 0) |_=>false)
 |_=>false
def Yi (Γ:An) (op:BinOp) (b:ST):Bool:=
 match op with
 |.quo=>(match Cf Γ.tests .eql b (.lit 0)with|some v=>!v|none=>false)
 |.rem=>(match Cf Γ.tests .eql b (.lit 0)with|some v=>!v|none=>false)
 |_=>false
def Wr (Γ:An) (op:BinOp) (k:IntKind) (a b:ST):Option ST:=
 bif total op b||Yi Γ op b then some (numOf Γ (.bin op k a b))else none
def arith (Γ:An) (op:BinOp) (k:IntKind) (a b:ST):Option ST:=
 match a,b with
 |.lit x,.lit y=>AB (Sg op k x y) fun n=>some (.lit n)
 |a,b=>Wr Γ op k a b
def FO (op:BinOp):Bool:=Nat.ble 11 (YV op)
def NS (Γ:An) (op:BinOp) (a b:ST):Option SB:=
 bif FO op then (match Cf Γ.tests op a b with|some v=>some (.lit v) |none=>some (.cmp op a b))else none
def compare (Γ:An) (op:BinOp) (a b:ST):Option SB:=
 match a,b with
 |.lit x,.lit y=>AB (AcD op x y) fun v=>some (.lit v)
 |a,b=>NS Γ op a b
def convert (Γ:An) (k:IntKind) (a:ST):ST:=
 match a with
 |.lit x=>.lit (Lu k x)
 |a=>numOf Γ (.conv k a)
inductive Tr (α:Type) where
 |nil
 |node (v:Option α) (l r:Tr α)
 |over (n:Nat) (v:Option α) (t:Tr α)
def Tr.get {α:Type} (t:Tr α):Nat→Option α:=
 Tr.rec (motive:=fun _=>Nat→Option α) (fun _=>none)
  (fun v _ _ c d n=>bif Nat.beq n 0 then v else bif Nat.beq (n%2) 1 then c (n/2)else d (n/2-1))
  (fun m v _ gt n=>bif Nat.beq n m then v else gt n) t
def Tr.set {α:Type} (t:Tr α):Nat→Option α→Tr α:=
 Tr.rec (motive:=fun _=>Nat→Option α→Tr α) (fun n x=>.over n x .nil)
  (fun v l r sl c n x=>bif Nat.beq n 0 then .node x l r else bif Nat.beq (n%2) 1 then .node v (sl (n/2) x) r else .node v l (c (n/2-1) x))
  (fun m v t d n x=>bif Nat.beq n m then .over m x t else .over m v (d n x)) t
def Tr.full (α:Type) (n:Nat):Tr α:=
 Nat.rec (motive:=fun _=>Tr α) .nil (fun _ ih=>.node none ih ih) n
structure Ak where
 DT:Tr Block
 next:Nat
 fx:An:={}
def Ak.get (h:Ak) (b:Nat):Option Block:=Tr.get h.DT b
def Ak.set (h:Ak) (b:Nat) (o:Option Block):Ak:=⟨Tr.set h.DT b o,h.next,h.fx⟩
def Ak.add (h:Ak) (B:Block):Ak:=⟨Tr.set h.DT h.next (some B),h.next+1,h.fx⟩
inductive CB where
 |tmp (t:Nat)
 |con (v:Aa)
inductive LK where
 |bool
 |int
 |str
structure C5 where
 t:Nat
 agg:Bool
 Tt:List (Nat×LK)
inductive EqK where
 |plain (Tt:List (Nat×LK))
 |iface (nils:Bool) (ts:List C5)
 |ptr
 |slice
 |map
 |func
 |bool
inductive POp where
 |mv (x:CB)
 |pick (c a b:CB)
 |build (zero:List Aa) (parts:List (Nat×Nat×CB))
 |Ail (x:CB)
 |bin (op:BinOp) (x y:CB)
 |eqs (neg:Bool) (k:EqK) (x y:CB)
 |un (op:UnOp) (x:CB)
 |conv (k:IntKind) (x:CB)
 |same (x:CB)
 |iface (t:TypeId) (x:CB)
 |func (f:FuncId) (first captured:List CB)
 |subs (x:CB) (lo hi:Option CB)
 |reslice (size:Nat) (x:CB) (lo hi mx:Option CB)
 |VV (off:Nat) (x:CB)
 |field (off:Nat) (n:Option Nat) (x:CB)
 |Aiv (size:Nat) (x i:CB)
 |VC (len size:Nat) (x i:CB)
 |idx (len size:Nat) (n:Option Nat) (x i:CB)
 |Aiu (x i:CB)
 |ext (x:CB) (i:Nat)
 |Aip (x:CB)
 |Aiq (x:CB)
 |big (most:Bool) (xs:List CB)
 |assert (t:TypeId) (zero:Option Aa) (x:CB)
 |AaS (x:CB)
inductive Ow where
 |load (n:Option Nat) (x:CB)
 |lookup (kk:LK) (zero:Aa) (ok:Bool) (x k:CB)
 |lenM (x:CB)
 |uptr (ok:List (Nat×Nat)) (x:CB)
 |bstr (x:CB)
inductive AOp where
 |box (t:Option Nat) (x:CB)
 |zero (t:Option Nat) (cells:List Aa)
 |bslice (len:Nat) (zero:List Aa) (parts:List (Nat×Nat×CB))
 |mkSlice (zero:List Aa) (l c:CB)
 |mkMap
inductive MOp where
 |store (n:Nat) (a x:CB)
 |call (f:CB) (args:List CB)
 |append (size:Nat) (u8:Option Nat) (bytes:Bool) (x y:CB)
 |copy (size:Nat) (bytes:Bool) (x y:CB)
 |mapUp (kk:LK) (m k v:CB)
 |clone (x:CB)
 |panic (x:CB)
 |defer (f:CB) (args:List CB)
 |recover
 |AgY (e:Nat) (p n:CB)
 |AbK (x:CB)
inductive DS where
 |p (o:POp)
 |r (o:Ow)
 |a (o:AOp)
 |m (o:MOp)
structure Step where
 dst:Option Nat
 guard:Option (Nat×Bool)
 op:DS
 back:Nat
inductive IC where
 |skip
 |region (draw:Bool) (steps:List Step)
 |seq (a b:IC)
 |cond (c:CB) (t e:IC)
 |block (id:Nat) (b:IC)
 |loop (b:IC)
 |exit (id:Nat)
 |ret
inductive Sl where
 |tmp (t:Nat)
 |cell (t:Nat) (n:Option Nat)
structure EN where
 depth:Nat
 results:List Sl
 body:IC
def Dv (o:Option Bool):Bool:=
 match o with
 |some true=>true
 |_=>false
def EF (o:Option Aa):Aa:=
 match o with
 |some v=>v
 |none=>.any
def ev (tm:Tr Aa) (x:CB):Aa:=
 match x with
 |.tmp t=>EF (Tr.get tm t)
 |.con v=>v
def So (tm:Tr Aa) (l:List CB):List Aa:=
 List.rec (motive:=fun _=>List Aa) [] (fun x _ ih=>ev tm x::ih) l
def over (vs:List Aa):List Aa→Option (List Aa):=
 List.rec (motive:=fun _=>List Aa→Option (List Aa)) (fun c=>some c)
  (fun v _ ih c=>List.casesOn (motive:=fun _=>Option (List Aa)) c none (fun _ c=>AB (ih c) fun r=>some (v::r))) vs
def splice (vs:List Aa) (i:Nat):List Aa→Option (List Aa):=
 Nat.rec (motive:=fun _=>List Aa→Option (List Aa)) (fun c=>over vs c)
  (fun _ ih c=>List.casesOn (motive:=fun _=>Option (List Aa)) c none
   (fun x c=>AB (ih c) fun r=>some (x::r))) i
def taken (n:Nat):List Aa→Option (List Aa):=
 Nat.rec (motive:=fun _=>List Aa→Option (List Aa)) (fun _=>some [])
  (fun _ ih c=>List.casesOn (motive:=fun _=>Option (List Aa)) c none (fun x c=>AB (ih c) fun r=>some (x::r))) n
def dropped (n:Nat):List Aa→List Aa:=
 Nat.rec (motive:=fun _=>List Aa→List Aa) (fun c=>c) (fun _ ih c=>List.casesOn (motive:=fun _=>List Aa) c [] (fun _ c=>ih c)) n
def nth (l:List Aa):Nat→Option Aa:=
 List.rec (motive:=fun _=>Nat→Option Aa) (fun _=>none) (fun x _ ih n=>Nat.casesOn (motive:=fun _=>Option Aa) n (some x) (fun n=>ih n)) l
def Ad (l:List Aa):Nat:=
 List.rec (motive:=fun _=>Nat) 0 (fun _ _ ih=>ih+1) l
def rep (zero:List Aa) (n:Nat):List Aa:=
 Nat.rec (motive:=fun _=>List Aa) [] (fun _ ih=>zero++ih) n
def cut (c:List Aa) (i n:Nat):Option (List Aa):=taken n (dropped i c)
def FR (cs:List Aa) (v:Aa) (c size:Nat):Option (List Aa):=
 AB v.cells fun vs=>bif Nat.beq (Ad vs) size then splice vs c cs else none
def Ia (tm:Tr Aa) (ps:List (Nat×Nat×CB)):List Aa→Option (List Aa):=
 List.rec (motive:=fun _=>List Aa→Option (List Aa)) (fun cs=>some cs) (fun p _ ih cs=>AB (FR cs (ev tm p.2.2) p.1 p.2.1) ih) ps
def OS (x:List Nat):List Nat→Bool:=
 List.rec (motive:=fun _=>List Nat→Bool) (fun y=>List.casesOn (motive:=fun _=>Bool) y true (fun _ _=>false))
  (fun a _ ih y=>List.casesOn (motive:=fun _=>Bool) y false (fun b y=>Nat.beq a b&&ih y)) x
def ltL (x:List Nat):List Nat→Bool:=
 List.rec (motive:=fun _=>List Nat→Bool) (fun y=>List.casesOn (motive:=fun _=>Bool) y false (fun _ _=>true))
  (fun a _ ih y=>List.casesOn (motive:=fun _=>Bool) y false (fun b y=>Nat.blt a b||(Nat.beq a b&&ih y))) x
def IF (l:List Nat):Nat:=
 List.rec (motive:=fun _=>Nat) 0 (fun _ _ ih=>ih+1) l
def Cm (l:List Nat):Nat→Option Nat:=
 List.rec (motive:=fun _=>Nat→Option Nat) (fun _=>none) (fun x _ ih n=>Nat.casesOn (motive:=fun _=>Option Nat) n (some x) (fun n=>ih n)) l
def Vj (n:Nat):List Nat→Option (List Nat):=
 Nat.rec (motive:=fun _=>List Nat→Option (List Nat)) (fun _=>some [])
  (fun _ ih c=>List.casesOn (motive:=fun _=>Option (List Nat)) c none (fun x c=>AB (ih c) fun r=>some (x::r))) n
def Ni (n:Nat):List Nat→List Nat:=
 Nat.rec (motive:=fun _=>List Nat→List Nat) (fun c=>c) (fun _ ih c=>List.casesOn (motive:=fun _=>List Nat) c [] (fun _ c=>ih c)) n
def Aa.eqC (x y:Aa):Bool:=
 match x,y with
 |.bool a,.bool b=>a.eq b
 |.int k a,.int k' b=>VA k k'&&a.eq b
 |.str a,.str b=>OS a b
 |.ptr a b,.ptr c d=>Nat.beq a c&&Nat.beq b d
 |.nilPtr,.nilPtr=>true
 |.slice a b c d,.slice a' b' c' d'=>Nat.beq a a'&&Nat.beq b b'&&Nat.beq c c'&&Nat.beq d d'
 |.gslice a b c d,.gslice a' b' c' d'=>Nat.beq a a'&&Nat.beq b b'&&Nat.beq c c'&&Nat.beq d d'
 |.nilSlice,.nilSlice=>true
 |.map a,.map b=>Nat.beq a b
 |.nilMap,.nilMap=>true
 |.nilFunc,.nilFunc=>true
 |.nilIface,.nilIface=>true
 |.anyStr n,.anyStr n'=>Nat.beq n n'
 |.gbytes b,.gbytes b'=>Nat.beq b b'
 |.glen b,.glen b'=>Nat.beq b b'
 |.svar i,.svar j=>Nat.beq i j
 |.lst f i e n,.lst f' i' e' n'=>beq f f'&&(Nat.beq i i'&&(Nat.beq e e'&&n.eq n'))
 |.lptr i j o,.lptr i' j' o'=>Nat.beq i i'&&(j.eq j'&&Nat.beq o o')
 |.vec b e n,.vec b' e' n'=>Nat.beq b b'&&(Nat.beq e e'&&n.eq n')
 |.vptr b e j o,.vptr b' e' j' o'=>Nat.beq b b'&&(Nat.beq e e'&&(j.eq j'&&Nat.beq o o'))
 |_,_=>false
def Aa.AeS (x:List Aa):List Aa→Bool:=
 List.rec (motive:=fun _=>List Aa→Bool) (fun y=>List.casesOn (motive:=fun _=>Bool) y true (fun _ _=>false))
  (fun a _ ih y=>List.casesOn (motive:=fun _=>Bool) y false (fun b y=>a.eqC b&&ih y)) x
def Aa.eq (x y:Aa):Bool:=
 match x,y with
 |.func f a c,.func f' a' c'=>Nat.beq f f'&&(Aa.AeS a a'&&Aa.AeS c c')
 |x,y=>x.eqC y
def Aa.Qa (x:List Aa):List Aa→Bool:=
 List.rec (motive:=fun _=>List Aa→Bool) (fun y=>List.casesOn (motive:=fun _=>Bool) y true (fun _ _=>false))
  (fun a _ ih y=>List.casesOn (motive:=fun _=>Bool) y false (fun b y=>a.eq b&&ih y)) x
def Nn (x y:Aa) (l:List (Aa×Aa×Bool)):Option Bool:=
 List.rec (motive:=fun _=>Option Bool) none (fun e _ ih=>bif x.eq e.1&&y.eq e.2.1 then some e.2.2 else ih) l
def AbX (x y:Aa) (l:List (Aa×Aa×Aa)):Option Aa:=
 List.rec (motive:=fun _=>Option Aa) none (fun e _ ih=>bif x.eq e.1&&y.eq e.2.1 then some e.2.2 else ih) l
def XU (i:Nat) (l:List (Nat×ST×Nat×Nat)):Option (ST×Nat×Nat):=
 List.rec (motive:=fun _=>Option (ST×Nat×Nat)) none (fun e _ ih=>bif Nat.beq e.1 i then some e.2 else ih) l
def Fc (i:Nat) (l:List (Nat×ST)):Option ST:=
 List.rec (motive:=fun _=>Option ST) none (fun e _ ih=>bif Nat.beq e.1 i then some e.2 else ih) l
def PD (i:Nat) (t:ST) (l:List (Nat×ST×List Aa)):Option (List Aa):=
 List.rec (motive:=fun _=>Option (List Aa)) none (fun e _ ih=>bif Nat.beq e.1 i&&e.2.1.eq t then some e.2.2 else ih) l
def AbV (i:Nat) (k:Aa) (l:List (Nat×Aa×Option (List Aa))):Option (Option (List Aa)):=
 List.rec (motive:=fun _=>Option (Option (List Aa))) none (fun e _ ih=>bif Nat.beq e.1 i&&k.eq e.2.1 then some e.2.2 else ih) l
def AbU (i:Nat) (k:Aa) (cs:List Aa) (l:List (Nat×Aa×List Aa×Nat)):Option Nat:=
 List.rec (motive:=fun _=>Option Nat) none (fun e _ ih=>bif Nat.beq e.1 i&&(k.eq e.2.1&&Aa.Qa cs e.2.2.1)then some e.2.2.2 else ih) l
def AbY (t:ST) (n:Nat) (l:List (ST×Nat×ST)):Option ST:=
 List.rec (motive:=fun _=>Option ST) none (fun e _ ih=>bif t.eq e.1&&Nat.ble n e.2.1 then some e.2.2 else ih) l
def Ai3 (x:List (List Aa)):List (List Aa)→Bool:=
 List.rec (motive:=fun _=>List (List Aa)→Bool) (fun y=>List.casesOn (motive:=fun _=>Bool) y true (fun _ _=>false))
  (fun a _ ih y=>List.casesOn (motive:=fun _=>Bool) y false (fun b y=>Aa.Qa a b&&ih y)) x
def AL.eq (x y:AL):Bool:=
 match x,y with
 |.els a,.els b=>Ai3 a b
 |.all i,.all j=>Nat.beq i j
 |.take i n,.take j m=>Nat.beq i j&&n.eq m
 |.drop i n,.drop j m=>Nat.beq i j&&n.eq m
 |_,_=>false
def AL.Qa (x:List AL):List AL→Bool:=
 List.rec (motive:=fun _=>List AL→Bool) (fun y=>List.casesOn (motive:=fun _=>Bool) y true (fun _ _=>false))
  (fun a _ ih y=>List.casesOn (motive:=fun _=>Bool) y false (fun b y=>a.eq b&&ih y)) x
def JZ (p:List AL) (l:List (Nat×List AL)):Option Nat:=
 List.rec (motive:=fun _=>Option Nat) none (fun e _ ih=>bif AL.Qa p e.2 then some e.1 else ih) l
def D7 (Γ:An) (op:BinOp) (a b:ST):Bool:=
 match compare Γ op a b with
 |some (.lit v)=>v
 |_=>false
def Uz (op:BinOp) (a b:List Nat):Option Aa:=
 match op with
 |.eql=>some (.bool (.lit (OS a b)))
 |.neq=>some (.bool (.lit (!(OS a b))))
 |.lss=>some (.bool (.lit (ltL a b)))
 |.leq=>some (.bool (.lit (ltL a b||OS a b)))
 |.gtr=>some (.bool (.lit (!(ltL a b||OS a b))))
 |.geq=>some (.bool (.lit (!(ltL a b))))
 |.add=>bif Nat.ble (IF a+IF b) 1048576 then some (.str (a++b))else none
 |_=>none
def Ec (op:BinOp):Bool:=
 match op with
 |.shl=>true
 |.shr=>true
 |_=>false
def natural (Γ:An) (b:ST):Bool:=
 match b with
 |.lit n=>ile (.ofNat 0) n
 |b=>Dv (Cf Γ.tests .geq b (.lit (.ofNat 0)))
def AaM (Γ:An) (op:BinOp) (k:IntKind) (a b:ST):Option Aa:=
 bif natural Γ b then some (.int k (numOf Γ (.bin op k a b)))else none
def AaN (Γ:An) (op:BinOp) (k:IntKind) (a b:ST):Option Aa:=
 match a,b with
 |.lit a,.lit b=>AB (QF op k a b) fun n=>some (.int k (.lit n))
 |a,b=>AaM Γ op k a b
def AmB (Γ:An) (op:BinOp) (k c:IntKind) (a b:ST):Option Aa:=
 bif Ec op then AaN Γ op k a b
 else bif !(VA k c)then none
 else bif FO op then AB (compare Γ op a b) fun v=>some (.bool v)
 else AB (arith Γ op k a b) fun n=>some (.int k n)
def AcK (Γ:An) (op:BinOp) (x y:Aa):Option Aa:=
 match op with
 |.eql=>AB (Nn x y Γ.strs) fun v=>some (.bool (.lit v))
 |.neq=>AB (Nn x y Γ.strs) fun v=>some (.bool (.lit (!v)))
 |.add=>AbX x y Γ.EV
 |_=>none
def AiH (Γ:An) (op:BinOp) (x y:Aa):Option Aa:=
 match x,y with
 |.int k a,.int k' b=>AmB Γ op k k' a b
 |.str a,.str b=>Uz op a b
 |.svar i,.str b=>AcK Γ op (.svar i) (.str b)
 |.str a,.svar j=>AcK Γ op (.str a) (.svar j)
 |.svar i,.svar j=>AcK Γ op (.svar i) (.svar j)
 |_,_=>none
def Aio (b:Option SB):Option Bool:=
 match b with
 |some (.lit v)=>some v
 |_=>none
def Jy (Γ:An) (k:LK) (x y:Aa):Option Bool:=
 match k,x,y with
 |.int,.int k a,.int k' b=>bif VA k k' then Aio (compare Γ .eql a b)else none
 |.bool,.bool (.lit a),.bool (.lit b)=>some (beq a b)
 |.str,.str a,.str b=>some (OS a b)
 |.str,.svar i,.str b=>Nn (.svar i) (.str b) Γ.strs
 |.str,.str a,.svar j=>Nn (.str a) (.svar j) Γ.strs
 |.str,.svar i,.svar j=>Nn (.svar i) (.svar j) Γ.strs
 |_,_,_=>none
def TS (Γ:An) (x y:List Aa) (o:Nat×LK):Option Bool:=
 AB (nth x o.1) fun a=>AB (nth y o.1) fun b=>Jy Γ o.2 a b
def Dj (Γ:An) (x y:List Aa) (l:List (Nat×LK)):Option Bool:=
 List.rec (motive:=fun _=>Option Bool) (some true) (fun o _ ih=>AB (TS Γ x y o) fun e=>bif e then ih else some false) l
def AbW (t:Nat) (l:List C5):Option C5:=
 List.rec (motive:=fun _=>Option C5) none (fun a _ ih=>bif Nat.beq a.t t then some a else ih) l
def RO (Γ:An) (Tt:List (Nat×LK)) (x y:Aa):Option Bool:=
 match x,y with
 |.agg xs,.agg ys=>Dj Γ xs ys Tt
 |_,_=>none
def KZ (v:Aa):Bool:=
 match v with
 |.agg _=>true
 |_=>false
def Yf (Γ:An) (h:C5) (a b:Aa):Option Bool:=
 bif beq (KZ a) h.agg&&beq (KZ b) h.agg then AB a.cells fun a=>AB b.cells fun b=>Dj Γ a b h.Tt else none
def Ac6 (Γ:An) (ts:List C5) (t u:Nat) (a b:Aa):Option Bool:=
 bif Nat.beq t u then (AB (AbW t ts) fun h=>Yf Γ h a b)else some false
def RR (Γ:An) (c:Bool) (ts:List C5) (x y:Aa):Option Bool:=
 match x,y with
 |.iface t a,.iface u b=>Ac6 Γ ts t u a b
 |.nilIface,.nilIface=>bif c then some true else none
 |.nilIface,.iface _ _=>some false
 |.iface _ _,.nilIface=>some false
 |_,_=>none
def Ac4 (x y:Aa):Option Bool:=
 match x,y with
 |.nilPtr,.nilPtr=>some true
 |.nilPtr,.ptr _ _=>some false
 |.ptr _ _,.nilPtr=>some false
 |.ptr b o,.ptr b' o'=>bif Nat.beq b b'&&Nat.beq o o' then some true else none
 |_,_=>none
def RM (x y:Aa):Option Bool:=
 match x,y with
 |.nilSlice,.nilSlice=>some true
 |.slice _ _ _ _,.nilSlice=>some false
 |.nilSlice,.slice _ _ _ _=>some false
 |.gslice _ _ _ _,.nilSlice=>some false
 |.nilSlice,.gslice _ _ _ _=>some false
 |_,_=>none
def Ac5 (x y:Aa):Option Bool:=
 match x,y with
 |.nilMap,.nilMap=>some true
 |.map _,.nilMap=>some false
 |.nilMap,.map _=>some false
 |_,_=>none
def VY (x y:Aa):Option Bool:=
 match x,y with
 |.nilFunc,.nilFunc=>some true
 |.func _ _ _,.nilFunc=>some false
 |.nilFunc,.func _ _ _=>some false
 |_,_=>none
def VZ (x y:Aa):Option Bool:=
 match x,y with
 |.bool (.lit a),.bool (.lit b)=>some (beq a b)
 |_,_=>none
def eqA (Γ:An) (k:EqK) (x y:Aa):Option Bool:=
 match k with
 |.plain Tt=>RO Γ Tt x y
 |.iface nils ts=>RR Γ nils ts x y
 |.ptr=>Ac4 x y
 |.slice=>RM x y
 |.map=>Ac5 x y
 |.func=>VY x y
 |.bool=>VZ x y
def unA (Γ:An) (op:UnOp) (x:Aa):Option Aa:=
 match op,x with
 |.neg,.int k a=>AB (arith Γ .sub k (.lit (.ofNat 0)) a) fun n=>some (.int k n)
 |.xor,.int k a=>AB (arith Γ .xor k (.lit (bif Ix k then .negSucc 0 else .ofNat (modulus k-1))) a) fun n=>some (.int k n)
 |.not,.bool (.lit b)=>some (.bool (.lit (!b)))
 |.not,.bool b=>some (.bool (.no b))
 |_,_=>none
def CN (x:Aa):Option Nat:=
 match x with
 |.int _ (.lit (.ofNat n))=>some n
 |_=>none
def Ct (tm:Tr Aa) (d:Nat) (x:Option CB):Option Nat:=
 match x with
 |none=>some d
 |some x=>CN (ev tm x)
def Ae6 (tm:Tr Aa) (x:Option CB):Option (Option Nat):=
 match x with
 |none=>none
 |some x=>some (CN (ev tm x))
def Wq (Γ:An) (most:Bool) (a b:Aa):Option Aa:=
 match a,b with
 |.int k a,.int k' b=>bif VA k k' then (match (bif most then compare Γ .lss a b else compare Γ .lss b a)with|some (.lit c)=>some (.int k (bif c then b else a)) |_=>none)else none
 |_,_=>none
def Aff (Γ:An) (most:Bool) (l:List Aa):Aa→Option Aa:=
 List.rec (motive:=fun _=>Aa→Option Aa) (fun a=>some a) (fun b _ ih a=>AB (Wq Γ most a b) ih) l
def AbG (c a b:Aa):Option Aa:=
 match c with
 |.bool (.lit v)=>some (bif v then a else b)
 |_=>none
def Oa (cs:Option (List Aa)):Option Aa:=AB cs fun cs=>some (.agg cs)
def AbL (x:Aa):Option Aa:=
 match x with
 |.ptr b o=>some (.ptr b o)
 |.func f a c=>some (.func f a c)
 |.lptr i j o=>some (.lptr i j o)
 |.vptr b e j o=>some (.vptr b e j o)
 |_=>none
def Jw (Γ:An) (c:Bool) (k:EqK) (x y:Aa):Option Aa:=
 AB (eqA Γ k x y) fun b=>some (.bool (.lit (bif c then !b else b)))
def AcB (Γ:An) (k:IntKind) (x:Aa):Option Aa:=
 match x with
 |.int _ n=>some (.int k (convert Γ k n))
 |_=>none
def AaT (x:Aa):Option Aa:=
 match x with
 |.str s=>some (.str s)
 |_=>none
def Aft (s:List Nat) (l h n:Nat):Option Aa:=
 bif Nat.ble l h&&Nat.ble h n then AB (Vj (h-l) (Ni l s)) fun r=>some (.str r)else none
def ZW (x:Aa) (d:Option Nat) (c:Nat→Option Nat):Option Aa:=
 match x with
 |.str s=>AB d fun l=>AB (c (IF s)) fun h=>Aft s l h (IF s)
 |_=>none
def Ta (size b d c l h:Nat):Option Aa:=
 bif Nat.ble l h&&Nat.ble h c then some (.slice b (bif Nat.beq c l then d else d+l*size) (h-l) (c-l))else none
def SY (size b c len d l h:Nat):Option Aa:=
 bif Nat.ble l h&&Nat.ble h len&&Nat.beq size d then
  (bif Nat.beq l 0 then some (.gslice b c h d)
   else bif Nat.blt l h then some (.gslice b (c+l*size) (h-l) d)else none)else none
def JR (size b c len l h m:Nat):Option Aa:=
 bif Nat.ble l h&&Nat.ble h m&&Nat.ble m len then some (.slice b (bif Nat.beq m l then c else c+l*size) (h-l) (m-l))else none
def Gp (size:Nat) (x:Aa) (g:Option Nat) (d:Nat→Option Nat) (j:Option (Option Nat)):Option Aa:=
 match x,j with
 |.slice b off len c,none=>AB g fun l=>AB (d len) fun h=>Ta size b off c l h
 |.gslice b off len es,none=>AB g fun l=>AB (d len) fun h=>SY size b off len es l h
 |.slice b off len _,some m=>AB g fun l=>AB (d len) fun h=>AB m fun m=>JR size b off len l h m
 |.gslice b off len _,some m=>AB g fun l=>AB (d len) fun h=>AB m fun m=>JR size b off len l h m
 |.nilSlice,none=>AB g fun l=>AB (d 0) fun h=>bif Nat.beq l 0&&Nat.beq h 0 then some .nilSlice else none
 |_,_=>none
def RJ (c:Nat) (x:Aa):Option Aa:=
 match x with
 |.ptr b o=>some (.ptr b (o+c))
 |.lptr i j o=>some (.lptr i j (o+c))
 |.vptr b e j o=>some (.vptr b e j (o+c))
 |_=>none
def JV (cs:List Aa) (c:Nat) (n:Option Nat):Option Aa:=
 match n with
 |some n=>AB (cut cs c n) fun r=>some (.agg r)
 |none=>nth cs c
def VU (c:Nat) (n:Option Nat) (x:Aa):Option Aa:=
 match x with
 |.agg cs=>JV cs c n
 |_=>none
def Ya (size b c len:Nat) (i:Option Nat):Option Aa:=
 AB i fun i=>bif Nat.blt i len then some (.ptr b (c+i*size))else none
def AgB (Γ:An) (size i c:Nat) (n:ST) (v:Aa):Option Aa:=
 match v with
 |.int _ t=>bif Nat.beq size c&&(D7 Γ .geq t (.lit (.ofNat 0))&&D7 Γ .lss t n)then some (.lptr i t 0)else none
 |_=>none
def AgA (Γ:An) (size b c:Nat) (n:ST) (v:Aa):Option Aa:=
 match v with
 |.int _ t=>bif Nat.beq size c&&(D7 Γ .geq t (.lit (.ofNat 0))&&D7 Γ .lss t n)then some (.vptr b c t 0)else none
 |_=>none
def Aci (Γ:An) (size:Nat) (x v:Aa) (i:Option Nat):Option Aa:=
 match x with
 |.vec b es n=>AgA Γ size b es n v
 |.lst _ j es n=>AgB Γ size j es n v
 |.slice b off len _=>Ya size b off len i
 |.gslice b off len _=>Ya size b off len i
 |_=>none
def Ry (len size:Nat) (x:Aa) (i:Option Nat):Option Aa:=
 match x with
 |.ptr b off=>AB i fun i=>bif Nat.blt i len then some (.ptr b (off+i*size))else none
 |_=>none
def Ait (len size:Nat) (n:Option Nat) (x:Aa) (i:Option Nat):Option Aa:=
 match x with
 |.agg cs=>AB i fun i=>bif Nat.blt i len then JV cs (i*size) n else none
 |_=>none
def Ach (x:Aa) (i:Option Nat):Option Aa:=
 match x with
 |.str s=>AB i fun i=>AB (Cm s i) fun c=>some (.int .u8 (.lit (.ofNat c)))
 |_=>none
def Ai1 (x:Aa) (i:Nat):Option Aa:=
 match x with
 |.tuple vs=>nth vs i
 |_=>none
def AbZ (Γ:An) (x:Aa):Option Aa:=
 match x with
 |.svar i=>AB (XU i Γ.BB) fun r=>some (.int .i64 r.1)
 |.str s=>some (lit .i64 (.ofNat (IF s)))
 |.anyStr _=>some .any
 |_=>none
def Aca (x:Aa):Option Aa:=
 match x with
 |.slice _ _ n _=>some (lit .i64 (.ofNat n))
 |.gslice _ _ n _=>some (lit .i64 (.ofNat n))
 |.nilSlice=>some (lit .i64 (.ofNat 0))
 |.gbytes b=>some (.glen b)
 |.lst _ _ _ n=>some (.int .i64 n)
 |.vec _ _ n=>some (.int .i64 n)
 |_=>none
def Sc (t:TypeId) (zero:Option Aa) (x:Aa):Option Aa:=
 match x,zero with
 |.iface u v,none=>bif Nat.beq u t then some v else none
 |.iface u v,some z=>some (bif Nat.beq u t then .tuple [v,.bool (.lit true)]else .tuple [z,.bool (.lit false)])
 |.nilIface,some z=>some (.tuple [z,.bool (.lit false)])
 |_,_=>none
def UR (x:Aa):Option Aa:=
 match x with
 |.nilSlice=>some .nilPtr
 |.gbytes b=>some (.ptr b 0)
 |_=>none
def AmC (Γ:An) (most:Bool) (c:List Aa):Option Aa:=
 match c with
 |[]=>none
 |x::r=>Aff Γ most r x
def JS (Γ:An) (i c:Nat) (n:ST) (g d:Option Aa):Option Aa:=
 match g,d with
 |none,some (.int _ t)=>AB (JZ [.take i t] Γ.defs) fun j=>some (.lst false j c t)
 |some (.int _ (.lit (.ofNat 0))),some (.int _ t)=>AB (JZ [.take i t] Γ.defs) fun j=>some (.lst false j c t)
 |some (.int _ t),none=>AB (JZ [.drop i t] Γ.defs) fun j=>AB (Fc j Γ.Ad) fun u=>some (.lst false j c u)
 |_,_=>none
def SZ (Γ:An) (f:Bool) (i c:Nat) (n:ST) (g d:Option Aa):Option Aa:=
 match g,d with
 |none,none=>some (.lst f i c n)
 |none,some (.int k t)=>bif t.eq n then some (.lst f i c n)else JS Γ i c n none (some (.int k t))
 |g,d=>JS Γ i c n g d
def SX (Γ:An) (b c:Nat) (n:ST) (g d:Option Aa):Option Aa:=
 match g,d with
 |none,none=>some (.vec b c n)
 |none,some (.int _ t)=>bif D7 Γ .geq t (.lit (.ofNat 0))&&D7 Γ .leq t n then some (.vec b c t)else none
 |_,_=>none
def MP (Γ:An) (size:Nat) (x:Aa) (d c:Option Aa):Option Aa:=
 match x with
 |.lst f i es n=>bif Nat.beq size es then SZ Γ f i es n d c else none
 |.vec b es n=>bif Nat.beq size es then SX Γ b es n d c else none
 |_=>none
def AlA (x:Aa):Bool:=
 match x with
 |.lst _ _ _ _=>true
 |.vec _ _ _=>true
 |_=>false
def Ml (tm:Tr Aa) (x:Option CB):Option Aa:=
 match x with
 |some x=>some (ev tm x)
 |none=>none
def Gn (Γ:An) (tm:Tr Aa) (size:Nat) (x:Aa) (g c j:Option CB):Option Aa:=
 match AlA x,j with
 |true,none=>MP Γ size x (Ml tm g) (Ml tm c)
 |_,_=>Gp size x (Ct tm 0 g) (fun d=>Ct tm d c) (Ae6 tm j)
def IU (Γ:An) (tm:Tr Aa) (o:POp):Option Aa:=
 match o with
 |.mv x=>some (ev tm x)
 |.pick c a b=>AbG (ev tm c) (ev tm a) (ev tm b)
 |.build zero parts=>Oa (Ia tm parts zero)
 |.Ail x=>AbL (ev tm x)
 |.bin op x y=>AiH Γ op (ev tm x) (ev tm y)
 |.eqs neg k x y=>Jw Γ neg k (ev tm x) (ev tm y)
 |.un op x=>unA Γ op (ev tm x)
 |.conv k x=>AcB Γ k (ev tm x)
 |.same x=>AaT (ev tm x)
 |.iface t x=>some (.iface t (ev tm x))
 |.func f a c=>some (.func f (So tm a) (So tm c))
 |.subs x lo hi=>ZW (ev tm x) (Ct tm 0 lo) (fun d=>Ct tm d hi)
 |.reslice size x lo hi mx=>Gn Γ tm size (ev tm x) lo hi mx
 |.VV off x=>RJ off (ev tm x)
 |.field off n x=>VU off n (ev tm x)
 |.Aiv size x i=>Aci Γ size (ev tm x) (ev tm i) (CN (ev tm i))
 |.VC len size x i=>Ry len size (ev tm x) (CN (ev tm i))
 |.idx len size n x i=>Ait len size n (ev tm x) (CN (ev tm i))
 |.Aiu x i=>Ach (ev tm x) (CN (ev tm i))
 |.ext x i=>Ai1 (ev tm x) i
 |.Aip x=>AbZ Γ (ev tm x)
 |.Aiq x=>Aca (ev tm x)
 |.big most xs=>AmC Γ most (So tm xs)
 |.assert t zero x=>Sc t zero (ev tm x)
 |.AaS x=>UR (ev tm x)
def cellsOf (o:Option Block):Option (List Aa):=
 match o with
 |some (.cells vs)=>some vs
 |some (.typed _ vs)=>some vs
 |_=>none
def Ag7 (o:Option Block) (vs:List Aa):Block:=
 match o with
 |some (.typed e _)=>.typed e vs
 |_=>.cells vs
def bytesOf (o:Option Block):Option (Nat×Nat):=
 match o with
 |some (.bytes n e)=>some (n,e)
 |_=>none
def mapOf (o:Option Block):Option (List Entry×Nat):=
 match o with
 |some (.map es c)=>some (es,c)
 |_=>none
def Ns (o:Option Block):Option (Nat×Nat):=
 match o with
 |some (.list i es)=>some (i,es)
 |_=>none
def elemV (Γ:An) (o:Option Block) (c:Nat) (j:ST):Option (List Aa):=
 AB (Ns o) fun l=>bif Nat.beq l.2 c then PD l.1 j Γ.elems else none
def Nr (Γ:An) (h:Ak) (n:Option Nat) (x:Aa):Option Aa:=
 match x with
 |.vptr b es j off=>AB (elemV Γ (h.get b) es j) fun vs=>JV vs off n
 |.lptr i j off=>AB (PD i j Γ.elems) fun vs=>JV vs off n
 |.ptr b off=>AB (cellsOf (h.get b)) fun vs=>JV vs off n
 |_=>none
def PJ (kk:LK) (x y:Aa):Option Bool:=
 match kk,x,y with
 |.int,.int k (.lit a),.int k' (.lit b)=>bif VA k k' then some (ZF a b)else none
 |.str,.str a,.str b=>some (OS a b)
 |.bool,.bool (.lit a),.bool (.lit b)=>some (beq a b)
 |_,_,_=>none
def Acr (Γ:An) (kk:LK) (k:Aa) (c:List Entry):Option (Option Aa):=
 List.rec (motive:=fun _=>Option (Option Aa)) (some none) (fun e _ ih=>AB (Jy Γ kk k e.key) fun b=>bif b then some (some e.val)else ih) c
def AeT (c:List Entry):Nat:=
 List.rec (motive:=fun _=>Nat) 0 (fun _ _ ih=>ih+1) c
def VP (ok:Bool) (v:Aa) (b:Bool):Aa:=bif ok then .tuple [v,.bool (.lit b)]else v
def AlB (ok:Bool) (zero:Aa) (r:Option Aa):Aa:=
 match r with
 |some v=>VP ok v true
 |none=>VP ok zero false
def Jj (o:Option Block):Option Nat:=
 match o with
 |some (.smap i)=>some i
 |_=>none
def Ag6 (Γ:An) (i:Nat) (k zero:Aa) (ok:Bool):Option Aa:=
 AB (AbV i k Γ.looks) fun r=>match r with
  |some cs=>some (VP ok (.agg cs) true)
  |none=>some (VP ok zero false)
def Qr (kk:LK) (k:Aa):Bool:=
 match kk,k with
 |.str,.str _=>true
 |.str,.svar _=>true
 |_,_=>false
def Vu (Γ:An) (h:Ak) (kk:LK) (b:Nat) (k zero:Aa) (ok:Bool):Option Aa:=
 match Jj (h.get b)with
 |some i=>bif Qr kk k then Ag6 Γ i k zero ok else none
 |none=>AB (mapOf (h.get b)) fun m=>AB (Acr Γ kk k m.1) fun r=>some (AlB ok zero r)
def XV (Γ:An) (h:Ak) (kk:LK) (m k zero:Aa) (ok:Bool):Option Aa:=
 match m with
 |.nilMap=>some (VP ok zero false)
 |.map b=>Vu Γ h kk b k zero ok
 |_=>none
def XW (h:Ak) (x:Aa):Option Aa:=
 match x with
 |.nilMap=>some (lit .i64 (.ofNat 0))
 |.map b=>AB (mapOf (h.get b)) fun m=>some (lit .i64 (.ofNat (AeT m.1)))
 |_=>none
def T4 (e n:Nat) (l:List (Nat×Nat)):Bool:=
 List.rec (motive:=fun _=>Bool) false (fun x _ ih=>(Nat.beq x.1 e&&Nat.beq x.2 n) ||ih) l
def ZN (ok:List (Nat×Nat)) (b:Nat) (B:Option Block):Option Aa:=
 match B with
 |some (.typed e vs)=>bif T4 e (Ad vs) ok then some (.ptr b 0)else none
 |_=>none
def OU (h:Ak) (ok:List (Nat×Nat)) (x:Aa):Option Aa:=
 match x with
 |.ptr b 0=>ZN ok b (h.get b)
 |_=>none
def u8A (v:Aa):Option Nat:=
 match v with
 |.int .u8 (.lit (.ofNat n))=>bif Nat.ble n 255 then some n else none
 |_=>none
def Aha (l:List Aa):Option (List Nat):=
 List.rec (motive:=fun _=>Option (List Nat)) (some []) (fun v _ ih=>AB (u8A v) fun n=>AB ih fun l=>some (n::l)) l
def Ob (h:Ak) (b c len:Nat):Option Aa:=
 bif Nat.beq len 0 then some (.str [])else AB (cellsOf (h.get b)) fun vs=>AB (cut vs c len) fun r=>AB (Aha r) fun s=>some (.str s)
def Yt (h:Ak) (x:Aa):Option Aa:=
 match x with
 |.nilSlice=>some (.str [])
 |.slice b off len _=>Ob h b off len
 |.gslice b off len _=>Ob h b off len
 |_=>none
def Dz (Γ:An) (tm:Tr Aa) (h:Ak) (o:Ow):Option Aa:=
 match o with
 |.load n x=>Nr Γ h n (ev tm x)
 |.lookup kk zero ok x k=>XV Γ h kk (ev tm x) (ev tm k) zero ok
 |.lenM x=>XW h (ev tm x)
 |.uptr ok x=>OU h ok (ev tm x)
 |.bstr x=>Yt h (ev tm x)
def Nk (id:Nat) (zero:List Aa) (l c:Option Nat):Option (Block×Aa):=
 AB l fun l=>AB c fun c=>bif Nat.ble l c&&Nat.ble c 1048576 then some (.cells (rep zero c),.slice id 0 l c)else none
def Lo (t:Option Nat) (cs:List Aa):Block:=
 match t with
 |some e=>.typed e cs
 |none=>.cells cs
def YX (tm:Tr Aa) (id:Nat) (o:AOp):Option (Block×Aa):=
 match o with
 |.box t x=>AB (ev tm x).cells fun cs=>some (Lo t cs,.ptr id 0)
 |.zero t cs=>some (Lo t cs,.ptr id 0)
 |.bslice len zero parts=>AB (Ia tm parts zero) fun cs=>some (.cells cs,.slice id 0 len len)
 |.mkSlice zero l c=>Nk id zero (CN (ev tm l)) (CN (ev tm c))
 |.mkMap=>some (.map [] 0,.map id)
inductive Hy where
 |val (v:Aa) (h:Ak)
 |call (f:FuncId) (args:List Aa)
 |panic (v:Aa)
 |defer (f:FuncId) (args:List Aa)
def U0 (h:Ak) (n:Nat) (a x:Aa):Option Ak:=
 match a with
 |.ptr b off=>AB (cellsOf (h.get b)) fun vs=>AB (FR vs x off n) fun c=>some (h.set b (some (Ag7 (h.get b) c)))
 |_=>none
def MB (h:Ak) (size b c len:Nat):Option (Nat×List Aa):=
 bif Nat.beq len 0 then some (0,[])else AB (cellsOf (h.get b)) fun vs=>AB (cut vs c (len*size)) fun r=>some (len,r)
def byteCells (l:List Nat):List Aa:=
 List.rec (motive:=fun _=>List Aa) [] (fun c _ ih=>.int .u8 (.lit (.ofNat c))::ih) l
def Kk (Γ:An) (i c n:Nat):Nat→Option (List Aa):=
 Nat.rec (motive:=fun _=>Nat→Option (List Aa)) (fun _=>some [])
  (fun _ ih k=>AB (PD i (.lit (.ofNat k)) Γ.elems) fun cs=>bif Nat.beq (Ad cs) c then AB (ih (k+1)) fun r=>some (cs++r)else none) n
def Ahn (Γ:An) (size i c:Nat) (n:ST):Option (Nat×List Aa):=
 match n with
 |.lit (.ofNat m)=>bif Nat.beq size c then AB (Kk Γ i c m 0) fun cs=>some (m,cs)else none
 |_=>none
def JI (h:Ak) (size:Nat) (bytes:Bool) (x:Aa):Option (Nat×List Aa):=
 match x,bytes with
 |.lst _ i es n,false=>Ahn h.fx size i es n
 |.nilSlice,false=>some (0,[])
 |.slice b off len _,false=>MB h size b off len
 |.gslice b off len _,false=>MB h size b off len
 |.str s,true=>bif Nat.beq size 1 then some (IF s,byteCells s)else none
 |_,_=>none
def Ug (h:Ak) (size b d len c n:Nat) (new:List Aa):Option (Aa×Ak):=
 AB (cellsOf (h.get b)) fun vs=>AB (splice new (d+len*size) vs) fun g=>some (.slice b d (len+n) c,h.set b (some (.cells g)))
def I7 (h:Ak) (size len n:Nat) (old new:List Aa):Option (Aa×Ak):=
 bif Nat.ble (len+n) 1048576 then some (.gslice h.next 0 (len+n) size,h.add (.cells (old++new)))else none
def Yy (h:Ak) (size b c len d n:Nat) (new:List Aa):Option (Aa×Ak):=
 AB (cellsOf (h.get b)) fun vs=>bif Nat.beq size d&&Nat.ble (len+n) 1048576 then
  AB (cut vs c (len*size)) fun old=>some (.gslice h.next 0 (len+n) size,(h.set b none).add (.cells (old++new)))else none
def Yw (x:Aa) (h:Ak):Option (Aa×Ak):=
 match x with
 |.lst f i es n=>some (.lst f i es n,h)
 |.vec b es n=>some (.vec b es n,h)
 |.nilSlice=>some (x,h)
 |.slice _ _ _ _=>some (x,h)
 |.gslice _ _ _ _=>some (x,h)
 |_=>none
def AoC (v:Aa):Bool:=
 match v with
 |.bool _=>true
 |.int _ _=>true
 |.str _=>true
 |.svar _=>true
 |.lst _ _ _ _=>true
 |.nilPtr=>true
 |.nilSlice=>true
 |_=>false
def loose (v:Aa):Aa:=
 match v with
 |.lst _ i es n=>.lst false i es n
 |v=>v
def CW (l:List Aa):List Aa:=List.rec (motive:=fun _=>List Aa) [] (fun v _ ih=>loose v::ih) l
def RY (l:List Aa):Bool:=List.rec (motive:=fun _=>Bool) true (fun v _ ih=>AoC v&&ih) l
def Ik (size n:Nat):List Aa→Option (List (List Aa)):=
 Nat.rec (motive:=fun _=>List Aa→Option (List (List Aa))) (fun cs=>List.casesOn (motive:=fun _=>Option (List (List Aa))) cs (some []) (fun _ _=>none))
  (fun _ ih cs=>AB (taken size cs) fun c=>AB (ih (dropped size cs)) fun r=>some (c::r)) n
def I8 (h:Ak) (size:Nat) (part:AL) (n:Nat) (new:List Aa):Option (ST×Block):=
 bif RY new then AB (Ik size n (CW new)) fun c=>AB (JZ [part,.els c] h.fx.defs) fun j=>AB (Fc j h.fx.Ad) fun t=>
  bif D7 h.fx .leq t (.lit (.ofNat 1048576))then some (t,.list j size)else none else none
def Yx (h:Ak) (size b c:Nat) (m:ST) (n:Nat) (new:List Aa):Option (Aa×Ak):=
 AB (Ns (h.get b)) fun l=>bif Nat.beq size c&&Nat.beq l.2 c then
  AB (I8 h size (.take l.1 m) n new) fun r=>some (.vec h.next size r.1,(h.set b none).add r.2)else none
def Y3 (h:Ak) (size i c n:Nat) (new:List Aa):Option (Aa×Ak):=
 bif Nat.beq size c then AB (I8 h size (.all i) n new) fun r=>some (.vec h.next size r.1,h.add r.2)else none
def Qk (h:Ak) (size:Nat) (x:Aa):Option (List AL):=
 match x with
 |.nilSlice=>some []
 |.slice b off len c=>bif Nat.beq len c then (bif Nat.beq len 0 then some []else AB (MB h size b off len) fun s=>bif RY s.2 then AB (Ik size len (CW s.2)) fun d=>some [.els d]else none)else none
 |.lst true i d _=>bif Nat.beq size d then some [.all i]else none
 |.vec b d m=>AB (Ns (h.get b)) fun l=>bif Nat.beq size d&&Nat.beq l.2 d then some [.take l.1 m]else none
 |_=>none
def AaR (p:List AL) (l:List (Nat×List AL)):Option Nat:=
 List.rec (motive:=fun _=>Option Nat) none (fun e _ ih=>bif AL.Qa p e.2 then some e.1 else ih) l
def Mx (h:Ak) (size:Nat) (x:Aa) (n:Nat) (new:List Aa):Option (Aa×Ak):=
 bif RY new then AB (Qk h size x) fun p=>AB (Ik size n (CW new)) fun c=>AB (AaR (p++[.els c]) h.fx.defs) fun j=>AB (Fc j h.fx.Ad) fun t=>
  bif D7 h.fx .leq t (.lit (.ofNat 1048576))then some (.vec h.next size t,h.add (.list j size))else none
 else none
def orR (a b:Option (Aa×Ak)):Option (Aa×Ak):=
 match a with
 |some r=>some r
 |none=>b
def Yz (h:Ak) (size:Nat) (x:Aa) (n:Nat) (new:List Aa):Option (Aa×Ak):=
 match x with
 |.vec b es m=>Yx h size b es m n new
 |.lst true i es _=>Y3 h size i es n new
 |.nilSlice=>orR (Mx h size .nilSlice n new) (I7 h size 0 n [] new)
 |.slice b off len c=>
  bif Nat.ble (len+n) c then Ug h size b off len c n new
  else orR (Mx h size (.slice b off len c) n new) (AB (MB h size b off len) fun old=>I7 h size len n old.2 new)
 |.gslice b off len es=>Yy h size b off len es n new
 |_=>none
def I9 (h:Ak) (size:Nat) (x:Aa) (n:Nat) (new:List Aa):Option (Aa×Ak):=
 bif Nat.beq n 0 then Yw x h else Yz h size x n new
def AeO (v:Aa):Bool:=
 match v with
 |.int .u8 (.lit (.ofNat n))=>Nat.ble n 255
 |_=>false
def Y4 (l:List Aa):Bool:=List.rec (motive:=fun _=>Bool) true (fun v _ ih=>AeO v&&ih) l
def Aev (h:Ak) (bytes:Bool) (y:Aa):Option (Nat×Nat):=
 match y,bytes with
 |.svar i,true=>AB (XU i h.fx.BB) fun r=>some r.2
 |.str s,true=>some (IF s,IF s)
 |.anyStr n,true=>some (1,n)
 |y,false=>AB (JI h 1 false y) fun s=>bif Y4 s.2 then some (s.1,s.1)else none
 |_,_=>none
def HK (o:Option Block):Option (ST×Nat):=
 match o with
 |some (.sbytes t e)=>some (t,e)
 |_=>none
def Y2 (h:Ak) (e b n:Nat):Option (Aa×Ak):=
 match HK (h.get b)with
 |some m=>bif Nat.beq m.2 e then AB (AbY m.1 n h.fx.CQ) fun t=>some (.gbytes h.next,(h.set b none).add (.sbytes t e))else none
 |none=>AB (bytesOf (h.get b)) fun m=>bif Nat.beq m.2 e&&Nat.ble (m.1+n) 1048576 then some (.gbytes h.next,(h.set b none).add (.bytes (m.1+n) e))else none
def Si (h:Ak) (e:Nat) (x:Aa) (c n:Nat):Option (Aa×Ak):=
 match x with
 |.nilSlice=>bif Nat.beq c 0 then (bif Nat.beq n 0 then some (x,h)else none)else bif Nat.ble n 1048576 then some (.gbytes h.next,h.add (.bytes n e))else none
 |.gbytes b=>Y2 h e b n
 |_=>none
def hidden (x:Aa):Bool:=
 match x with
 |.nilSlice=>true
 |.gbytes _=>true
 |_=>false
def AlQ (h:Ak) (x:Aa):Ak:=
 match x with
 |.vec b _ _=>h.set b none
 |_=>h
def Mw (h:Ak) (size:Nat) (x:Aa) (i c:Nat) (n:ST):Option (Aa×Ak):=
 bif Nat.beq size c&&D7 h.fx .gtr n (.lit (.ofNat 0))then
  AB (Qk h size x) fun p=>AB (JZ (p++[.all i]) h.fx.defs) fun j=>AB (Fc j h.fx.Ad) fun t=>
   bif D7 h.fx .leq t (.lit (.ofNat 1048576))then some (.vec h.next size t,(AlQ h x).add (.list j size))else none
 else none
def XO (y:Aa) (bytes:Bool):Option (Nat×Nat×ST):=
 match y,bytes with
 |.lst _ _ _ (.lit _),_=>none
 |.lst _ i es n,false=>some (i,es,n)
 |_,_=>none
def VQ (b c len d j:Nat) (v:Aa):Aa:=
 match v with
 |.slice b' off' len' c'=>bif Nat.beq b b'&&(Nat.beq c off'&&Nat.beq len len')then .lst (Nat.beq c' len) j d (.lit (.ofNat len))else v
 |.gslice b' off' len' _=>bif Nat.beq b b'&&(Nat.beq c off'&&Nat.beq len len')then .lst false j d (.lit (.ofNat len))else v
 |v=>v
def Mo (b c len d j:Nat) (l:List Aa):List Aa:=
 List.rec (motive:=fun _=>List Aa) [] (fun v _ ih=>VQ b c len d j v::ih) l
def Tr.map {α:Type} (g:α→α) (t:Tr α):Tr α:=
 Tr.rec (motive:=fun _=>Tr α) .nil (fun v _ _ l r=>.node (v.map g) l r) (fun n v _ t=>.over n (v.map g) t) t
def PR (Γ:An) (d len g j:Nat) (vs:List Aa):Bool:=
 Dv (AB (cut vs d (len*g)) fun cs=>bif RY cs then AB (Ik g len (CW cs)) fun c=>AB (JZ [.els c] Γ.defs) fun j'=>some (Nat.beq j' j)else none)
def F7 (h:Ak) (z:Nat×Nat×Nat×Nat×Nat) (new:List Aa):Ak×List Aa:=
 match h.get z.1 with
 |some (.cells vs)=>bif PR h.fx z.2.1 z.2.2.1 z.2.2.2.1 z.2.2.2.2 vs then (h.set z.1 none,Mo z.1 z.2.1 z.2.2.1 z.2.2.2.1 z.2.2.2.2 new)else (h,new)
 |_=>(h,new)
def Gy (l:List (Nat×Nat×Nat×Nat×Nat)):Ak→List Aa→Ak×List Aa:=
 List.rec (motive:=fun _=>Ak→List Aa→Ak×List Aa) (fun h n=>(h,n)) (fun z _ ih h n=>ih (F7 h z n).1 (F7 h z n).2) l
def Afi (size:Nat) (x:Aa) (n:Nat) (r:Ak×List Aa):Option (Aa×Ak):=I9 r.1 size x n r.2
def Sh (h:Ak) (size:Nat) (x:Aa) (n:Nat) (new:List Aa):Option (Aa×Ak):=
 match x with
 |.vec b es m=>bif RY new then I9 h size (.vec b es m) n new else Afi size (.vec b es m) n (Gy h.fx.BI h new)
 |x=>I9 h size x n new
def Y1 (h:Ak) (size:Nat) (bytes:Bool) (x y:Aa):Option (Aa×Ak):=
 match XO y bytes with
 |some l=>Mw h size x l.1 l.2.1 l.2.2
 |none=>AB (JI h size bytes y) fun s=>Sh h size x s.1 s.2
def Uf (h:Ak) (size:Nat) (c:Option Nat) (bytes:Bool) (x y:Aa):Option (Aa×Ak):=
 match c,hidden x with
 |some e,true=>AB (Aev h bytes y) fun s=>Si h e x s.1 s.2
 |_,_=>Y1 h size bytes x y
def Afr (h:Ak) (b:Nat) (m:Nat×Nat) (e:Nat):Option Hy:=
 bif Nat.beq m.2 e then some (.val (.anyStr m.1) (h.set b none))else none
def Afq (h:Ak) (b e:Nat):Option Hy:=
 match HK (h.get b)with
 |some m=>bif Nat.beq m.2 e then some (.val (.anyStr 1048576) (h.set b none))else none
 |none=>AB (bytesOf (h.get b)) fun m=>Afr h b m e
def ZM (h:Ak) (e:Nat) (p n:Aa):Option Hy:=
 match p,n with
 |.nilPtr,.int .i64 (.lit (.ofNat 0))=>some (.val (.str []) h)
 |.ptr b 0,.glen c=>bif Nat.beq b c then Afq h b e else none
 |_,_=>none
def Vl (h:Ak) (x:Aa):Option Hy:=some (.val x h)
def Yk (h:Ak) (size b c m:Nat) (src:List Aa):Option (Aa×Ak):=
 bif Nat.beq m 0 then some (lit .i64 (.ofNat 0),h)
 else AB (cellsOf (h.get b)) fun vs=>AB (taken (m*size) src) fun r=>AB (splice r c vs) fun d=>some (lit .i64 (.ofNat m),h.set b (some (.cells d)))
def AcA (h:Ak) (size:Nat) (x:Aa) (n:Nat) (src:List Aa):Option (Aa×Ak):=
 match x with
 |.nilSlice=>some (lit .i64 (.ofNat 0),h)
 |.slice b off len _=>Yk h size b off (bif Nat.ble n len then n else len) src
 |.gslice b off len _=>Yk h size b off (bif Nat.ble n len then n else len) src
 |_=>none
def AgZ (kk:LK) (k v:Aa) (c:Nat) (d:List Entry):Option (List Entry×Bool):=
 List.rec (motive:=fun _=>Option (List Entry×Bool)) (some ([⟨k,v,c⟩],true))
  (fun e d ih=>AB (PJ kk k e.key) fun b=>bif b then some (⟨k,v,e.born⟩::d,false)else AB ih fun r=>some (e::r.1,r.2)) d
def AbR (h:Ak) (b i:Nat) (k v:Aa):Option Ak:=
 match v with
 |.agg cs=>bif RY cs then AB (AbU i k (CW cs) h.fx.Mg) fun j=>some (h.set b (some (.smap j)))else none
 |_=>none
def AbS (h:Ak) (kk:LK) (b:Nat) (k v:Aa):Option Ak:=
 match Jj (h.get b)with
 |some i=>bif Qr kk k then AbR h b i k v else none
 |none=>AB (mapOf (h.get b)) fun m=>bif k.single then AB (AgZ kk k v m.2 m.1) fun r=>
   some (h.set b (some (.map r.1 (bif r.2 then m.2+1 else m.2))))else none
def Vp (h:Ak) (kk:LK) (m k v:Aa):Option Ak:=
 match m with
 |.map b=>AbS h kk b k v
 |_=>none
def NZ (f:Aa) (args:List Aa):Option (FuncId×List Aa):=
 match f with
 |.func g first cap=>some (g,first++(args++cap))
 |_=>none
def AcE (h:Ak) (t:TypeId) (b:Nat):Option Hy:=
 match Jj (h.get b)with
 |some i=>some (.val (.iface t (.map h.next)) (h.add (.smap i)))
 |none=>AB (mapOf (h.get b)) fun m=>some (.val (.iface t (.map h.next)) (h.add (.map m.1 m.2)))
def Wk (h:Ak) (x:Aa):Option Hy:=
 match x with
 |.iface t (.map b)=>AcE h t b
 |_=>none
def Vf (x:Aa):Option Hy:=
 match x with
 |.iface t v=>some (.panic (.iface t v))
 |_=>none
def KI (tm:Tr Aa) (h:Ak) (o:MOp):Option Hy:=
 match o with
 |.store n a x=>AB (U0 h n (ev tm a) (ev tm x)) fun c=>some (.val .any c)
 |.call f args=>AB (NZ (ev tm f) (So tm args)) fun r=>some (.call r.1 r.2)
 |.append size u8 bytes x y=>AB (Uf h size u8 bytes (ev tm x) (ev tm y)) fun r=>some (.val r.1 r.2)
 |.copy size bytes x y=>AB (JI h size bytes (ev tm y)) fun s=>AB (AcA h size (ev tm x) s.1 s.2) fun r=>some (.val r.1 r.2)
 |.mapUp kk m k v=>AB (Vp h kk (ev tm m) (ev tm k) (ev tm v)) fun c=>some (.val .any c)
 |.clone x=>Wk h (ev tm x)
 |.panic x=>Vf (ev tm x)
 |.defer f args=>AB (NZ (ev tm f) (So tm args)) fun r=>some (.defer r.1 r.2)
 |.recover=>none
 |.AgY e p n=>ZM h e (ev tm p) (ev tm n)
 |.AbK x=>Vl h (ev tm x)
structure BA where
 args:List Aa
 pre:List Block
 res:Aa
 post:List (Option Block)
def AgR (v:Aa):Option Nat:=
 match v with
 |.ptr b _=>some b
 |.slice b _ _ _=>some b
 |.gslice b _ _ _=>some b
 |.map b=>some b
 |.vec b _ _=>some b
 |.vptr b _ _ _=>some b
 |.gbytes b=>some b
 |_=>none
def Yd (v:Aa):List Aa:=
 match v with
 |.agg cs=>cs
 |v=>[v]
def Ap6 (p a:Aa) (σ:List Nat):List Nat:=
 match AgR p,AgR a with
 |some i,some j=>bif Nat.ble (IF σ) i then σ++[j]else σ
 |_,_=>σ
def Afa (h:Ak) (b:Option Nat):List Aa:=
 match b with
 |some b=>(match h.get b with|some (.cells us)=>us|some (.typed _ us)=>us|_=>[])
 |none=>[]
def Ai5 (B:Block):List Aa:=
 match B with
 |.cells vs=>vs
 |.typed _ vs=>vs
 |_=>[]
def Abe (σ:List Nat) (v:Aa):Option Aa:=
 match v with
 |.ptr b o=>AB (Cm σ b) fun c=>some (.ptr c o)
 |.slice b o l c=>AB (Cm σ b) fun d=>some (.slice d o l c)
 |.gslice b o l e=>AB (Cm σ b) fun d=>some (.gslice d o l e)
 |.map b=>AB (Cm σ b) fun d=>some (.map d)
 |.vec b e n=>AB (Cm σ b) fun d=>some (.vec d e n)
 |.vptr b e j o=>AB (Cm σ b) fun d=>some (.vptr d e j o)
 |.anyStr n=>some (.anyStr n)
 |.gbytes b=>AB (Cm σ b) fun d=>some (.gbytes d)
 |.bool b=>some (.bool b)
 |.int k n=>some (.int k n)
 |.str s=>some (.str s)
 |.svar i=>some (.svar i)
 |.lst f i e n=>some (.lst f i e n)
 |.lptr i j o=>some (.lptr i j o)
 |.nilPtr=>some .nilPtr
 |.nilSlice=>some .nilSlice
 |.nilMap=>some .nilMap
 |.nilFunc=>some .nilFunc
 |.nilIface=>some .nilIface
 |_=>none
def XF (σ:List Nat) (l:List Aa):Option (List Aa):=
 List.rec (motive:=fun _=>Option (List Aa)) (some []) (fun v _ ih=>AB (Abe σ v) fun u=>AB ih fun us=>some (u::us)) l
def JT (σ:List Nat) (v:Aa):Option Aa:=
 match v with
 |.func f a c=>AB (XF σ a) fun a=>AB (XF σ c) fun c=>some (.func f a c)
 |v=>Abe σ v
def Ac7 (Γ:An) (j:Nat):Bool:=
 match Fc j Γ.Ad with
 |some (.lit (.ofNat 0))=>true
 |_=>false
def Acg (a:Aa):Bool:=
 match a with
 |.nilSlice=>true
 |_=>false
def Ie (Γ:An) (σ:List Nat) (p a:Aa):Bool:=
 match JT σ p with
 |some v=>v.eq a||v.eq (loose a) ||(match v with|.lst false j _ n=>Acg a&&(Ac7 Γ j&&n.eq (.lit (.ofNat 0))) |_=>false)
 |none=>false
def Ad3 (ps:List Aa):List Aa→List Nat→List Nat:=
 List.rec (motive:=fun _=>List Aa→List Nat→List Nat) (fun _ σ=>σ) (fun p _ ih as σ=>List.casesOn (motive:=fun _=>List Nat) as σ (fun a as=>ih as (Ap6 p a σ))) ps
def WB (ps:List Aa):List Aa→List Nat→List Nat:=
 List.rec (motive:=fun _=>List Aa→List Nat→List Nat) (fun _ σ=>σ) (fun p _ ih as σ=>List.casesOn (motive:=fun _=>List Nat) as σ (fun a as=>ih as (Ad3 (Yd p) (Yd a) σ))) ps
def Sq (h:Ak) (l:List Block):Nat→List Nat→List Nat:=
 List.rec (motive:=fun _=>Nat→List Nat→List Nat) (fun _ σ=>σ) (fun B _ ih i σ=>ih (i+1) (Ad3 (Ai5 B) (Afa h (Cm σ i)) σ)) l
def GR (Γ:An) (σ:List Nat) (ps:List Aa):List Aa→Bool:=
 List.rec (motive:=fun _=>List Aa→Bool) (fun as=>List.casesOn (motive:=fun _=>Bool) as true (fun _ _=>false))
  (fun p _ ih as=>List.casesOn (motive:=fun _=>Bool) as false (fun a as=>Ie Γ σ p a&&ih as)) ps
def AbO (n:Nat) (l:List Nat):Bool:=List.rec (motive:=fun _=>Bool) false (fun m _ ih=>Nat.beq m n||ih) l
def Jm (l:List Nat):Bool:=List.rec (motive:=fun _=>Bool) true (fun n r ih=>!(AbO n r)&&ih) l
def He (l:List Block):Nat:=List.rec (motive:=fun _=>Nat) 0 (fun _ _ ih=>ih+1) l
def AK (σ:List Nat) (l:List Aa):Option (List Aa):=
 List.rec (motive:=fun _=>Option (List Aa)) (some []) (fun v _ ih=>AB (JT σ v) fun u=>AB ih fun us=>some (u::us)) l
def Ai4 (l:List Entry):List (Aa×List Aa)→Bool:=
 List.rec (motive:=fun _=>List (Aa×List Aa)→Bool) (fun y=>List.casesOn (motive:=fun _=>Bool) y true (fun _ _=>false))
  (fun e _ ih y=>List.casesOn (motive:=fun _=>Bool) y false (fun x y=>e.key.eq x.1&&((match e.val with|.agg cs=>RY cs&&Aa.Qa (CW cs) x.2|_=>false)&&ih y))) l
def Vt (i:Nat) (l:List (Nat×List (Aa×List Aa))):Option (List (Aa×List Aa)):=
 List.rec (motive:=fun _=>Option (List (Aa×List Aa))) none (fun e _ ih=>bif Nat.beq e.1 i then some e.2 else ih) l
def AbF (i j:Nat) (l:List (Nat×List AL)):Bool:=
 List.rec (motive:=fun _=>Bool) false (fun e _ ih=>(Nat.beq e.1 i&&(match e.2 with|[.take k _]=>Nat.beq k j|_=>false)) ||ih) l
def NM (Γ:An) (σ:List Nat) (p a:Aa):Bool:=
 match p,a with
 |.agg ps,.agg as=>GR Γ σ ps as
 |p,a=>Ie Γ σ p a
def RN (Γ:An) (σ:List Nat) (ps:List Entry):List Entry→Bool:=
 List.rec (motive:=fun _=>List Entry→Bool) (fun as=>List.casesOn (motive:=fun _=>Bool) as true (fun _ _=>false))
  (fun p _ ih as=>List.casesOn (motive:=fun _=>Bool) as false (fun a as=>Ie Γ σ p.key a.key&&(Ie Γ σ p.val a.val&&(Nat.beq p.born a.born&&ih as)))) ps
def NL (Γ:An) (σ:List Nat) (B A:Block):Bool:=
 match B,A with
 |.cells ps,.cells as=>GR Γ σ ps as
 |.typed e ps,.typed e' as=>Nat.beq e e'&&GR Γ σ ps as
 |.list i es,.list j es'=>(Nat.beq i j||AbF i j Γ.defs)&&Nat.beq es es'
 |.smap i,.smap j=>Nat.beq i j
 |.map ps c,.map as d=>Nat.beq c d&&RN Γ σ ps as
 |.smap i,.map es _=>Dv (AB (Vt i Γ.CO) fun l=>some (Ai4 es l))
 |.sbytes t e,.sbytes t' e'=>t.eq t'&&Nat.beq e e'
 |.sbytes t e,.bytes n e'=>t.eq (.lit (.ofNat n))&&Nat.beq e e'
 |.bytes n e,.bytes n' e'=>Nat.beq n n'&&Nat.beq e e'
 |_,_=>false
def eqB (Γ:An) (h:Ak) (σ:List Nat) (i:Nat) (B:Block):Bool:=
 match Cm σ i with
 |some b=>(match h.get b with|some A=>NL Γ σ B A|none=>false)
 |none=>false
def Ae0 (σ:List Nat) (v:Aa):Option Aa:=
 match v with
 |.agg cs=>AB (AK σ cs) fun cs=>some (.agg cs)
 |v=>JT σ v
def Abb (σ:List Nat) (l:List Aa):Option (List Aa):=
 List.rec (motive:=fun _=>Option (List Aa)) (some []) (fun v _ ih=>AB (Ae0 σ v) fun u=>AB ih fun us=>some (u::us)) l
def UW (σ:List Nat) (v:Aa):Option Aa:=
 match v with
 |.agg cs=>AB (AK σ cs) fun cs=>some (.agg cs)
 |.tuple cs=>AB (Abb σ cs) fun cs=>some (.tuple cs)
 |v=>JT σ v
def Abc (σ:List Nat) (l:List Entry):Option (List Entry):=
 List.rec (motive:=fun _=>Option (List Entry)) (some []) (fun e _ ih=>AB (JT σ e.key) fun k=>AB (JT σ e.val) fun v=>AB ih fun c=>some (⟨k,v,e.born⟩::c)) l
def YM (σ:List Nat) (B:Block):Option Block:=
 match B with
 |.cells vs=>AB (AK σ vs) fun vs=>some (.cells vs)
 |.typed e vs=>AB (AK σ vs) fun vs=>some (.typed e vs)
 |.list i d=>some (.list i d)
 |.smap i=>some (.smap i)
 |.sbytes t e=>some (.sbytes t e)
 |.bytes n e=>some (.bytes n e)
 |.map d c=>AB (Abc σ d) fun d=>some (.map d c)
def Ae4 (σ:List Nat) (i:Nat) (B:Option Block) (h:Ak):Option Ak:=
 AB (Cm σ i) fun b=>match B with
  |some B=>AB (YM σ B) fun B=>some (h.set b (some B))
  |none=>some (h.set b none)
def Lj (Γ:An) (σ:List Nat) (ps:List Aa):List Aa→Bool:=
 List.rec (motive:=fun _=>List Aa→Bool) (fun as=>List.casesOn (motive:=fun _=>Bool) as true (fun _ _=>false))
  (fun p _ ih as=>List.casesOn (motive:=fun _=>Bool) as false (fun a as=>NM Γ σ p a&&ih as)) ps
def Zp (Γ:An) (h:Ak) (σ:List Nat) (l:List Block):Nat→Bool:=
 List.rec (motive:=fun _=>Nat→Bool) (fun _=>true) (fun B _ ih i=>eqB Γ h σ i B&&ih (i+1)) l
def Be (l:List Block):Ak→Ak:=
 List.rec (motive:=fun _=>Ak→Ak) (fun h=>h) (fun B _ ih h=>ih (h.add B)) l
def CD (l:List (Option Block)):Ak→Ak:=
 List.rec (motive:=fun _=>Ak→Ak) (fun h=>h) (fun B _ ih h=>ih ⟨Tr.set h.DT h.next B,h.next+1,h.fx⟩) l
def P4 (σ:List Nat) (l:List (Option Block)):Nat→Ak→Option Ak:=
 List.rec (motive:=fun _=>Nat→Ak→Option Ak) (fun _ h=>some h) (fun B _ ih i h=>AB (Ae4 σ i B h) fun c=>ih (i+1) c) l
def LJ (l:List (Option Block)):Nat→Nat→List Nat:=
 List.rec (motive:=fun _=>Nat→Nat→List Nat) (fun _ _=>[]) (fun _ _ ih k n=>Nat.casesOn (motive:=fun _=>List Nat) k (n::ih 0 (n+1)) (fun k=>ih k n)) l
def Tq (l:List (Option Block)):Nat:=List.rec (motive:=fun _=>Nat) 0 (fun _ _ ih=>ih+1) l
def AgD (x:BA) (args:List Aa) (h:Ak) (σ:List Nat):Bool:=
 Nat.beq (IF σ) (He x.pre)&&(Nat.ble (He x.pre) (Tq x.post)&&(Jm σ&&(Lj h.fx σ x.args args&&Zp h.fx h σ x.pre 0)))
inductive Ot where
 |ret (v:Aa)
 |panic (v:Aa)
abbrev C3:=FuncId→List Aa→Ak→Option (Ot×Ak)
structure Fr where
 tm:Tr Aa
 h:Ak
 df:List (FuncId×List Aa)
def Ea (tm:Tr Aa) (d:Option Nat) (v:Aa):Tr Aa:=
 match d with
 |some d=>Tr.set tm d (some v)
 |none=>tm
def Jc:Aa:=.tuple []
def WC (c:Bool) (v:Option Aa):Option Bool:=
 match v with
 |some (.bool (.lit b))=>some (beq c b)
 |some (.tuple [])=>some false
 |_=>none
def Dn (tm:Tr Aa) (g:Option (Nat×Bool)):Option Bool:=
 match g with
 |none=>some true
 |some g=>WC g.2 (Tr.get tm g.1)
inductive Co where
 |go (f:Fr)
 |panic (v:Aa) (f:Fr)
def Zg (f:Fr) (d:Option Nat) (v:Aa):Co:=.go ⟨Ea f.tm d v,f.h,f.df⟩
def Lb (f:Fr) (d:Option Nat) (v:Aa) (h:Ak):Co:=.go ⟨Ea f.tm d v,h,f.df⟩
def Afb (f:Fr) (d:Option Nat) (r:Ot) (h:Ak):Co:=
 match r with
 |.ret v=>Lb f d v h
 |.panic v=>.panic v ⟨f.tm,h,f.df⟩
def Ain (call:C3) (f:Fr) (d:Option Nat) (r:Hy):Option Co:=
 match r with
 |.val v h=>some (Lb f d v h)
 |.call g args=>AB (call g args f.h) fun r=>some (Afb f d r.1 r.2)
 |.panic v=>some (.panic v f)
 |.defer g args=>some (.go ⟨Ea f.tm d .any,f.h,(g,args)::f.df⟩)
def XC (Γ:An) (call:C3) (d:Option Nat) (f:Fr) (o:DS):Option Co:=
 match o with
 |.p o=>AB (IU Γ f.tm o) fun v=>some (Zg f d v)
 |.r o=>AB (Dz Γ f.tm f.h o) fun v=>some (Zg f d v)
 |.a o=>AB (YX f.tm f.h.next o) fun r=>some (Lb f d r.2 (f.h.add r.1))
 |.m o=>AB (KI f.tm f.h o) fun r=>Ain call f d r
def IN (Γ:An) (call:C3) (s:Step) (f:Fr):Option Co:=
 AB (Dn f.tm s.guard) fun w=>bif w then XC Γ call s.dst f s.op else some (Zg f s.dst Jc)
def goes (r:Co) (k:Fr→Option Co):Option Co:=
 match r with
 |.go f=>k f
 |.panic v f=>some (.panic v f)
def UQ (Γ:An) (call:C3) (l:List Step):Fr→Option Co:=
 List.rec (motive:=fun _=>Fr→Option Co) (fun f=>some (.go f)) (fun s _ ih f=>AB (IN Γ call s f) fun x=>goes x ih) l
def Aa.eqs (x y:Aa):Bool:=
 match x,y with
 |.agg a,.agg b=>Aa.Qa a b
 |.tuple a,.tuple b=>Aa.Qa a b
 |x,y=>x.eq y
def AaU (v:Aa) (o:Option Aa):Bool:=
 match o with
 |some u=>v.eqs u
 |none=>false
def Wt (Γ:An) (tm:Tr Aa) (o:Ow) (v:Aa) (n:Nat):List Ak→Bool:=
 Nat.rec (motive:=fun _=>List Ak→Bool) (fun _=>true)
  (fun _ ih hs=>List.casesOn (motive:=fun _=>Bool) hs false (fun h hs=>AaU v (Dz Γ tm h o)&&ih hs)) n
def forget (l:List Step):Tr Aa→Tr Aa:=
 List.rec (motive:=fun _=>Tr Aa→Tr Aa) (fun t=>t) (fun s _ ih t=>ih (match s.dst with|some d=>Tr.set t d none|none=>t)) l
def BY (o:DS):Bool:=
 match o with
 |.m _=>true
 |_=>false
def Xj (Γ:An) (f:Fr) (o:Ow) (back:Nat) (hs:List Ak) (w:Option Bool):Bool:=
 match w with
 |some true=>(match Dz Γ f.tm f.h o with
  |some v=>Wt Γ f.tm o v back hs
  |none=>false)
 |some false=>true
 |none=>false
def Ms (Γ:An) (s:Step) (f:Fr) (hs:List Ak):Bool:=
 match s.op,s.back with
 |.r o,n+1=>Xj Γ f o (n+1) hs (Dn f.tm s.guard)
 |_,_=>true
def VT (Γ:An) (tm:Tr Aa) (h:Ak) (id:Nat) (o:DS):Option (Aa×Option Block):=
 match o with
 |.p o=>AB (IU Γ tm o) fun v=>some (v,none)
 |.r o=>AB (Dz Γ tm h o) fun v=>some (v,none)
 |.a o=>AB (YX tm id o) fun r=>some (r.2,some r.1)
 |.m _=>none
def HX (Γ:An) (tm:Tr Aa) (h:Ak) (id:Nat) (s:Step):Option (Aa×Option Block):=
 AB (Dn tm s.guard) fun w=>bif w then VT Γ tm h id s.op else some (Jc,none)
def GG (h:Ak) (id:Nat) (b:Option Block):Ak:=
 match b with
 |some B=>⟨Tr.set h.DT id (some B),h.next,h.fx⟩
 |none=>h
def AeP (f:Fr) (d:Option Nat) (id:Nat) (r:Aa×Option Block):Co:=.go ⟨Ea f.tm d r.1,GG f.h id r.2,f.df⟩
def IM (Γ:An) (call:C3) (s:Step) (id:Nat) (f:Fr):Option Co:=
 bif BY s.op then IN Γ call s f else AB (HX Γ f.tm f.h id s) fun r=>some (AeP f s.dst id r)
def Ln (l:List Step):Nat→Bool:=
 List.rec (motive:=fun _=>Nat→Bool) (fun _=>true) (fun s _ ih k=>bif BY s.op then ih (k+1)else Nat.ble s.back k&&ih k) l
def T7 (all rest:List Step) (r:Co) (k:Fr→Option Co):Option Co:=
 match r with
 |.go f=>k f
 |.panic v f=>bif Ln rest 0 then some (.panic v ⟨forget all f.tm,f.h,f.df⟩)else none
def AmD (id:Nat) (B:Block) (l:List Ak):List Ak:=
 List.rec (motive:=fun _=>List Ak) [] (fun h _ ih=>⟨Tr.set h.DT id (some B),h.next,h.fx⟩::ih) l
def LL (h c:Ak) (id:Nat):Option Block:=
 match h.get id with
 |none=>c.get id
 |some _=>none
def ML (id:Nat) (B:Option Block) (hs:List Ak):List Ak:=
 match B with
 |some B=>AmD id B hs
 |none=>hs
def LU (Γ:An) (call:C3) (all l:List Step):Nat→Fr→List Ak→Option Co:=
 List.rec (motive:=fun _=>Nat→Fr→List Ak→Option Co) (fun _ f _=>some (.go f))
  (fun s r ih id f hs=>bif Ms Γ s f hs then AB (IM Γ call s id f) fun x=>T7 all r x fun c=>ih (id+1) c (bif BY s.op then f.h::hs else ML id (LL f.h c.h id) hs)else none) l
def BB (l:List Step):Nat:=List.rec (motive:=fun _=>Nat) 0 (fun _ _ ih=>ih+1) l
def HL (n:Nat) (f:Fr):Fr:=⟨f.tm,⟨f.h.DT,f.h.next+n,f.h.fx⟩,f.df⟩
inductive Bi where
 |normal
 |exit (id:Nat)
 |ret
 |panic (v:Aa)
def Gc (r:Co):Bi×Fr:=
 match r with
 |.go f=>(.normal,f)
 |.panic v f=>(.panic v,f)
def Aiz (b c len d j:Nat) (v:Aa):Aa:=
 match v with
 |.agg cs=>.agg (Mo b c len d j cs)
 |.tuple cs=>.tuple (Mo b c len d j cs)
 |v=>VQ b c len d j v
def AlE (b c len d j:Nat) (B:Block):Block:=
 match B with
 |.cells vs=>.cells (Mo b c len d j vs)
 |.typed e vs=>.typed e (Mo b c len d j vs)
 |B=>B
def RE (b i c:Nat) (t:ST) (v:Aa):Aa:=
 match v with
 |.vec b' es' n=>bif Nat.beq b b'&&(Nat.beq c es'&&n.eq t)then .lst false i c t else v
 |v=>v
def HT (b i c:Nat) (t:ST) (l:List Aa):List Aa:=
 List.rec (motive:=fun _=>List Aa) [] (fun v _ ih=>RE b i c t v::ih) l
def AgC (b i c:Nat) (t:ST) (v:Aa):Aa:=
 match v with
 |.agg cs=>.agg (HT b i c t cs)
 |.tuple cs=>.tuple (HT b i c t cs)
 |v=>RE b i c t v
def AlD (b i c:Nat) (t:ST) (B:Block):Block:=
 match B with
 |.cells vs=>.cells (HT b i c t vs)
 |.typed e vs=>.typed e (HT b i c t vs)
 |B=>B
def RG (Γ:An) (z:Nat×Nat×Nat×Nat×Nat) (f:Fr):Fr:=
 match f.h.get z.1 with
 |some (.cells vs)=>bif PR Γ z.2.1 z.2.2.1 z.2.2.2.1 z.2.2.2.2 vs then
   ⟨Tr.map (Aiz z.1 z.2.1 z.2.2.1 z.2.2.2.1 z.2.2.2.2) f.tm,⟨Tr.map (AlE z.1 z.2.1 z.2.2.1 z.2.2.2.1 z.2.2.2.2) (Tr.set f.h.DT z.1 none),f.h.next,f.h.fx⟩,f.df⟩else f
 |some (.list i es)=>bif Nat.beq i z.2.2.2.2 then (match Fc i Γ.Ad with
  |some t=>⟨Tr.map (AgC z.1 i es t) f.tm,⟨Tr.map (AlD z.1 i es t) (Tr.set f.h.DT z.1 none),f.h.next,f.h.fx⟩,f.df⟩
  |none=>f)else f
 |_=>f
def VR (Γ:An) (l:List (Nat×Nat×Nat×Nat×Nat)):Fr→Fr:=
 List.rec (motive:=fun _=>Fr→Fr) (fun f=>f) (fun z _ ih f=>ih (RG Γ z f)) l
def QH (Γ:An) (r:Bi×Fr):Bi×Fr:=
 match r.1,Γ.BI with
 |.normal,z::l=>(.normal,VR Γ (z::l) r.2)
 |_,_=>r
def QM (Γ:An) (call:C3) (d:Bool) (c:List Step) (f:Fr):Option (Bi×Fr):=
 AB (bif d then LU Γ call c c f.h.next (HL (BB c) f) []else UQ Γ call c f) fun r=>some (QH Γ (Gc r))
def andThen (r:Bi×Fr) (k:Fr→Option (Bi×Fr)):Option (Bi×Fr):=
 match r.1 with
 |.normal=>k r.2
 |_=>some r
def AcC (v:Aa) (t e:Option (Bi×Fr)):Option (Bi×Fr):=
 match v with
 |.bool (.lit b)=>bif b then t else e
 |_=>none
def GL (id:Nat) (r:Bi×Fr):Bi×Fr:=
 match r.1 with
 |.exit i=>(bif Nat.beq i id then .normal else .exit i,r.2)
 |_=>r
def Uu (tm:Tr Aa) (l:List (Nat×Aa)):List Nat→List Nat:=
 List.rec (motive:=fun _=>List Nat→List Nat) (fun σ=>σ) (fun p _ ih σ=>ih (Ad3 (Yd p.2) (Yd (EF (Tr.get tm p.1))) σ)) l
def Ye (Γ:An) (σ:List Nat) (tm:Tr Aa) (l:List (Nat×Aa)):Bool:=
 List.rec (motive:=fun _=>Bool) true (fun p _ ih=>NM Γ σ p.2 (EF (Tr.get tm p.1))&&ih) l
def UU (σ:List Nat) (l:List (Nat×Aa)):Tr Aa→Option (Tr Aa):=
 List.rec (motive:=fun _=>Tr Aa→Option (Tr Aa)) (fun t=>some t) (fun p _ ih t=>AB (UW σ p.2) fun v=>ih (Tr.set t p.1 (some v))) l
def OW (l:List (Nat×Aa)):Tr Aa→Tr Aa:=
 List.rec (motive:=fun _=>Tr Aa→Tr Aa) (fun t=>t) (fun p _ ih t=>ih (Tr.set t p.1 (some p.2))) l
def AeR (Γ:An) (σ:List Nat) (p a:List (FuncId×List Aa)):Bool:=
 match p,a with
 |[],[]=>true
 |[p],[a]=>Nat.beq p.1 a.1&&Lj Γ σ p.2 a.2
 |_,_=>false
def ZI (p a:List (FuncId×List Aa)) (σ:List Nat):List Nat:=
 match p,a with
 |[p],[a]=>Ad3 p.2 a.2 σ
 |_,_=>σ
def Abd (σ:List Nat) (p:List (FuncId×List Aa)):Option (List (FuncId×List Aa)):=
 match p with
 |[]=>some []
 |[p]=>AB (AK σ p.2) fun l=>some [(p.1,l)]
 |_=>none
def AgE (Γ:An) (k:BE) (f:Fr) (σ:List Nat):Bool:=
 AeR Γ σ k.df f.df&&(Nat.beq (IF σ) (He k.pre)&&(Nat.ble (He k.pre) (Tq k.post)&&(Jm σ&&(Ye Γ σ f.tm k.Y7&&Zp Γ f.h σ k.pre 0))))
def BE.NC (k:BE):Bi:=bif k.out then .ret else .exit k.id
def AcN (k:BE) (h:Ak) (σ:List Nat):Option (Bi×Fr):=
 AB (P4 σ k.post 0 ⟨h.DT,h.next+(Tq k.post-He k.pre),h.fx⟩) fun c=>AB (UU σ k.Oz .nil) fun tm=>AB (Abd σ k.df) fun df=>some (k.NC,⟨tm,c,df⟩)
def Mv (Γ:An) (k:BE) (f:Fr):Option (Bi×Fr):=
 bif AgE Γ k f (Sq f.h k.pre 0 (ZI k.df f.df (Uu f.tm k.Y7 [])))then AcN k f.h (Sq f.h k.pre 0 (ZI k.df f.df (Uu f.tm k.Y7 []))++LJ k.post (He k.pre) f.h.next)else none
def IV (Γ:An) (cur:Nat) (f:Fr) (l:List BE):Option (Bi×Fr):=
 List.rec (motive:=fun _=>Option (Bi×Fr)) none (fun k _ ih=>bif Nat.beq k.id cur then (match Mv Γ k f with|some x=>some x|none=>ih)else ih) l
def iter (o body:Fr→Option (Bi×Fr)) (n:Nat):Fr→Option (Bi×Fr):=
 Nat.rec (motive:=fun _=>Fr→Option (Bi×Fr)) (fun _=>none) (fun _ ih f=>match o f with
  |some r=>some r
  |none=>AB (body f) fun r=>andThen r ih) n
def FT (Γ:An) (call:C3) (fuel:Nat) (c:IC):Nat→Fr→Option (Bi×Fr):=
 IC.rec (motive:=fun _=>Nat→Fr→Option (Bi×Fr))
  (fun _ f=>some (.normal,f))
  (fun d g _ f=>QM Γ call d g f)
  (fun _ _ a b k f=>AB (a k f) fun r=>andThen r fun j=>b k j)
  (fun c _ _ t e k f=>AcC (ev f.tm c) (t k f) (e k f))
  (fun id _ b _ f=>AB (b id f) fun r=>some (GL id r))
  (fun _ b k f=>iter (fun f=>IV Γ k f Γ.loops) (fun f=>b k f) fuel f)
  (fun id _ f=>some (.exit id,f))
  (fun _ f=>some (.ret,f)) c
def Oh (l:List Aa):Nat→Tr Aa→Tr Aa:=
 List.rec (motive:=fun _=>Nat→Tr Aa→Tr Aa) (fun _ t=>t) (fun v _ ih i t=>ih (i+1) (Tr.set t i (some v))) l
def exec (Γ:An) (call:C3) (fuel:Nat) (c:IC) (f:Fr):Option (Bi×Fr):=FT Γ call fuel c 0 f
def QK (tm:Tr Aa) (h:Ak) (r:Sl):Option Aa:=
 match r with
 |.tmp t=>some (EF (Tr.get tm t))
 |.cell t n=>Nr h.fx h n (EF (Tr.get tm t))
def AaX (tm:Tr Aa) (h:Ak) (l:List Sl):Option (List Aa):=
 List.rec (motive:=fun _=>Option (List Aa)) (some []) (fun x _ ih=>AB (QK tm h x) fun v=>AB ih fun vs=>some (v::vs)) l
def oneOf (vs:List Aa):Aa:=
 match vs with
 |[v]=>v
 |vs=>.tuple vs
inductive CS where
 |returning
 |panicking (v:Aa)
abbrev Sm:=FuncId→List Aa→CS→Ak→Option (CS×Ak)
def Rp (c:Sm) (l:List (FuncId×List Aa)):CS→Ak→Option (CS×Ak):=
 List.rec (motive:=fun _=>CS→Ak→Option (CS×Ak)) (fun m h=>some (m,h)) (fun d _ ih m h=>AB (c d.1 d.2 m h) fun r=>ih r.1 r.2) l
def Ag8 (F:EN) (tm:Tr Aa) (r:CS×Ak):Option (Ot×Ak):=
 match r.1 with
 |.returning=>AB (AaX tm r.2 F.results) fun vs=>some (.ret (oneOf vs),r.2)
 |.panicking v=>some (.panic v,r.2)
def Rh (e:Bi):Option CS:=
 match e with
 |.normal=>some .returning
 |.ret=>some .returning
 |.panic v=>some (.panicking v)
 |.exit _=>none
def HF (F:EN) (args:List Aa) (h:Ak):Fr:=⟨Oh args 0 (Tr.full Aa F.depth),h,[]⟩
def Qi (Γ:An) (call:C3) (c:Sm) (fuel:Nat) (F:EN) (args:List Aa) (h:Ak):Option (Ot×Ak):=
 AB (exec Γ call fuel F.body (HF F args h)) fun r=>AB (Rh r.1) fun m=>AB (Rp c r.2.df m r.2.h) fun x=>Ag8 F r.2.tm x
def Gx (m:CS) (r:Bi×Fr):Option (CS×Ak):=
 match r.1,r.2.df with
 |.normal,[]=>some (m,r.2.h)
 |.ret,[]=>some (m,r.2.h)
 |_,_=>none
def recovered (m:CS):Aa:=
 match m with
 |.panicking v=>v
 |.returning=>.nilIface
def Lm (Γ:An) (call:C3) (fuel:Nat) (F:EN) (args:List Aa) (m:CS) (h:Ak):Option (CS×Ak):=
 match F.body,F.results with
 |.seq (.region false (⟨dst,none,.m .recover,_⟩::steps)) rest,[]=>
  AB (UQ Γ call steps ⟨Ea (HF F args h).tm dst (recovered m),h,[]⟩) fun r=>AB (andThen (Gc r) fun f=>exec Γ call fuel rest f) fun r=>Gx .returning r
 |body,[]=>AB (exec Γ call fuel body (HF F args h)) fun r=>Gx m r
 |_,_=>none
abbrev Bv:=List Aa→Ak→Option (Ot×Ak)
def Ra (o:Option Bv) (args:List Aa) (h:Ak) (k:Unit→Option (Ot×Ak)):Option (Ot×Ak):=
 match o with
 |some f=>(match f args h with|some r=>some r|none=>k ())
 |none=>k ()
def LY (Γ:An) (c:FuncId→Option Bv) (DT:FuncId→Option EN) (fuel d:Nat):C3:=
 Nat.rec (motive:=fun _=>C3) (fun _ _ _=>none)
  (fun _ ih f args h=>Ra (c f) args h (fun _=>AB (DT f) fun F=>Qi Γ ih (fun f args m h=>AB (DT f) fun F=>Lm Γ ih fuel F args m h) fuel F args h)) d
def An.bare (Γ:An):An:={Γ with loops:=[]}
def Ahb (Γ:An) (c:FuncId→Option Bv) (DT:FuncId→Option EN) (fuel d:Nat):C3:=fun f args h=>
 AB (DT f) fun F=>Qi Γ (LY Γ.bare c DT fuel d) (fun f args m h=>AB (DT f) fun F=>Lm Γ.bare (LY Γ.bare c DT fuel d) fuel F args m h) fuel F args h
def inK (k:IntKind) (t:ST):Bool:=
 match t with
 |.lit n=>bif Ix k then ile (.negSucc (modulus k/2-1)) n&&ile n (.ofNat (modulus k/2-1))else ile (.ofNat 0) n&&ile n (.ofNat (modulus k-1))
 |_=>false
def XZ (Γ:An) (t:ST):Bool:=
 match t with
 |.lit n=>inK .i64 (.lit n)
 |.conv k _=>VA k .i64
 |.bin .add k _ _=>VA k .i64
 |t=>Dv (Cf Γ.tests .geq t (.lit (.negSucc 9223372036854775807)))&&Dv (Cf Γ.tests .leq t (.lit (.ofNat 9223372036854775807)))
def Nv (Γ:An):Bv:=fun args h=>
 match args with
 |[.int .i64 n,.int .i64 (.lit (.ofNat 10))]=>bif XZ Γ n then some (.ret (.anyStr 21),h)else none
 |_=>none
def Nw (Γ:An):Bv:=fun args h=>
 match args with
 |[.int .i64 n]=>bif XZ Γ n then some (.ret (.anyStr 21),h)else none
 |_=>none
def Tn (f:Nat) (l:List (Nat×Bv)):Option Bv:=
 List.rec (motive:=fun _=>Option Bv) none (fun x _ ih=>bif Nat.beq x.1 f then some x.2 else ih) l
def AcO (x:BA) (h:Ak) (σ:List Nat):Option (Ot×Ak):=
 AB (P4 σ x.post 0 ⟨h.DT,h.next+(Tq x.post-He x.pre),h.fx⟩) fun c=>AB (UW σ x.res) fun v=>some (.ret v,c)
def RU (x:BA):Bv:=fun args h=>
 let σ:=Sq h x.pre 0 (WB x.args args [])
 bif AgD x args h σ then AcO x h (σ++LJ x.post (He x.pre) h.next)else none
def Kr (l:List BA):Bv:=
 List.rec (motive:=fun _=>Bv) (fun _ _=>none) (fun x _ ih args h=>match RU x args h with|some y=>some y|none=>ih args h) l
def ZR:Bv:=fun args h=>
 match args with
 |[]=>some (.ret yes,h)
 |_=>none
end
end Go.AM
end
section
namespace Go.AM
def strOf (s:ByteArray):List Nat:=s.data.toList.map (·.toNat)
mutual
def Hg:Value→Aa
 |.bool b=>.bool (.lit b)
 |.int k n=>.int k (.lit n)
 |.string s=>.str (strOf s)
 |.pointer none=>.nilPtr
 |.slice none 0 0=>.nilSlice
 |.map none=>.nilMap
 |.nilFunc=>.nilFunc
 |.nilIface=>.nilIface
 |.agg ⟨cs⟩=>if (Ul cs).all (·.single)then .agg (Ul cs)else .any
 |_=>.any
def Ul:List Value→List Aa
 |[]=>[]
 |v::r=>Hg v::Ul r
end
def AF:Operand→CB
 |.tmp t=>.tmp t
 |.const v=>.con (Hg v)
 |.func f=>.con (.func f [] [])
 |.global _=>.con .any
def Cg (l:List Operand):List CB:=l.map AF
def Bf (P:Program) (t:TypeId):Option Nat:=(P.info? t).map (·.size)
def Eg (P:Program) (t:TypeId):Option (Option Nat):=
 match P.underlying t,P.info? t with
 |some (.struct _),some i|some (.array _ _),some i=>some (some i.size)
 |some _,some _=>some none
 |_,_=>none
def H8 (P:Program) (t:TypeId):Option (List Aa):=
 match P.info? t with
 |some i=>i.zero.bind fun v=>(Hg v).cells.bind fun cs=>if cs.all (·.single)then some cs else none
 |none=>none
def DJ {α:Type}:List (Option (List α))→Option (List α)
 |[]=>some []
 |some a::r=>(DJ r).map (a++·)
 |none::_=>none
def LK.no:LK→Nat
 |.bool=>0
 |.int=>1
 |.str=>2
def C8 (k:Nat) (l:List (Nat×LK)):List (Nat×LK):=l.map fun x=>(k+x.1,x.2)
def below (n:Nat) (l:List (Nat×LK)):Bool:=l.all fun x=>Nat.blt x.1 n
def leaves (P:Program):Nat→TypeId→Option (List (Nat×LK))
 |0,_=>none
 |d+1,t=>match P.underlying t with
  |some .bool=>some [(0,.bool)]
  |some (.int _)=>some [(0,.int)]
  |some .string=>some [(0,.str)]
  |some (.struct fs)=>if P.stoodInHeld t then none else DJ (fs.toList.map fun f=>if f.name= "_" then none else
    match leaves P d f.type,Bf P f.type with
    |some l,some n=>if below n l&&Nat.ble (f.offset+n) (P.cellsOf t)then some (C8 f.offset l)else none
    |_,_=>none)
  |some (.array k e)=>match leaves P d e,Bf P e with
   |some l,some n=>if below n l&&Nat.ble (k*n) (P.cellsOf t)then some ((List.range k).flatMap fun i=>C8 (i*n) l)else none
   |_,_=>none
  |_=>none
def Ev:List (Nat×LK)→List (Nat×LK)→Bool
 |[],[]=>true
 |a::x,b::y=>Nat.beq a.1 b.1&&Nat.beq a.2.no b.2.no&&Ev x y
 |_,_=>false
def La (P:Program) (t:TypeId):Bool:=
 match Eg P t with
 |some (some _)=>true
 |_=>false
def R5 (P:Program) (pl:List C5):Bool:=
 pl.all fun x=>(match leaves P 6 x.t with|some l=>Ev l x.Tt|none=>false)&&((P.info? x.t).map (·.comparable)).getD false&&beq (La P x.t) x.agg
def Zc (P:Program) (t:TypeId):Option LK:=
 match P.underlying t with
 |some .bool=>some .bool
 |some (.int _)=>some .int
 |some .string=>some .str
 |_=>none
def E2:Operand→Bool
 |.const .nilIface=>true
 |_=>false
def partsOf (c:Nat→Option (Nat×Nat)):List (Nat×Operand)→Option (List (Nat×Nat×CB))
 |[]=>some []
 |(i,x)::r=>match c i,partsOf c r with
  |some (off,size),some ps=>some ((off,size,AF x)::ps)
  |_,_=>none
def RZ (P:Program) (pl:List C5) (c:Bool) (t:TypeId) (x y:Operand):Option POp:=
 match P.underlying t with
 |some .bool=>some (.eqs c .bool (AF x) (AF y))
 |some (.pointer e)=>(Bf P e).bind fun _=>some (.eqs c .ptr (AF x) (AF y))
 |some (.slice _)=>some (.eqs c .slice (AF x) (AF y))
 |some (.map _ _)=>some (.eqs c .map (AF x) (AF y))
 |some (.func _ _ _)=>some (.eqs c .func (AF x) (AF y))
 |some (.struct _) |some (.array _ _)=>match leaves P 6 t with
  |some l=>if P.eqGuardType P.depth t then none else some (.eqs c (.plain l) (AF x) (AF y))
  |none=>none
 |some (.interface ms)=>if R5 P pl then some (.eqs c (.iface (ms.isEmpty||E2 x||E2 y) pl) (AF x) (AF y))else none
 |_=>none
def Yl (P:Program) (pl:List C5) (op:BinOp) (t:TypeId) (x y:Operand):Option POp:=
 match P.underlying t,op with
 |some (.int _),_=>some (.bin op (AF x) (AF y))
 |some .string,_=>some (.bin op (AF x) (AF y))
 |some _,.eql=>RZ P pl false t x y
 |some _,.neq=>RZ P pl true t x y
 |_,_=>none
def u8T (P:Program) (e:TypeId) (size:Nat):Option Nat:=
 match P.underlying e,P.info? e with
 |some (.int .u8),some i=>(match i.zero with|some (.int .u8 (.ofNat 0))=>if Nat.beq size 1 then some e else none|_=>none)
 |_,_=>none
def Fg (P:Program) (e:TypeId) (bytes:Bool) (x y:Operand):Option DS:=
 match P.info? e with
 |some i=>if i.bytes≤1048576&&(i.zero.map fun v=>Nat.beq v.cells.size i.size).getD false then some (.m (.append i.size (u8T P e i.size) bytes (AF x) (AF y)))else none
 |none=>none
def fieldsOf (P:Program) (t:TypeId):List Field:=
 match P.underlying t with
 |some (.struct fs)=>fs.toList
 |_=>[]
def AbI (P:Program) (t:TypeId):Bool:=
 match fieldsOf P t with
 |f::_=>(match P.underlying f.type with|some (.pointer u)=>Nat.beq u t|_=>false)
 |[]=>false
def AbM (P:Program) (t:TypeId):Bool:=
 AbI P t||(match fieldsOf P t with|f::_=>AbI P f.type|[]=>false)
def Su (P:Program) (t:TypeId):Option Nat:=if AbM P t then some t else none
def HC (P:Program) (p:TypeId→Nat→Bool):List (Nat×Nat):=
 (List.range P.types.size).filterMap fun e=>if AbM P e then (match P.info? e with|some i=>if Nat.ble 1 i.size&&p e i.size then some (e,i.size)else none|none=>none)else none
def NU (P:Program) (s d:TypeId) (x:Operand):Option DS:=
 match P.underlying s,P.underlying d with
 |some (.int _),some (.int k)=>some (.p (.conv k (AF x)))
 |some .string,some .string=>some (.p (.same (AF x)))
 |some (.slice e),some .string=>(match P.underlying e with|some (.int .u8)=>some (.r (.bstr (AF x))) |_=>none)
 |some (.pointer t),some .unsafePointer=>(match Bf P t with|some (_+1)=>some (.r (.uptr (HC P fun _ _=>true) (AF x))) |_=>none)
 |some .unsafePointer,some (.pointer u)=>(Bf P u).map fun _=>.r (.uptr (HC P fun e n=>liesAt P P.depth e (n/P.cellsOf e) 0 u 1) (AF x))
 |_,_=>none
def J0 (P:Program) (t:TypeId) (ok:Bool) (x:Operand):Option DS:=
 match P.underlying t,P.info? t with
 |some (.interface _),_=>none
 |some _,some i=>if ok then i.zero.map fun z=>.p (.assert t (some (Hg z)) (AF x))else some (.p (.assert t none (AF x)))
 |_,_=>none
def F6 (P:Program) (c:Call):Option DS:=
 match c.callee with
 |.value (.func f)=>match P.funcs[f]? with
  |some fn=>if fn.body.isSome then some (.m (.call (AF (.func f)) (Cg c.args.toList)))
   else if fn.name== "maps.clone" &&fn.origin== "" then (match c.args.toList with|[x]=>some (.m (.clone (AF x))) |_=>none)
   else if fn.name== "internal/abi.NoEscape" &&fn.origin== "" then (match c.args.toList with|[x]=>some (.m (.AbK (AF x))) |_=>none)
   else none
  |none=>none
 |.value f=>some (.m (.call (AF f) (Cg c.args.toList)))
 |.invoke _ _=>none
 |.builtin b=>match b,c.args.toList,c.argTypes.toList with
  |.len,[x],[t]=>match P.underlying t with
   |some .string=>some (.p (.Aip (AF x)))
   |some (.slice _)=>some (.p (.Aiq (AF x)))
   |some (.array n _)=>some (.p (.mv (.con (lit .i64 (.ofNat n)))))
   |some (.map _ _)=>some (.r (.lenM (AF x)))
   |_=>none
  |.append,[x,y],[t,u]=>match P.underlying t,P.underlying u with
   |some (.slice e),some (.slice _)=>Fg P e false x y
   |some (.slice e),some .string=>Fg P e true x y
   |_,_=>none
  |.copy,[x,y],[t,u]=>match P.underlying t,P.underlying u with
   |some (.slice e),some (.slice _)=>(Bf P e).map fun n=>.m (.copy n false (AF x) (AF y))
   |some (.slice e),some .string=>(Bf P e).map fun n=>.m (.copy n true (AF x) (AF y))
   |_,_=>none
  |.max,xs,_=>some (.p (.big true (Cg xs)))
  |.min,xs,_=>some (.p (.big false (Cg xs)))
  |.recover,[],_=>some (.m .recover)
  |.unsafeSliceData,[x],_=>some (.p (.AaS (AF x)))
  |.unsafeString,[p,n],[pt,_]=>match P.underlying pt with
   |some (.pointer e)=>if Nat.beq (P.cellsOf e) 1 then some (.m (.AgY e (AF p) (AF n)))else none
   |_=>none
  |_,_,_=>none
def D8 (P:Program) (pl:List C5) (o:Oper):Option DS:=
 match o.op with
 |.move x|.assign x=>some (.p (.mv (AF x)))
 |.pick c a b=>some (.p (.pick (AF c) (AF a) (AF b)))
 |.alloc t=>(H8 P t).map fun z=>.a (.zero (Su P t) z)
 |.box t x=>some (.a (.box (Su P t) (AF x)))
 |.build t parts=>match P.underlying t,H8 P t with
  |some (.struct fs),some z=>if fs.all fun f=>(P.info? f.type).isSome then (partsOf (fun i=>(fs[i]?).bind fun f=>(Bf P f.type).map fun n=>(f.offset,n)) parts.toList).map fun ps=>.p (.build z ps)else none
  |some (.array _ e),some z=>(Bf P e).bind fun n=>(partsOf (fun i=>some (i*n,n)) parts.toList).map fun ps=>.p (.build z ps)
  |_,_=>none
 |.buildSlice t len parts=>match P.underlying t with
  |some (.slice e)=>match Bf P e,H8 P e with
   |some n,some z=>if len*n≤65536&&z.length==n then (partsOf (fun i=>some (i*n,n)) parts.toList).map fun ps=>.a (.bslice len (List.replicate len z).flatten ps)else none
   |_,_=>none
  |_=>none
 |.insert t m k v|.mapUpdate t m k v=>match P.underlying t with
  |some (.map kt _)=>(Zc P kt).map fun kk=>.m (.mapUp kk (AF m) (AF k) (AF v))
  |_=>none
 |.load t x=>(Eg P t).map fun n=>.r (.load n (AF x))
 |.store t a x=>(Bf P t).map fun n=>.m (.store n (AF a) (AF x))
 |.nilCheck x=>some (.p (.Ail (AF x)))
 |.binOp op t x y _=>(Yl P pl op t x y).map .p
 |.unOp op _ x=>some (.p (.un op (AF x)))
 |.convert s d x=>NU P s d x
 |.typeAssert x _ t ok=>J0 P t ok x
 |.makeInterface t x=>match P.underlying t with
  |some (.interface _)=>none
  |some _=>some (.p (.iface t (AF x)))
  |none=>none
 |.makeFunc (.func f) a c=>some (.p (.func f (Cg a.toList) (Cg c.toList)))
 |.makeMap t r=>match P.underlying t,r with
  |some (.map _ _),none|some (.map _ _),some (.const (.int _ _))=>some (.a .mkMap)
  |_,_=>none
 |.makeSlice t l c=>match P.underlying t with
  |some (.slice e)=>match P.info? e,H8 P e with
   |some i,some z=>if i.bytes≤1048576&&z.length==i.size then some (.a (.mkSlice z (AF l) (AF c)))else none
   |_,_=>none
  |_=>none
 |.slice t x lo hi mx=>match P.underlying t,mx with
  |some .string,none=>some (.p (.subs (AF x) (lo.map AF) (hi.map AF)))
  |some (.slice e),none=>(Bf P e).map fun n=>.p (.reslice n (AF x) (lo.map AF) (hi.map AF) none)
  |some (.slice e),some m=>if hi.isSome then (Bf P e).map fun n=>.p (.reslice n (AF x) (lo.map AF) (hi.map AF) (some (AF m)))else none
  |_,_=>none
 |.fieldAddr t x f=>match P.underlying t with
  |some (.struct fs)=>(fs[f]?).bind fun g=>match Bf P g.type with
   |some (_+1)=>some (.p (.VV g.offset (AF x)))
   |_=>none
  |_=>none
 |.field t x f=>match P.underlying t with
  |some (.struct fs)=>(fs[f]?).bind fun g=>(Eg P g.type).map fun n=>.p (.field g.offset n (AF x))
  |_=>none
 |.indexAddr t x i=>match P.underlying t with
  |some (.slice e)=>(Bf P e).map fun n=>.p (.Aiv n (AF x) (AF i))
  |some (.array len e)=>(Bf P e).map fun n=>.p (.VC len n (AF x) (AF i))
  |_=>none
 |.index t x i=>match P.underlying t with
  |some (.array len e)=>match Bf P e,Eg P e with
   |some n,some a=>some (.p (.idx len n a (AF x) (AF i)))
   |_,_=>none
  |some .string=>some (.p (.Aiu (AF x) (AF i)))
  |_=>none
 |.lookup t x k ok=>match P.underlying t with
  |some (.map kt e)=>match P.info? e,Zc P kt with
   |some i,some kk=>i.zero.map fun z=>.r (.lookup kk (Hg z) ok (AF x) (AF k))
   |_,_=>none
  |_=>none
 |.extract x i=>some (.p (.ext (AF x) i))
 |.panic x=>some (.m (.panic (AF x)))
 |.call c=>F6 P c
 |.defer {callee:=.value f,args,.. }=>some (.m (.defer (AF f) (Cg args.toList)))
 |_=>none
def guardOf (c:Array Oper):Option (Nat×Bool)→Option (Option (Nat×Bool))
 |none=>some none
 |some (j,want)=>match (c[j]?).bind (·.dst)with
  |some d=>some (some (d,want))
  |none=>none
def stepOf (P:Program) (pl:List C5) (nt:Nat) (c:Array Oper) (o:Oper) (back:Nat):Option Step:=
 match D8 P pl o,guardOf c o.guard with
 |some op,some g=>if (o.dst.all fun d=>Nat.blt d nt)&&(g.all fun x=>Nat.blt x.1 nt)then some ⟨o.dst,g,op,back⟩else none
 |_,_=>none
def BD {α:Type}:List (Option α)→Option (List α)
 |[]=>some []
 |some a::r=>(BD r).map (a::·)
 |none::_=>none
def QZ (before:Array Nat) (n:Nat):List Nat→List Nat→List Nat
 |[],done=>done++(List.range n).filter fun i=>!done.contains i
 |m::ms,done=>QZ before n ms (done++(List.range n).filter fun i=>!done.contains i&&(i==m||(before.getD m 0).testBit i))
def CB.names:CB→List Nat
 |.tmp t=>[t]
 |.con _=>[]
def POp.Cg:POp→List CB
 |.mv x|.Ail x|.un _ x|.conv _ x|.same x|.iface _ x|.VV _ x|.field _ _ x|.ext x _|.Aip x|.Aiq x|.assert _ _ x|.AaS x=>[x]
 |.pick c a b=>[c,a,b]
 |.build _ ps=>ps.map (·.2.2)
 |.bin _ x y|.eqs _ _ x y|.Aiv _ x y|.VC _ _ x y|.idx _ _ _ x y|.Aiu x y=>[x,y]
 |.func _ a c=>a++c
 |.subs x lo hi=>x::(lo.toList++hi.toList)
 |.reslice _ x lo hi mx=>x::(lo.toList++(hi.toList++mx.toList))
 |.big _ xs=>xs
def Ow.Cg:Ow→List CB
 |.load _ x|.lenM x|.uptr _ x|.bstr x=>[x]
 |.lookup _ _ _ x k=>[x,k]
def AOp.Cg:AOp→List CB
 |.box _ x=>[x]
 |.zero _ _|.mkMap=>[]
 |.bslice _ _ ps=>ps.map (·.2.2)
 |.mkSlice _ l c=>[l,c]
def MOp.Cg:MOp→List CB
 |.store _ a x|.append _ _ _ a x|.copy _ _ a x|.AgY _ a x=>[a,x]
 |.call f args|.defer f args=>f::args
 |.mapUp _ m k v=>[m,k,v]
 |.clone x|.panic x|.AbK x=>[x]
 |.recover=>[]
def DS.Cg:DS→List CB
 |.p o=>o.Cg
 |.r o=>o.Cg
 |.a o=>o.Cg
 |.m o=>o.Cg
def Step.names (s:Step):List Nat:=
 match s.guard with
 |some g=>g.1::s.op.Cg.flatMap CB.names
 |none=>s.op.Cg.flatMap CB.names
def Ws (W:Nat→Nat→Bool) (x y:Nat×Step):Bool:=
 !(Nat.beq x.1 y.1)&&(!BY y.2.op||W x.1 y.1)&&
 (match x.2.dst with
  |some d=>(match y.2.dst with|some e=>!(Nat.beq e d) |none=>true)&&(!(y.2.names.any (Nat.beq d)) ||W x.1 y.1)
  |none=>true)&&
 (match y.2.dst with
  |some d=>!(x.2.names.any (Nat.beq d)) ||W x.1 y.1
  |none=>true)
def Of (W:Nat→Nat→Bool) (x:Nat):List (Nat×Step)→Nat→Bool
 |[],_=>true
 |y::r,k=>if BY y.2.op then Of W x r (k+1)else (Nat.blt k y.2.back||W x y.1)&&Of W x r k
def Afv (s:Step):Bool:=
 match s.dst with
 |some d=>!(s.names.any (Nat.beq d))
 |none=>true
def okD (W:Nat→Nat→Bool):List (Nat×Step)→Bool
 |[]=>true
 |x::r=>Afv x.2&&(r.all (Ws W x)&&((!BY x.2.op||Of W x.1 r 0)&&okD W r))
def Db (c:Array Oper) (i:Nat):List Nat:=
 match c[i]? with
 |some o=>(o.after.toList.filter (Region.binds .any)).map (·.on)
 |none=>[]
def Zb (c:Array Oper):List Nat→Bool
 |[]=>true
 |i::r=>(Db c i).all (fun e=>Nat.blt e i&&!(r.any (Nat.beq e)))&&Zb c r
def waits (before:List Nat) (i j:Nat):Bool:=(before.getD j 0).testBit i
def Ja (c:Array Oper) (before:List Nat):Bool:=
 (List.range c.size).all fun j=>(List.range c.size).all fun i=>!(waits before i j) ||
  (Db c j).any fun e=>Nat.blt e j&&(Nat.beq e i||waits before i e)
def AcL (before:Array Nat) (muts c:List Nat) (i:Nat):Nat:=
 let seen:=(c.takeWhile (·!=i)).filter muts.contains
 (seen.filter fun m=>!(before.getD i 0).testBit m).length
def Ac8 (d:Array Oper) (before c:List Nat) (g:List Step):Bool:=
 Nat.beq c.length g.length&&Nat.beq c.length d.size&&((List.range d.size).all (fun i=>c.any (Nat.beq i))&&(c.all (fun i=>Nat.blt i d.size)&&(Zb d c&&(Ja d before&&okD (waits before) (c.zip g)))))
def NT (P:Program) (pl:List C5) (nt:Nat) (c:Array Oper):Option (List Step):=
 let before:=Region.before c
 match BD (c.toList.map (D8 P pl))with
 |none=>none
 |some iops=>
  let muts:=(List.range c.size).filter fun i=>(iops[i]?.map BY).getD false
  let d:=QZ before c.size muts []
  match BD (d.map fun i=>(c[i]?).bind fun o=>stepOf P pl nt c o (AcL before muts d i))with
  |some steps=>if Ac8 c before.toList d steps then some steps else none
  |none=>none
def GW (P:Program) (pl:List C5) (nt:Nat) (c:Array Oper) (d:Bool):Option (List Step):=
 if d then NT P pl nt c else BD (c.toList.map fun o=>stepOf P pl nt c o 0)
def AY (P:Program) (pl:List C5) (nt:Nat):Code→Option IC
 |.skip=>some .skip
 |.region _ ops draw=>(GW P pl nt ops draw).map (.region draw)
 |.seq a b=>match AY P pl nt a,AY P pl nt b with
  |some a,some b=>some (.seq a b)
  |_,_=>none
 |.cond c a b=>match AY P pl nt a,AY P pl nt b with
  |some a,some b=>some (.cond (AF c) a b)
  |_,_=>none
 |.block id b=>(AY P pl nt b).map (.block id)
 |.loop b=>(AY P pl nt b).map .loop
 |.exit id=>some (.exit id)
 |.ret=>some .ret
 |.refuse _=>some (.cond (.con .any) .skip .skip)
 |_=>none
def GV (P:Program):ResultVar→Option Sl
 |.tmp t=>some (.tmp t)
 |.cell a t=>(Eg P t).map (.cell a)
def AeU (n:Nat):Nat:=Nat.log2 (n+1)+1
def Ff (P:Program) (pl:List C5) (fn:Func):Option EN:=
 match fn.body with
 |none=>none
 |some c=>match AY P pl fn.ntmps c,BD (fn.results.toList.map (GV P))with
  |some body,some results=>some {depth:=AeU fn.ntmps,results,body}
  |_,_=>none
end Go.AM
end
section
namespace Go.AM
inductive PV where
 |bool (b:Bool)
 |int (k:IntKind) (n:Int)
 |str (s:List Nat)
 |list (es:Nat) (l:List (List PV))
 |nilp
structure Env where
 val:Nat→Int
 AS:Nat→Option Obj:=fun _=>none
 str:Nat→List Nat:=fun _=>[]
 lst:Nat→List (List PV):=fun _=>[]
 map:Nat→List (List Nat×List PV):=fun _=>[]
instance:Coe Env (Nat→Int):=⟨Env.val⟩
theorem Rv (a b:Int):ile a b=decide (a≤b):=by
 rw [Bool.eq_iff_iff]
 cases a<;>cases b<;>simp [ile]<;>omega
theorem Rx (a b:Int):ZF a b=(a==b):=by
 rw [Bool.eq_iff_iff]
 cases a<;>cases b<;>simp [ZF]<;>omega
theorem Rw {a b:Int}:ZF a b=true↔a=b:=by rw [Rx];simp
theorem Ais (a b:Int):ilt a b=decide (a<b):=by
 unfold ilt;rw [Rv,Bool.eq_iff_iff];simp
theorem Dt {a b:IntKind}:VA a b=true↔a=b:=by
 cases a<;>cases b<;>simp [VA,Vz]
theorem HO {a b:BinOp}:O4 a b=true↔a=b:=by
 cases a<;>cases b<;>simp [O4,YV]
theorem beq_eq (a b:Bool):beq a b=(a==b):=by cases a<;>cases b<;>rfl
theorem XQ (n:Int) (m:Nat) (c:0<m):(Rf n m:Int)=n%(m:Int):=by
 cases n with
 |ofNat a=>simp [Rf]
 |negSucc a=>
  have h:=Nat.mod_lt a c
  simp only [Rf]
  rw [Int.negSucc_emod a (by omega:(0:Int)<(m:Int))]
  omega
theorem AeG (n:Int) (m:Nat) (c:0<m):Rf n m<m:=by
 cases n with
 |ofNat a=>exact Nat.mod_lt _ c
 |negSucc a=>simp only [Rf];have h:=Nat.mod_lt a c;omega
theorem HP (k:IntKind):0<modulus k:=by cases k<;>decide
theorem Jn (k:IntKind):(2:Int)^k.bits=(modulus k:Int):=by cases k<;>rfl
theorem Rg (k:IntKind):(2:Int)^(k.bits-1)*2=(modulus k:Int):=by cases k<;>rfl
theorem UO (k:IntKind):Ix k=k.signed:=by cases k<;>rfl
theorem JA (k:IntKind) (n:Int) (m:Nat) (h:n%(2^k.bits:Int)=(m:Int)) (j:m<modulus k):k.wrap n=back k m:=by
 have g:=Rg k
 unfold IntKind.wrap back
 simp only [h]
 rw [Jn,UO]
 cases hs:k.signed with
 |false=>simp
 |true=>
  simp only [Bool.true_and]
  by_cases hc:modulus k≤m+m
  ·have d:Nat.ble (modulus k) (m+m)=true:=by simpa using hc
   have c:decide ((m:Int)≥2^(k.bits-1))=true:=by simp;omega
   rw [if_pos (by simpa using c),d]
   simp only [cond_true]
   omega
  ·have d:Nat.ble (modulus k) (m+m)=false:=by
    cases h':Nat.ble (modulus k) (m+m)with
    |false=>rfl
    |true=>exact absurd (Nat.le_of_ble_eq_true h') hc
   have c:¬((m:Int)≥2^(k.bits-1)):=by omega
   rw [if_neg (by simpa using c),d]
   rfl
theorem HA (k:IntKind) (n:Int):Lu k n=k.wrap n:=by
 unfold Lu
 exact (JA k n _ (by rw [Jn,XQ _ _ (HP k)]) (AeG _ _ (HP k))).symm
theorem XR (k:IntKind) (x:Int):Rf x (modulus k)=(BitVec.ofInt k.bits x).toNat:=by
 rw [BitVec.toNat_ofInt]
 have h:=XQ x (modulus k) (HP k)
 have e:((2^k.bits:Nat):Int)=(modulus k:Int):=by cases k<;>rfl
 rw [e,←h]
 exact (Int.toNat_natCast _).symm
theorem JD (k:IntKind):2^k.bits=modulus k:=by cases k<;>rfl
theorem AcJ (op:BinOp) (k:IntKind) (x y:Int) (h:op=.and∨op=.or∨op=.xor∨op=.andNot):Qj op k x y=bits op k x y:=by
 unfold Qj bits
 rw [XR,XR]
 generalize BitVec.ofInt k.bits x=a
 generalize BitVec.ofInt k.bits y=b
 have hb:∀r:BitVec k.bits,back k r.toNat=k.wrap (r.toNat:Int):=fun r=>by
  have c:r.toNat<modulus k:=by rw [←JD];exact r.isLt
  exact (JA k _ _ (by rw [Jn];exact Int.emod_eq_of_lt (by omega) (by omega)) c).symm
 rcases h with rfl|rfl|rfl|rfl<;>simp only [XS]<;>rw [←hb]
 ·rw [BitVec.toNat_and];rfl
 ·rw [BitVec.toNat_or];rfl
 ·rw [BitVec.toNat_xor];rfl
 ·rw [BitVec.toNat_and,BitVec.toNat_not,JD];rfl
def DK (op:BinOp) (k:IntKind) (x y:Int):Int:=
 match op with
 |.add=>k.wrap (x+y)
 |.sub=>k.wrap (x-y)
 |.mul=>k.wrap (x*y)
 |.quo=>k.wrap (x.tdiv y)
 |.rem=>x.tmod y
 |.shl=>k.wrap (x*2^min y.toNat k.bits)
 |.shr=>x.fdiv (2^min y.toNat k.bits)
 |op=>bits op k x y
def EK (op:BinOp) (x y:Int):Bool:=
 match op with
 |.eql=>x==y
 |.neq=>x !=y
 |.lss=>decide (x<y)
 |.leq=>decide (x≤y)
 |.gtr=>decide (x>y)
 |_=>decide (x≥y)
def ST.den (ρ:Nat→Int):ST→Int
 |.lit n=>n
 |.var i=>ρ i
 |.bin op k a b=>DK op k (a.den ρ) (b.den ρ)
 |.conv k a=>k.wrap (a.den ρ)
def SB.den (ρ:Nat→Int):SB→Bool
 |.lit b=>b
 |.cmp op a b=>EK op (a.den ρ) (b.den ρ)
 |.no a=>!(a.den ρ)
theorem ST.Bg:∀{a b:ST},a.eq b=true→a=b
 |.lit a,.lit b,h=>by simp only [ST.eq]at h;rw [Rw.1 h]
 |.var i,.var j,h=>by simp only [ST.eq]at h;rw [Nat.eq_of_beq_eq_true h]
 |.bin o k a b,.bin o' k' a' b',h=>by
  simp only [ST.eq,aT]at h
  obtain ⟨⟨⟨g,c⟩,u⟩,d⟩:=h
  rw [HO.1 g,Dt.1 c,ST.Bg u,ST.Bg d]
 |.conv k a,.conv k' a',h=>by
  simp only [ST.eq,aT]at h
  rw [Dt.1 h.1,ST.Bg h.2]
 |.lit _,.var _,h|.lit _,.bin ..,h|.lit _,.conv ..,h|.var _,.lit _,h|.var _,.bin ..,h|.var _,.conv ..,h
 |.bin ..,.lit _,h|.bin ..,.var _,h|.bin ..,.conv ..,h|.conv ..,.lit _,h|.conv ..,.var _,h|.conv ..,.bin ..,h=>by simp [ST.eq]at h
theorem SB.Bg:∀{a b:SB},a.eq b=true→a=b
 |.lit a,.lit b,h=>by simp only [SB.eq,beq_eq]at h;simp at h;rw [h]
 |.cmp o a b,.cmp o' a' b',h=>by
  simp only [SB.eq,aT]at h
  rw [HO.1 h.1.1,ST.Bg h.1.2,ST.Bg h.2]
 |.no a,.no b,h=>by simp only [SB.eq]at h;rw [SB.Bg h]
 |.lit _,.cmp ..,h|.lit _,.no _,h|.cmp ..,.lit _,h|.cmp ..,.no _,h|.no _,.lit _,h|.no _,.cmp ..,h=>by simp [SB.eq]at h
def Et (ρ:Env):Aa→Option (List Nat)
 |.str s=>some s
 |.svar i=>some (ρ.str i)
 |_=>none
def Mr (ρ:Env):Aa→PV→Prop
 |.bool b,p=>p=.bool (b.den ρ)
 |.int k n,p=>p=.int k (n.den ρ)
 |.str s,p=>p=.str s
 |.svar i,p=>p=.str (ρ.str i)
 |.lst f i es n,p=>f=false∧p=.list es (ρ.lst i)∧n.den ρ=((ρ.lst i).length:Int)
 |.nilPtr,p=>p=.nilp
 |_,_=>False
def FW (ρ:Env):List Aa→List PV→Prop
 |[],ps=>ps=[]
 |a::as,ps=>∃p rest,ps=p::rest∧Mr ρ a p∧FW ρ as rest
def WA (ρ:Env) (a:Aa) (p:PV):Prop:=
 match a with
 |.nilSlice=>∃c,p=.list c []
 |a=>Mr ρ a p
def CR (ρ:Env):List Aa→List PV→Prop
 |[],ps=>ps=[]
 |a::as,ps=>∃p rest,ps=p::rest∧WA ρ a p∧CR ρ as rest
def Ej (ρ:Env):List (List Aa)→List (List PV)→Prop
 |[],ps=>ps=[]
 |a::as,ps=>∃p rest,ps=p::rest∧CR ρ a p∧Ej ρ as rest
def FU (ρ:Env):AL→List (List PV)→Prop
 |.els es,l=>Ej ρ es l
 |.all i,l=>l=ρ.lst i
 |.take i n,l=>0≤n.den ρ∧n.den ρ≤((ρ.lst i).length:Int)∧l=(ρ.lst i).take (n.den ρ).toNat
 |.drop i n,l=>0≤n.den ρ∧n.den ρ≤((ρ.lst i).length:Int)∧l=(ρ.lst i).drop (n.den ρ).toNat
def B6 (ρ:Env):List AL→List (List PV)→Prop
 |[],l=>l=[]
 |p::ps,l=>∃a b,l=a++b∧FU ρ p a∧B6 ρ ps b
def Adf (ρ:Env):List (Aa×List Aa)→List (List Nat×List PV)→Prop
 |[],l=>l=[]
 |x::r,l=>∃s ps rest,l=(s,ps)::rest∧Et ρ x.1=some s∧CR ρ x.2 ps∧Adf ρ r rest
def BK:List (List Nat×List PV)→List Nat→Option (List PV)
 |[],_=>none
 |e::r,k=>if e.1=k then some e.2 else BK r k
def Bj:List (List Nat×List PV)→List Nat→List PV→List (List Nat×List PV)
 |[],k,v=>[(k,v)]
 |e::r,k,v=>if e.1=k then (k,v)::r else e::Bj r k v
structure An.AG (Γ:An) (ρ:Env):Prop where
 Eb:∀x∈Γ.Eb,x.1.den ρ=x.2
 tests:∀x∈Γ.tests,EK x.1 (x.2.1.den ρ) (x.2.2.1.den ρ)=x.2.2.2
 strs:∀x∈Γ.strs,∃s t,Et ρ x.1=some s∧Et ρ x.2.1=some t∧x.2.2=decide (s=t):=by intro _ h;cases h
 EV:∀x∈Γ.EV,∃s t,Et ρ x.1=some s∧Et ρ x.2.1=some t∧Et ρ x.2.2=some (s++t)∧s.length+t.length≤1048576:=by intro _ h;cases h
 BB:∀x∈Γ.BB,x.2.1.den ρ=((ρ.str x.1).length:Int)∧x.2.2.1≤(ρ.str x.1).length∧(ρ.str x.1).length≤x.2.2.2:=by intro _ h;cases h
 Ad:∀x∈Γ.Ad,x.2.den ρ=((ρ.lst x.1).length:Int):=by intro _ h;cases h
 elems:∀x∈Γ.elems,∃ps,0≤x.2.1.den ρ∧(ρ.lst x.1)[(x.2.1.den ρ).toNat]?=some ps∧FW ρ x.2.2 ps:=by intro _ h;cases h
 defs:∀x∈Γ.defs,B6 ρ x.2 (ρ.lst x.1):=by intro _ h;cases h
 looks:∀x∈Γ.looks,∃s,Et ρ x.2.1=some s∧(match x.2.2 with
  |some cs=>∃ps,BK (ρ.map x.1) s=some ps∧FW ρ cs ps
  |none=>BK (ρ.map x.1) s=none):=by intro _ h;cases h
 Mg:∀x∈Γ.Mg,∃s ps,Et ρ x.2.1=some s∧CR ρ x.2.2.1 ps∧ρ.map x.2.2.2=Bj (ρ.map x.1) s ps:=by intro _ h;cases h
 CQ:∀x∈Γ.CQ,x.1.den ρ+x.2.1≤x.2.2.den ρ∧x.2.2.den ρ≤1048576:=by intro _ h;cases h
 CO:∀x∈Γ.CO,Adf ρ x.2 (ρ.map x.1):=by intro _ h;cases h
theorem An.AG.none (ρ:Env):({}:An).AG ρ where
 Eb:=fun _ h=>(by cases h)
 tests:=fun _ h=>(by cases h)
theorem LN:∀{l:List (ST×Int)} {t:ST} {n:Int},JY l t=some n→(t,n)∈l
 |[],_,_,h=>by simp [JY]at h
 |(s,m)::r,t,n,h=>by
  simp only [JY]at h
  cases e:s.eq t with
  |true=>
   rw [e]at h
   simp only [cond_true,oI]at h
   rw [ST.Bg e,h]
   exact List.mem_cons_self
  |false=>rw [e]at h;exact List.mem_cons_of_mem _ (LN h)
theorem Ds:∀{l:List (BinOp×ST×ST×Bool)} {op:BinOp} {a b:ST} {v:Bool},Cf l op a b=some v→(op,a,b,v)∈l
 |[],_,_,_,_,h=>by simp [Cf]at h
 |(o,s,t,u)::r,op,a,b,v,h=>by
  simp only [Cf]at h
  cases e:O4 o op&&s.eq a&&t.eq b with
  |true=>
   rw [e]at h
   simp only [cond_true,oI]at h
   simp only [aT]at e
   rw [HO.1 e.1.1,ST.Bg e.1.2,ST.Bg e.2,h]
   exact List.mem_cons_self
  |false=>rw [e]at h;exact List.mem_cons_of_mem _ (Ds h)
section
variable {Γ:An} {ρ:Env} (hΓ:Γ.AG ρ)
include hΓ
theorem KK (t:ST):(numOf Γ t).den ρ=t.den ρ:=by
 unfold numOf
 split
 ·rename_i n h;exact (hΓ.Eb _ (LN h)).symm
 ·rfl
omit hΓ in
theorem Sf {op:BinOp} {k:IntKind} {a b n:Int} (h:Sg op k a b=some n):
  n=DK op k a b∧(op=.quo∨op=.rem→b≠0)∧FO op=false∧Ec op=false:=by
 cases op<;>simp only [Sg,oI,reduceCtorEq]at h
 case add|sub|mul=>exact ⟨by rw [←h,HA];rfl,by simp,rfl,rfl⟩
 case quo|rem=>
  cases e:ZF b 0 with
  |true=>rw [e]at h;simp at h
  |false=>
   rw [e]at h
   simp only [cond_false,oI]at h
   refine ⟨by rw [←h];first|(rw [HA];rfl) |rfl,fun _ hb=>?_,rfl,rfl⟩
   rw [Rw.2 hb]at e;cases e
 case and|or|xor|andNot=>exact ⟨by rw [←h,AcJ _ _ _ _ (by simp)];rfl,by simp,rfl,rfl⟩
theorem Io {op:BinOp} {k:IntKind} {a b t:ST} (h:arith Γ op k a b=some t):
  t.den ρ=DK op k (a.den ρ) (b.den ρ)∧(op=.quo∨op=.rem→b.den ρ≠0)∧FO op=false∧Ec op=false:=by
 have g:∀{t},Wr Γ op k a b=some t→t.den ρ=DK op k (a.den ρ) (b.den ρ)∧(op=.quo∨op=.rem→b.den ρ≠0)∧FO op=false∧Ec op=false:=fun {t} h=>by
  unfold Wr at h
  cases e:total op b||Yi Γ op b with
  |false=>rw [e]at h;simp at h
  |true=>
   rw [e]at h
   simp only [cond_true,oI]at h
   rw [Bool.or_eq_true]at e
   refine ⟨by rw [←h,KK hΓ];rfl,fun d=>?_,?_,?_⟩
   ·rcases e with e|e
    ·rcases d with rfl|rfl<;>cases b<;>simp [total,Rx]at e<;>simpa [ST.den]using e
    ·have key:Cf Γ.tests .eql b (.lit 0)=some false:=by
      have c:(match Cf Γ.tests .eql b (.lit 0)with|some v=>!v|none=>false)=true:=by rcases d with rfl|rfl<;>exact e
      cases hv:Cf Γ.tests .eql b (.lit 0)with
      |none=>rw [hv]at c;cases c
      |some v=>
       rw [hv]at c
       cases v with
       |false=>rfl
       |true=>cases c
     have j:EK .eql (b.den ρ) ((ST.lit 0).den ρ)=false:=hΓ.tests _ (Ds key)
     simpa [EK,ST.den]using j
   ·rcases e with e|e<;>cases op<;>first|rfl|(simp [total]at e) |(simp [Yi]at e)
   ·rcases e with e|e<;>cases op<;>first|rfl|(simp [total]at e) |(simp [Yi]at e)
 unfold arith at h
 split at h
 ·rename_i x y
  cases e:Sg op k x y with
  |none=>rw [e]at h;simp [AB]at h
  |some n=>
   rw [e]at h
   simp only [AB,oI]at h
   rw [←h]
   exact Sf e
 ·exact g h
omit hΓ in
theorem NV {op:BinOp} {a b:Int} {v:Bool} (h:AcD op a b=some v):v=EK op a b∧FO op=true:=by
 cases op<;>simp only [AcD,oI,reduceCtorEq]at h<;>subst h<;>refine ⟨?_,rfl⟩<;>simp [EK,Rx,Rv,Ais,bne]<;>rfl
theorem CU {op:BinOp} {a b:ST} {s:SB} (h:compare Γ op a b=some s):s.den ρ=EK op (a.den ρ) (b.den ρ)∧FO op=true:=by
 have c:∀{s},NS Γ op a b=some s→s.den ρ=EK op (a.den ρ) (b.den ρ)∧FO op=true:=fun {s} h=>by
  unfold NS at h
  cases e:FO op with
  |false=>rw [e]at h;simp at h
  |true=>
   rw [e]at h
   simp only [cond_true]at h
   split at h
   ·rename_i v hv
    simp only [oI]at h
    subst h
    exact ⟨(hΓ.tests _ (Ds hv)).symm,rfl⟩
   ·simp only [oI]at h
    subst h
    exact ⟨rfl,rfl⟩
 unfold compare at h
 split at h
 ·rename_i x y
  cases e:AcD op x y with
  |none=>rw [e]at h;simp [AB]at h
  |some v=>
   rw [e]at h
   simp only [AB,oI]at h
   rw [←h]
   exact NV e
 ·exact c h
theorem OO (k:IntKind) (a:ST):(convert Γ k a).den ρ=k.wrap (a.den ρ):=by
 unfold convert
 split
 ·simp [ST.den,HA]
 ·rw [KK hΓ];rfl
theorem O5 {b:ST} (h:natural Γ b=true):0≤b.den ρ:=by
 unfold natural at h
 split at h
 ·rw [Rv]at h;simpa [ST.den]using h
 ·rename_i hb
  cases e:Cf Γ.tests .geq b (.lit (.ofNat 0))with
  |none=>rw [e]at h;cases h
  |some v=>
   rw [e]at h
   cases v with
   |false=>cases h
   |true=>
    have:=hΓ.tests _ (Ds e)
    simpa [EK,ST.den]using this
end
theorem JM {op:BinOp} {k yk:IntKind} {x y n:Int} (h:QF op k x y=some n):Op.shift op k x yk y=pure (.int k n):=by
 cases y with
 |negSucc y=>simp [QF]at h
 |ofNat y=>
  simp only [QF]at h
  have d:(bif Nat.ble y k.bits then y else k.bits)=min y k.bits:=by
   cases e:Nat.ble y k.bits with
   |true=>simp only [cond_true];have:=Nat.le_of_ble_eq_true e;omega
   |false=>
         simp only [cond_false];have:¬y≤k.bits:=fun h=>by rw [Nat.ble_eq_true_of_le h]at e;cases e
         omega
  rw [d]at h
  have c:Int.ofNat (2^min y k.bits)=(2:Int)^min y k.bits:=by simp
  unfold Op.shift
  rw [if_neg (by simp)]
  cases op<;>simp only [MI,oI,reduceCtorEq]at h
  ·rw [←h,HA,c];rfl
  ·rw [←h,c];rfl
theorem SU {op:BinOp} {k yk:IntKind} {x y:Int} (hs:Ec op=true) (g:0≤y):Op.shift op k x yk y=pure (.int k (DK op k x y)):=by
 obtain ⟨n,rfl⟩:=Int.eq_ofNat_of_zero_le g
 refine JM ?_
 have d:(bif Nat.ble n k.bits then n else k.bits)=min n k.bits:=by
  cases e:Nat.ble n k.bits with
  |true=>simp only [cond_true];have:=Nat.le_of_ble_eq_true e;omega
  |false=>
        simp only [cond_false];have:¬n≤k.bits:=fun h=>by rw [Nat.ble_eq_true_of_le h]at e;cases e
        omega
 have c:Int.ofNat (2^min n k.bits)=(2:Int)^min n k.bits:=by simp
 show MI op k x (bif Nat.ble n k.bits then n else k.bits)=_
 rw [d]
 cases op<;>simp only [Ec,Bool.false_eq_true]at hs
 ·simp only [MI,DK,HA,c,Int.toNat_natCast]
 ·simp only [MI,DK,c,Int.toNat_natCast]
theorem Ue {op:BinOp} {t:TypeId} {k:IntKind} {x y:Int} (h:op=.quo∨op=.rem→y≠0) (hc:FO op=false) (hs:Ec op=false):
  binOp op t (.int k x) (.int k y)=pure (.int k (DK op k x y)):=by
 cases op<;>first|(simp [FO,YV]at hc;done) |(simp [Ec]at hs;done) |skip
 case add|sub|mul=>simp [binOp,Op.intArith,DK]
 case quo|rem=>have:=h (by simp);simp [binOp,Op.intDiv,DK,this]
 case and|or|xor|andNot=>simp [binOp,DK];rfl
theorem Zy {op:BinOp} {t:TypeId} {k:IntKind} {x y:Int} (hc:FO op=true):binOp op t (.int k x) (.int k y)=pure (.bool (EK op x y)):=by
 cases op<;>first|(simp [FO,YV]at hc;done) |skip
 all_goals (simp [binOp,Op.intCmp,EK])
end Go.AM
end
section
namespace Go.AM
section
variable {α:Type}
theorem Tr.Ed (v:Option α) (l r:Tr α) (n:Nat):
  (Tr.node v l r).get n=bif Nat.beq n 0 then v else bif Nat.beq (n%2) 1 then l.get (n/2)else r.get (n/2-1):=rfl
theorem Tr.F3 (m:Nat) (v:Option α) (t:Tr α) (n:Nat):(Tr.over m v t).get n=bif Nat.beq n m then v else t.get n:=rfl
theorem Tr.set_nil (n:Nat) (x:Option α):(Tr.nil:Tr α).set n x=.over n x .nil:=rfl
theorem Tr.AaQ (v:Option α) (l r:Tr α) (n:Nat) (x:Option α):
  (Tr.node v l r).set n x=bif Nat.beq n 0 then .node x l r else bif Nat.beq (n%2) 1 then .node v (l.set (n/2) x) r else .node v l (r.set (n/2-1) x):=rfl
theorem Tr.AaP (m:Nat) (v:Option α) (t:Tr α) (n:Nat) (x:Option α):
  (Tr.over m v t).set n x=bif Nat.beq n m then .over m x t else .over m v (t.set n x):=rfl
theorem AI {β:Type} (m n:Nat) (a b:β):(bif Nat.beq m n then a else b)=if m=n then a else b:=by
 by_cases h:m=n
 ·subst h;simp
 ·have:Nat.beq m n=false:=by
   cases e:Nat.beq m n with
   |false=>rfl
   |true=>exact absurd (Nat.eq_of_beq_eq_true e) h
  rw [this,if_neg h];rfl
theorem Tr.Bk:∀(t:Tr α) (n m:Nat) (x:Option α),(t.set n x).get m=if m=n then x else t.get m
 |.nil,n,m,x=>by rw [Tr.set_nil,Tr.F3,AI]
 |.over k v t,n,m,x=>by
  rw [Tr.AaP,AI]
  by_cases h:n=k
  ·subst h
   rw [if_pos rfl,Tr.F3,Tr.F3,AI,AI]
   by_cases h2:m=n<;>simp [h2]
  ·rw [if_neg h,Tr.F3,Tr.F3,AI,AI,Tr.Bk t n m x]
   by_cases h2:m=k
   ·subst h2;rw [if_pos rfl,if_neg (Ne.symm h),if_pos rfl]
   ·rw [if_neg h2,if_neg h2]
 |.node v l r,n,m,x=>by
  rw [Tr.AaQ,AI,AI]
  by_cases h0:n=0
  ·rw [if_pos h0,Tr.Ed,Tr.Ed]
   simp only [AI]
   by_cases h2:m=0
   ·rw [if_pos h2,if_pos (by omega)]
   ·rw [if_neg h2,if_neg (by omega:¬m=n),if_neg h2]
  ·rw [if_neg h0]
   by_cases h1:n%2=1
   ·rw [if_pos h1,Tr.Ed,Tr.Ed]
    simp only [AI]
    rw [Tr.Bk l]
    by_cases h2:m=0
    ·rw [if_pos h2,if_neg (by omega),if_pos h2]
    ·rw [if_neg h2,if_neg h2]
     by_cases h3:m%2=1
     ·rw [if_pos h3,if_pos h3]
      by_cases h4:m=n
      ·rw [if_pos h4,if_pos (by omega)]
      ·rw [if_neg h4,if_neg (by omega)]
     ·rw [if_neg h3,if_neg h3,if_neg (by intro e;subst e;exact h3 h1)]
   ·rw [if_neg h1,Tr.Ed,Tr.Ed]
    simp only [AI]
    rw [Tr.Bk r]
    by_cases h2:m=0
    ·rw [if_pos h2,if_neg (by omega),if_pos h2]
    ·rw [if_neg h2,if_neg h2]
     by_cases h3:m%2=1
     ·rw [if_pos h3,if_pos h3,if_neg (by intro e;subst e;exact h1 h3)]
     ·rw [if_neg h3,if_neg h3]
      by_cases h4:m=n
      ·rw [if_pos h4,if_pos (by omega)]
      ·rw [if_neg h4,if_neg (by omega)]
theorem Tr.Kg:∀(n m:Nat),(Tr.full α n).get m=none
 |0,m=>rfl
 |n+1,m=>by
  show (Tr.node none (Tr.full α n) (Tr.full α n)).get m=none
  rw [Tr.Ed,AI,AI,Tr.Kg,Tr.Kg]
  split<;>first|rfl|(split<;>rfl)
end
def BN (m:Nat):Nat:=m%1048577
def BZ (m:Nat):Nat:=m/1048577
def OB (len cap:Nat):Nat:=len+1048577*cap
theorem B4 {len cap:Nat} (h:len≤1048576):BN (OB len cap)=len:=by unfold BN OB;omega
theorem BO {len cap:Nat} (h:len≤1048576):BZ (OB len cap)=cap:=by unfold BZ OB;omega
abbrev Z5:=Nat×Nat×Nat
structure Ap where
 spot:Nat→Option Z5
 Bb:Nat→Option Obj
instance:CoeFun Ap fun _=>Nat→Option Z5:=⟨Ap.spot⟩
def Ap.none:Ap:=⟨fun _=>Option.none,fun _=>Option.none⟩
def IY (Bb:Nat→Option Obj) (r:Nat) (a:Array Value) (e:TypeId):Prop:=∃fr:Nat×Nat,Bb r=some (.cells a e fr)
theorem IY.mono {Bb ice':Nat→Option Obj} (c:∀g o,Bb g=some o→ice' g=some o) {r:Nat} {a:Array Value} {e:TypeId} (h:IY Bb r a e):IY ice' r a e:=by obtain ⟨fr,h⟩:=h;exact ⟨fr,c _ _ h⟩
section
variable (Bb:Nat→Option Obj)
mutual
def IG:PV→Value→Prop
 |.bool b,v=>v=.bool b
 |.int k n,v=>v=.int k n
 |.str s,v=>∃b:ByteArray,v=.string b∧strOf b=s
 |.list es l,v=>∃c,l.length≤c∧((l=[]∧∃p,v=.slice p 0 c)∨∃r δ a e,v=.slice (some ⟨r,δ,none⟩) l.length c∧IY Bb r a e∧BR es a δ l)
 |.nilp,v=>v=.pointer none
def AQ (a:Array Value) (δ:Nat):List PV→Prop
 |[]=>True
 |p::ps=>(∃u,a[δ]?=some u∧IG p u)∧AQ a (δ+1) ps
def BR (c:Nat) (a:Array Value) (δ:Nat):List (List PV)→Prop
 |[]=>True
 |ps::r=>ps.length=c∧AQ a δ ps∧BR c a (δ+c) r
end
def J6:List (List Nat×List PV)→List MapEntry→Prop
 |[],ms=>ms=[]
 |e::es,ms=>∃m rest,ms=m::rest∧(∃b:ByteArray,m.key=.string b∧strOf b=e.1)∧(∃a:Array Value,m.val=.agg a∧a.size=e.2.length∧AQ Bb a 0 e.2)∧J6 es rest
end
section
variable (ρ:Env) (μ:Ap)
mutual
def Ag:Aa→Value→Prop
 |.any,_=>True
 |.bool b,v=>v=.bool (b.den ρ)
 |.int k n,v=>v=.int k (n.den ρ)
 |.str s,v=>∃b:ByteArray,v=.string b∧strOf b=s
 |.ptr b off,v=>∃r δ m,μ b=some (r,δ,m)∧v=.pointer (some ⟨r,δ+off,none⟩)
 |.nilPtr,v=>v=.pointer none
 |.slice b off len c,v=>∃r δ m,μ b=some (r,δ,m)∧v=.slice (some ⟨r,δ+off,none⟩) len c∧len≤c
 |.gslice b off len es,v=>∃r δ m c,μ b=some (r,δ,m)∧v=.slice (some ⟨r,δ+off,none⟩) len c∧len≤c∧off+c*es≤m
 |.nilSlice,v=>v=.slice none 0 0
 |.map b,v=>∃r,μ b=some (r,0,0)∧v=.map (some r)
 |.nilMap,v=>v=.map none
 |.func f a c,v=>∃g d:Array Value,v=.func (.func f) g d∧A7 a g.toList∧A7 c d.toList
 |.nilFunc,v=>v=.nilFunc
 |.iface t x,v=>∃u,v=.iface t u∧Ag x u
 |.nilIface,v=>v=.nilIface
 |.agg cs,v=>∃a:Array Value,v=.agg a∧Aw cs a.toList
 |.tuple vs,v=>∃a:Array Value,v=.tuple a∧A7 vs a.toList
 |.anyStr n,v=>∃b:ByteArray,v=.string b∧1≤b.size∧b.size≤n
 |.gbytes b,v=>∃r m,μ b=some (r,0,m)∧v=.slice (some ⟨r,0,none⟩) (BN m) (BZ m)∧1≤BN m∧BN m≤BZ m
 |.glen b,v=>∃r m,μ b=some (r,0,m)∧v=.int .i64 (BN m:Nat)
 |.svar i,v=>∃b:ByteArray,v=.string b∧strOf b=ρ.str i
 |.lst full i es n,v=>IG μ.Bb (.list es (ρ.lst i)) v∧n.den ρ=((ρ.lst i).length:Int)∧(full=true→∃p,v=.slice p (ρ.lst i).length (ρ.lst i).length)
 |.lptr i j off,v=>∃r δ a e ps,v=.pointer (some ⟨r,δ+off,none⟩)∧IY μ.Bb r a e∧0≤j.den ρ∧(ρ.lst i)[(j.den ρ).toNat]?=some ps∧AQ μ.Bb a δ ps
 |.vec b _ n,v=>∃r m k,μ b=some (r,0,m)∧v=.slice (some ⟨r,0,none⟩) k (BZ m)∧n.den ρ=(k:Int)∧k≤BN m∧BN m≤BZ m
 |.vptr b es j off,v=>∃r m,μ b=some (r,0,m)∧v=.pointer (some ⟨r,(j.den ρ).toNat*es+off,none⟩)∧0≤j.den ρ
def A7:List Aa→List Value→Prop
 |[],vs=>vs=[]
 |a::as,vs=>∃v rest,vs=v::rest∧Ag a v∧A7 as rest
def Aw:List Aa→List Value→Prop
 |[],vs=>vs=[]
 |a::as,vs=>∃v rest,vs=v::rest∧(a.single=true∧Ag a v)∧Aw as rest
end
end
structure Ap.le (μ μ':Ap):Prop where
 to:∀b x,μ b=some x→μ' b=some x
 Bb:∀g o,μ.Bb g=some o→μ'.Bb g=some o
theorem Ap.le_refl (μ:Ap):μ.le μ:=⟨fun _ _ h=>h,fun _ _ h=>h⟩
theorem Ap.le_trans {μ μ' c:Ap} (h:μ.le μ') (d:μ'.le c):μ.le c:=⟨fun _ _ e=>d.to _ _ (h.to _ _ e),fun _ _ e=>d.Bb _ _ (h.Bb _ _ e)⟩
section
variable {Bb ice':Nat→Option Obj} (h:∀g o,Bb g=some o→ice' g=some o)
include h
mutual
theorem IG.mono:∀{p:PV} {v:Value},IG Bb p v→IG ice' p v
 |.bool _,_,e=>e
 |.int _ _,_,e=>e
 |.str _,_,e=>e
 |.nilp,_,e=>e
 |.list es l,v,e=>by
  simp only [IG]at e⊢
  obtain ⟨c,hc,e⟩:=e
  refine ⟨c,hc,?_⟩
  rcases e with e|⟨r,δ,a,t,e1,e2,e3⟩
  ·exact .inl e
  ·exact .inr ⟨r,δ,a,t,e1,e2.mono h,BR.mono e3⟩
theorem AQ.mono:∀{ps:List PV} {a:Array Value} {δ:Nat},AQ Bb a δ ps→AQ ice' a δ ps
 |[],_,_,_=>trivial
 |p::ps,a,δ,e=>by
  simp only [AQ]at e⊢
  obtain ⟨⟨u,d,c⟩,g⟩:=e
  exact ⟨⟨u,d,IG.mono c⟩,AQ.mono g⟩
theorem BR.mono:∀{l:List (List PV)} {c:Nat} {a:Array Value} {δ:Nat},BR Bb c a δ l→BR ice' c a δ l
 |[],_,_,_,_=>trivial
 |ps::r,c,a,δ,e=>by
  simp only [BR]at e⊢
  obtain ⟨g,j,d⟩:=e
  exact ⟨g,AQ.mono j,BR.mono d⟩
end
theorem J6.mono:∀{l:List (List Nat×List PV)} {ms:List MapEntry},J6 Bb l ms→J6 ice' l ms
 |[],_,e=>e
 |_::_,_,e=>let ⟨m,rest,e1,e2,⟨a,e3,e4,e5⟩,e6⟩:=e;⟨m,rest,e1,e2,⟨a,e3,e4,AQ.mono h e5⟩,J6.mono e6⟩
end
section
variable {ρ:Env} {μ μ':Ap} (h:μ.le μ')
include h
mutual
theorem Ag.mono:∀{a:Aa} {v:Value},Ag ρ μ a v→Ag ρ μ' a v
 |.any,_,_=>trivial
 |.bool _,_,e=>e
 |.int _ _,_,e=>e
 |.str _,_,e=>e
 |.ptr b off,_,e=>let ⟨r,δ,m,e1,e2⟩:=e;⟨r,δ,m,h.to _ _ e1,e2⟩
 |.nilPtr,_,e=>e
 |.slice b off len cap,_,e=>let ⟨r,δ,m,e1,e2⟩:=e;⟨r,δ,m,h.to _ _ e1,e2⟩
 |.gslice b off len es,_,e=>let ⟨r,δ,m,c,e1,e2⟩:=e;⟨r,δ,m,c,h.to _ _ e1,e2⟩
 |.nilSlice,_,e=>e
 |.map b,_,e=>let ⟨r,e1,e2⟩:=e;⟨r,h.to _ _ e1,e2⟩
 |.nilMap,_,e=>e
 |.func f a c,_,e=>let ⟨a',c',e1,e2,e3⟩:=e;⟨a',c',e1,A7.mono e2,A7.mono e3⟩
 |.nilFunc,_,e=>e
 |.iface t x,_,e=>let ⟨u,e1,e2⟩:=e;⟨u,e1,Ag.mono e2⟩
 |.nilIface,_,e=>e
 |.agg cs,_,e=>let ⟨a,e1,e2⟩:=e;⟨a,e1,Aw.mono e2⟩
 |.tuple vs,_,e=>let ⟨a,e1,e2⟩:=e;⟨a,e1,A7.mono e2⟩
 |.anyStr _,_,e=>e
 |.gbytes _,_,e=>let ⟨r,m,e1,e2⟩:=e;⟨r,m,h.to _ _ e1,e2⟩
 |.glen _,_,e=>let ⟨r,m,e1,e2⟩:=e;⟨r,m,h.to _ _ e1,e2⟩
 |.svar _,_,e=>e
 |.lst _ _ _ _,_,e=>⟨IG.mono h.Bb e.1,e.2⟩
 |.lptr _ _ _,_,e=>let ⟨r,δ,a,t,ps,e1,e2,e3,e4,e5⟩:=e;⟨r,δ,a,t,ps,e1,(e2.mono h.Bb),e3,e4,AQ.mono h.Bb e5⟩
 |.vec _ _ _,_,e=>let ⟨r,m,k,e1,e2⟩:=e;⟨r,m,k,h.to _ _ e1,e2⟩
 |.vptr _ _ _ _,_,e=>let ⟨r,m,e1,e2⟩:=e;⟨r,m,h.to _ _ e1,e2⟩
theorem A7.mono:∀{as:List Aa} {vs:List Value},A7 ρ μ as vs→A7 ρ μ' as vs
 |[],_,e=>e
 |_::_,_,e=>let ⟨v,rest,e1,e2,e3⟩:=e;⟨v,rest,e1,Ag.mono e2,A7.mono e3⟩
theorem Aw.mono:∀{as:List Aa} {vs:List Value},Aw ρ μ as vs→Aw ρ μ' as vs
 |[],_,e=>e
 |_::_,_,e=>let ⟨v,rest,e1,⟨e2,e2'⟩,e3⟩:=e;⟨v,rest,e1,⟨e2,Ag.mono e2'⟩,Aw.mono e3⟩
end
end
section
variable {ρ:Env} {μ:Ap}
theorem Aw.length:∀{as:List Aa} {vs:List Value},Aw ρ μ as vs→as.length=vs.length
 |[],_,e=>by simp only [Aw]at e;rw [e];rfl
 |_::_,_,e=>by
  simp only [Aw]at e
  obtain ⟨v,rest,rfl,_,h⟩:=e
  simp [Aw.length h]
theorem Aw.get:∀{as:List Aa} {vs:List Value} {i:Nat} {a:Aa},Aw ρ μ as vs→as[i]?=some a→∃v,vs[i]?=some v∧a.single=true∧Ag ρ μ a v
 |[],_,i,_,_,h=>by simp at h
 |b::as,_,i,a,e,h=>by
  simp only [Aw]at e
  obtain ⟨v,rest,rfl,hb,c⟩:=e
  cases i with
  |zero=>simp only [List.getElem?_cons_zero,oI]at h;subst h;exact ⟨v,rfl,hb⟩
  |succ i=>simpa using Aw.get c (by simpa using h)
theorem Aw.KJ:∀{as:List Aa} {vs:List Value},as.length=vs.length→(∀(i:Nat) (a:Aa),as[i]?=some a→∃v,vs[i]?=some v∧a.single=true∧Ag ρ μ a v)→Aw ρ μ as vs
 |[],vs,hl,_=>by simp only [Aw];exact List.eq_nil_of_length_eq_zero (by simpa using hl.symm)
 |a::as,[],hl,_=>by simp at hl
 |a::as,v::vs,hl,h=>by
  simp only [Aw]
  obtain ⟨u,c,d⟩:=h 0 a rfl
  simp only [List.getElem?_cons_zero,oI]at c
  subst c
  exact ⟨v,vs,rfl,d,Aw.KJ (by simpa using hl) fun i b hb=>by simpa using h (i+1) b (by simpa using hb)⟩
theorem Aw.append:∀{as bs:List Aa} {vs us:List Value},Aw ρ μ as vs→Aw ρ μ bs us→Aw ρ μ (as++bs) (vs++us)
 |[],_,_,_,h,h'=>by simp only [Aw]at h;subst h;exact h'
 |_::_,_,_,_,h,h'=>by
  simp only [Aw]at h
  obtain ⟨v,rest,rfl,d,c⟩:=h
  simp only [List.cons_append,Aw]
  exact ⟨v,_,rfl,d,Aw.append c h'⟩
theorem A7.append:∀{as bs:List Aa} {vs us:List Value},A7 ρ μ as vs→A7 ρ μ bs us→A7 ρ μ (as++bs) (vs++us)
 |[],_,_,_,h,h'=>by simp only [A7]at h;subst h;exact h'
 |_::_,_,_,_,h,h'=>by
  simp only [A7]at h
  obtain ⟨v,rest,rfl,d,c⟩:=h
  simp only [List.cons_append,A7]
  exact ⟨v,_,rfl,d,A7.append c h'⟩
theorem A7.get:∀{as:List Aa} {vs:List Value} {i:Nat} {a:Aa},A7 ρ μ as vs→as[i]?=some a→∃v,vs[i]?=some v∧Ag ρ μ a v
 |[],_,i,_,_,h=>by simp at h
 |b::as,_,i,a,e,h=>by
  simp only [A7]at e
  obtain ⟨v,rest,rfl,hb,c⟩:=e
  cases i with
  |zero=>simp only [List.getElem?_cons_zero,oI]at h;subst h;exact ⟨v,rfl,hb⟩
  |succ i=>simpa using A7.get c (by simpa using h)
theorem Ag.Rb {a:Aa} {v:Value} (h:Ag ρ μ a v) (hs:a.single=true):v.oneCell'=true:=by
 cases a<;>simp only [Aa.single,Bool.false_eq_true]at hs<;>simp only [Ag]at h
 case bool|int|nilPtr|nilSlice|nilMap|nilFunc|nilIface=>subst h;rfl
 case str=>obtain ⟨_,rfl,_⟩:=h;rfl
 case ptr=>obtain ⟨_,_,_,_,rfl⟩:=h;rfl
 case slice=>obtain ⟨_,_,_,_,rfl,_⟩:=h;rfl
 case gslice=>obtain ⟨_,_,_,_,_,rfl,_⟩:=h;rfl
 case map=>obtain ⟨_,_,rfl⟩:=h;rfl
 case func=>obtain ⟨_,_,rfl,_⟩:=h;rfl
 case iface=>obtain ⟨_,rfl,_⟩:=h;rfl
 case anyStr=>obtain ⟨_,rfl,_⟩:=h;rfl
 case gbytes=>obtain ⟨_,_,_,rfl,_⟩:=h;rfl
 case glen=>obtain ⟨_,_,_,rfl⟩:=h;rfl
 case svar=>obtain ⟨_,rfl,_⟩:=h;rfl
 case lst=>
  simp only [IG]at h
  obtain ⟨⟨_,_,⟨_,_,rfl⟩|⟨_,_,_,_,rfl,_⟩⟩,_⟩:=h<;>rfl
 case lptr=>obtain ⟨_,_,_,_,_,rfl,_⟩:=h;rfl
 case vec=>obtain ⟨_,_,_,_,rfl,_⟩:=h;rfl
 case vptr=>obtain ⟨_,_,_,rfl,_⟩:=h;rfl
theorem Ag.cells {a:Aa} {v:Value} {cs:List Aa} (h:Ag ρ μ a v) (hc:a.cells=some cs):Aw ρ μ cs v.cells.toList:=by
 cases a<;>simp only [Aa.cells,oI,reduceCtorEq]at hc
 case agg=>
  subst hc
  simp only [Ag]at h
  obtain ⟨a,rfl,h⟩:=h
  exact h
 all_goals
  subst hc
  have hv:v.cells.toList=[v]:=by
   have c:=h.Rb (by rfl)
   cases v<;>first|rfl|(simp [Value.oneCell']at c)
  rw [hv]
  simp only [Aw]
  exact ⟨v,[],rfl,⟨by rfl,h⟩,rfl⟩
end
section
variable (ρ:Env) (μ:Ap)
def Ads (e:Entry) (m:MapEntry):Prop:=e.key.single=true∧Ag ρ μ e.key m.key∧Ag ρ μ e.val m.val∧m.born=e.born
def Ca:List Entry→List MapEntry→Prop
 |[],ms=>ms=[]
 |e::es,ms=>∃m rest,ms=m::rest∧Ads ρ μ e m∧Ca es rest
def CM:Block→Option Obj→Nat×Nat→Prop
 |.cells vs,o,(δ,m)=>∃c e,o=some (.cells c e (0,0))∧δ+m≤c.size∧∀(i:Nat) (a:Aa),vs[i]?=some a→∃v,c[δ+i]?=some v∧a.single=true∧Ag ρ μ a v
 |.map es d,o,δ=>δ=(0,0)∧∃ms:Array MapEntry,o=some (.map ms d)∧Ca ρ μ es ms.toList
 |.typed e vs,o,(δ,m)=>∃c,o=some (.cells c e (0,0))∧(δ=0∧c.size=vs.length)∧δ+m≤c.size∧∀(i:Nat) (a:Aa),vs[i]?=some a→∃v,c[δ+i]?=some v∧a.single=true∧Ag ρ μ a v
 |.bytes n e,o,(δ,m)=>∃c,o=some (.cells c e (0,0))∧δ=0∧1≤BN m∧BN m≤n∧n≤1048576∧BN m≤BZ m∧BZ m≤c.size∧∀i,i<BZ m→∃x:UInt8,c[i]?=some (.int .u8 x.toNat)
 |.sbytes t e,o,(δ,m)=>∃c,o=some (.cells c e (0,0))∧δ=0∧1≤BN m∧(BN m:Int)≤t.den ρ∧t.den ρ≤1048576∧BN m≤BZ m∧BZ m≤c.size∧∀i,i<BZ m→∃x:UInt8,c[i]?=some (.int .u8 x.toNat)
 |.list i es,o,(δ,m)=>∃c e,o=some (.cells c e (0,0))∧δ=0∧(ρ.lst i).length≤BN m∧BN m≤1048576∧BN m≤BZ m∧BZ m*es≤c.size∧BR μ.Bb es c 0 (ρ.lst i)
 |.smap i,o,δ=>δ=(0,0)∧∃(ms:Array MapEntry) (d:Nat),o=some (.map ms d)∧J6 μ.Bb (ρ.map i) ms.toList
def AP (h:Ak) (r:Nat):Prop:=∃b B δ,h.get b=some B∧μ b=some (r,δ)
structure ZD (h:Ak) (w:World):Prop where
 AS:∀g o,ρ.AS g=some o→w.heap[g]?=some o∧¬AP μ h g
 Bb:∀g o,μ.Bb g=some o→w.heap[g]?=some o∧¬AP μ h g
 facts:h.fx.AG ρ
structure AH (h:Ak) (w:World):Prop where
 fresh:∀b,h.next≤b→μ b=none
 blk:∀b B,h.get b=some B→∃r δ,μ b=some (r,δ)∧CM ρ μ B w.heap[r]? δ
 inj:∀b b' B B' r δ δ',h.get b=some B→h.get b'=some B'→μ b=some (r,δ)→μ b'=some (r,δ')→b=b'
 AS:ZD ρ μ h w
end
section
variable {ρ:Env} {μ μ':Ap}
theorem Ads.mono (h:μ.le μ') {e:Entry} {m:MapEntry} (x:Ads ρ μ e m):Ads ρ μ' e m:=⟨x.1,x.2.1.mono h,x.2.2.1.mono h,x.2.2.2⟩
theorem Ca.mono (h:μ.le μ'):∀{c:List Entry} {ms:List MapEntry},Ca ρ μ c ms→Ca ρ μ' c ms
 |[],_,e=>e
 |_::_,_,e=>let ⟨m,rest,e1,e2,e3⟩:=e;⟨m,rest,e1,e2.mono h,Ca.mono h e3⟩
theorem CM.mono (h:μ.le μ') {B:Block} {o:Option Obj} {δ:Nat×Nat} (x:CM ρ μ B o δ):CM ρ μ' B o δ:=by
 cases B with
 |cells vs=>
  obtain ⟨c,e,d,g,hc⟩:=x
  exact ⟨c,e,d,g,fun i a ha=>let ⟨v,h1,h2,h3⟩:=hc i a ha;⟨v,h1,h2,h3.mono h⟩⟩
 |map es clock=>
  obtain ⟨k,ms,d,C⟩:=x
  exact ⟨k,ms,d,C.mono h⟩
 |typed t vs=>
  obtain ⟨c,d,hs,g,hc⟩:=x
  exact ⟨c,d,hs,g,fun i a ha=>let ⟨v,h1,h2,h3⟩:=hc i a ha;⟨v,h1,h2,h3.mono h⟩⟩
 |bytes n t=>exact x
 |sbytes n t=>exact x
 |list i es=>obtain ⟨c,e,j,u,z,A,D,y,H⟩:=x;exact ⟨c,e,j,u,z,A,D,y,BR.mono h.Bb H⟩
 |smap i=>obtain ⟨k,ms,c,j,u⟩:=x;exact ⟨k,ms,c,j,J6.mono h.Bb u⟩
theorem CM.some {B:Block} {o:Option Obj} {δ:Nat×Nat} (x:CM ρ μ B o δ):∃x,o=some x:=by
 cases B with
 |cells vs=>obtain ⟨c,e,d,_⟩:=x;exact ⟨_,d⟩
 |map es clock=>obtain ⟨_,ms,d,_⟩:=x;exact ⟨_,d⟩
 |typed t vs=>obtain ⟨c,d,_⟩:=x;exact ⟨_,d⟩
 |bytes n t=>obtain ⟨c,d,_⟩:=x;exact ⟨_,d⟩
 |sbytes n t=>obtain ⟨c,d,_⟩:=x;exact ⟨_,d⟩
 |list i es=>obtain ⟨c,e,d,_⟩:=x;exact ⟨_,d⟩
 |smap i=>obtain ⟨_,ms,c,d,_⟩:=x;exact ⟨_,d⟩
theorem AH.lt {h:Ak} {w:World} (H:AH ρ μ h w) {b:Nat} {B:Block} {r:Nat} {δ:Nat×Nat} (hb:h.get b=some B) (d:μ b=some (r,δ)):r<w.heap.size:=by
 obtain ⟨j,k,c,hB⟩:=H.blk b B hb
 rw [d]at c
 simp only [oI,Prod.mk.injEq]at c
 obtain ⟨rfl,rfl⟩:=c
 obtain ⟨x,g⟩:=hB.some
 rcases Nat.lt_or_ge r w.heap.size with h'|h'
 ·exact h'
 ·simp [Array.getElem?_eq_none h']at g
theorem AH.FL {h:Ak} {w:World} (H:AH ρ μ h w) {b:Nat} {B:Block} (hb:h.get b=some B):b<h.next:=by
 obtain ⟨r,δ,c,_⟩:=H.blk b B hb
 rcases Nat.lt_or_ge b h.next with h'|h'
 ·exact h'
 ·rw [H.fresh b h']at c;cases c
end
structure Av (ρ:Env) (μ:Ap) (h:Ak) (w:World) (μ':Ap) (h':Ak) (w':World):Prop where
 le:μ.le μ'
 rel:AH ρ μ' h' w'
 size:w.heap.size≤w'.heap.size
 kept:∀r,r<w.heap.size→¬AP μ h r→w'.heap[r]?=w.heap[r]?∧¬AP μ' h' r
 os:w'.os=w.os
 output:w'.output=w.output
 next:h.next≤h'.next
 old:∀b,b<h.next→μ' b=μ b
 icy:∀g o,μ'.Bb g=some o→μ.Bb g=some o∨AP μ h g∨w.heap.size≤g
 fx:h'.fx=h.fx
theorem Av.refl {ρ:Env} {μ:Ap} {h:Ak} {w:World} (H:AH ρ μ h w):Av ρ μ h w μ h w:=
 ⟨μ.le_refl,H,Nat.le_refl _,fun _ _ h=>⟨rfl,h⟩,rfl,rfl,Nat.le_refl _,fun _ _=>rfl,fun _ _ h=>.inl h,rfl⟩
theorem Av.trans {ρ:Env} {μ μ' j:Ap} {h A u:Ak} {w w' x:World} (g:Av ρ μ h w μ' A w') (c:Av ρ μ' A w' j u x):
  Av ρ μ h w j u x where
 le:=Ap.le_trans g.le c.le
 rel:=c.rel
 size:=Nat.le_trans g.size c.size
 kept:=fun r C d=>by
  obtain ⟨e,z⟩:=g.kept r C d
  obtain ⟨H,y⟩:=c.kept r (Nat.lt_of_lt_of_le C g.size) z
  exact ⟨H.trans e,y⟩
 os:=c.os.trans g.os
 output:=c.output.trans g.output
 next:=Nat.le_trans g.next c.next
 old:=fun b hb=>(c.old b (Nat.lt_of_lt_of_le hb g.next)).trans (g.old b hb)
 icy:=fun k o D=>by
  rcases c.icy k o D with h1|h1|h1
  ·exact g.icy k o h1
  ·rcases Nat.lt_or_ge k w.heap.size with hlt|hge
   ·by_cases d:AP μ h k
    ·exact .inr (.inl d)
    ·exact absurd h1 (g.kept k hlt d).2
   ·exact .inr (.inr hge)
  ·exact .inr (.inr (Nat.le_trans g.size h1))
 fx:=c.fx.trans g.fx
theorem AH.drew {ρ:Env} {μ:Ap} {h:Ak} {w:World} (H:AH ρ μ h w):AH ρ μ h {w with drawn:=w.drawn+1}:=⟨H.fresh,H.blk,H.inj,⟨H.AS.AS,H.AS.Bb,H.AS.facts⟩⟩
theorem ZD.of {ρ:Env} {μ μ':Ap} {h c:Ak} {w w':World} (F:ZD ρ μ h w) (u:∀r,r<w.heap.size→¬AP μ h r→w'.heap[r]?=w.heap[r]?∧¬AP μ' c r) (j:μ'.Bb=μ.Bb) (x:c.fx=h.fx):ZD ρ μ' c w':=by
 have key:∀g (o:Obj),w.heap[g]?=some o∧¬AP μ h g→w'.heap[g]?=some o∧¬AP μ' c g:=fun g o ⟨h1,h2⟩=>by
  obtain ⟨k,d⟩:=u g (Array.getElem?_eq_some_iff.1 h1).1 h2
  exact ⟨k.trans h1,d⟩
 exact ⟨fun g o hg=>key g o (F.AS g o hg),fun g o hg=>key g o (F.Bb g o (j▸hg)),x▸F.facts⟩
theorem AH.GB {ρ:Env} {μ μ':Ap} {h c:Ak} {w w':World} (H:AH ρ μ h w) (g:∀r,r<w.heap.size→¬AP μ h r→w'.heap[r]?=w.heap[r]?∧¬AP μ' c r) (d:μ'.Bb=μ.Bb:=by rfl) (j:c.fx=h.fx:=by rfl):
  ZD ρ μ' c w':=H.AS.of g d j
theorem Av.drew {ρ:Env} {μ:Ap} {h:Ak} {w:World} (H:AH ρ μ h w):Av ρ μ h w μ h {w with drawn:=w.drawn+1}:=
 ⟨μ.le_refl,H.drew,Nat.le_refl _,fun _ _ h=>⟨rfl,h⟩,rfl,rfl,Nat.le_refl _,fun _ _=>rfl,fun _ _ h=>.inl h,rfl⟩
def Ap.put (μ:Ap) (b:Nat) (x:Z5):Ap:=⟨fun c=>if c=b then some x else μ c,μ.Bb⟩
theorem Ap.Rq {μ:Ap} {b:Nat} {x:Z5} (h:μ b=Option.none):μ.le (μ.put b x):=⟨fun c y e=>by
 simp only [Ap.put]
 by_cases hc:c=b
 ·subst hc;rw [h]at e;cases e
 ·rw [if_neg hc];exact e,fun _ _ e=>e⟩
theorem Ap.BM (μ:Ap) (b:Nat) (x:Z5):μ.put b x b=some x:=by simp [Ap.put]
theorem Ap.Cl (μ:Ap) {b c:Nat} (x:Z5) (h:c≠b):μ.put b x c=μ c:=by simp [Ap.put,h]
theorem Ak.Bk (h:Ak) (b c:Nat) (o:Option Block):(h.set b o).get c=if c=b then o else h.get c:=Tr.Bk _ _ _ _
theorem Ak.Kh (h:Ak) (c:Nat) (B:Block):(h.add B).get c=if c=h.next then some B else h.get c:=Tr.Bk _ _ _ _
theorem Ak.JW (h:Ak) (b:Nat) (o:Option Block):(h.set b o).next=h.next:=rfl
theorem Ak.JX (h:Ak) (B:Block):(h.add B).next=h.next+1:=rfl
theorem World.DD (w:World) (o:Obj) {r:Nat} (c:r<w.heap.size):(w.alloc o).heap[r]?=w.heap[r]?:=by
 show (w.heap.push o)[r]?=_
 rw [Array.getElem?_push,if_neg (by omega)]
theorem World.heap_alloc_new (w:World) (o:Obj):(w.alloc o).heap[w.heap.size]?=some o:=by
 show (w.heap.push o)[w.heap.size]?=_
 simp
theorem Av.add {ρ:Env} {μ:Ap} {h:Ak} {w:World} (H:AH ρ μ h w) (B:Block) (o:Obj) (δ:Nat×Nat)
  (hB:∀μ':Ap,μ.le μ'→CM ρ μ' B (some o) δ):Av ρ μ h w (μ.put h.next (w.heap.size,δ)) (h.add B) (w.alloc o):=by
 have x:μ.le (μ.put h.next (w.heap.size,δ)):=Ap.Rq (H.fresh _ (Nat.le_refl _))
 have u:∀b d r j,(h.add B).get b=some d→μ.put h.next (w.heap.size,δ) b=some (r,j)→(b=h.next∧r=w.heap.size)∨(h.get b=some d∧μ b=some (r,j)∧r<w.heap.size):=fun b d r j hb c=>by
  rw [Ak.Kh]at hb
  by_cases e:b=h.next
  ·subst e
   rw [Ap.BM]at c
   simp only [oI,Prod.mk.injEq]at c
   exact .inl ⟨rfl,c.1.symm⟩
  ·rw [if_neg e]at hb
   rw [Ap.Cl _ _ e]at c
   exact .inr ⟨hb,c,H.lt hb c⟩
 have k:∀r,r<w.heap.size→¬AP μ h r→(w.alloc o).heap[r]?=w.heap[r]?∧¬AP (μ.put h.next (w.heap.size,δ)) (h.add B) r:=fun r y A=>⟨World.DD _ _ y,by
  rintro ⟨b,d,j,hb,c⟩
  rcases u _ _ _ _ hb c with ⟨_,e⟩|⟨g,n,_⟩
  ·omega
  ·exact A ⟨b,d,j,g,n⟩⟩
 refine ⟨x,⟨fun b hb=>?_,fun b d hb=>?_,fun b P N M r O Q D z C J=>?_,H.GB k⟩,?_,k,rfl,rfl,Nat.le_succ _,fun b hb=>Ap.Cl _ _ (by omega),fun _ _ h=>.inl h,rfl⟩
 ·rw [Ak.JX]at hb
  rw [Ap.Cl _ _ (by omega)]
  exact H.fresh b (by omega)
 ·rw [Ak.Kh]at hb
  by_cases e:b=h.next
  ·subst e
   rw [if_pos rfl]at hb
   simp only [oI]at hb
   subst hb
   exact ⟨_,_,Ap.BM _ _ _,by rw [World.heap_alloc_new];exact hB _ x⟩
  ·rw [if_neg e]at hb
   obtain ⟨r,j,c,y⟩:=H.blk b d hb
   exact ⟨r,j,by rw [Ap.Cl _ _ e];exact c,by rw [World.DD _ _ (H.lt hb c)];exact y.mono x⟩
 ·rcases u _ _ _ _ D C with ⟨e1,e2⟩|⟨g1,n1,l1⟩<;>rcases u _ _ _ _ z J with ⟨e3,e4⟩|⟨g2,n2,l2⟩
  ·rw [e1,e3]
  ·omega
  ·omega
  ·exact H.inj _ _ _ _ _ _ _ g1 g2 n1 n2
 ·show w.heap.size≤(w.heap.push o).size;simp
theorem AH.drop {ρ:Env} {μ:Ap} {h:Ak} {w:World} (H:AH ρ μ h w) (d:Ak) (y:d.next=h.next) (g:d.fx=h.fx) (hs:∀b B,d.get b=some B→h.get b=some B):AH ρ μ d w:=
 ⟨fun b hb=>H.fresh b (y▸hb),fun b B hb=>H.blk b B (hs b B hb),fun _ _ _ _ _ _ _ j u x o=>H.inj _ _ _ _ _ _ _ (hs _ _ j) (hs _ _ u) x o,
  H.GB (fun _ _ k=>⟨rfl,fun ⟨c,B,δ,hc,hm⟩=>k ⟨c,B,δ,hs c B hc,hm⟩⟩) rfl g⟩
theorem Av.change {ρ:Env} {μ:Ap} {h:Ak} {w w':World} (H:AH ρ μ h w) {b:Nat} {y:Block} {r:Nat} {δ:Nat×Nat} (hb:h.get b=some y) (k:μ b=some (r,δ)) (B:Block)
  (z:∀i,i≠r→w'.heap[i]?=w.heap[i]?) (U:w'.heap.size=w.heap.size) (J:w'.os=w.os) (x:w'.output=w.output) (hB:CM ρ μ B w'.heap[r]? δ):Av ρ μ h w μ (h.set b (some B)) w':=by
 have j:∀s,s<w.heap.size→¬AP μ h s→w'.heap[s]?=w.heap[s]?∧¬AP μ (h.set b (some B)) s:=fun s hs A=>by
  have o:s≠r:=fun e=>A ⟨b,y,δ,hb,e▸k⟩
  refine ⟨z s o,?_⟩
  rintro ⟨c,g,u,hc,d⟩
  rw [Ak.Bk]at hc
  by_cases e:c=b
  ·subst e
   rw [k]at d
   simp only [oI,Prod.mk.injEq]at d
   exact o d.1.symm
  ·rw [if_neg e]at hc
   exact A ⟨c,g,u,hc,d⟩
 refine ⟨μ.le_refl,⟨fun c hc=>H.fresh c hc,fun c g hc=>?_,fun c X Z B2 s δ1 δ2 O M N P=>?_,H.GB j⟩,by omega,j,J,x,Nat.le_refl _,fun _ _=>rfl,fun _ _ h=>.inl h,rfl⟩
 ·rw [Ak.Bk]at hc
  by_cases e:c=b
  ·subst e
   rw [if_pos rfl]at hc
   simp only [oI]at hc
   subst hc
   exact ⟨r,δ,k,hB⟩
  ·rw [if_neg e]at hc
   obtain ⟨s,u,d,Q⟩:=H.blk c g hc
   refine ⟨s,u,d,?_⟩
   rw [z s (fun R=>e (H.inj _ _ _ _ _ _ _ hc hb d (R▸k)))]
   exact Q
 ·have D:∀c g,(h.set b (some B)).get c=some g→∃C,h.get c=some C:=fun c g hc=>by
   rw [Ak.Bk]at hc
   by_cases e:c=b
   ·exact ⟨y,e▸hb⟩
   ·rw [if_neg e]at hc;exact ⟨g,hc⟩
  obtain ⟨_,g1⟩:=D _ _ O
  obtain ⟨_,g2⟩:=D _ _ M
  exact H.inj _ _ _ _ _ _ _ g1 g2 N P
end Go.AM
end
section
namespace Go.AM
theorem Ac {α β:Type} {o:Option α} {f:α→Option β} {b:β} (h:AB o f=some b):∃a,o=some a∧f a=some b:=by
 cases o with
 |none=>exact absurd h (by simp [AB])
 |some a=>exact ⟨a,rfl,h⟩
theorem Ao {α:Type} {c:Bool} {x:Option α} {b:α} (h:(bif c then x else none)=some b):c=true∧x=some b:=by
 cases c with
 |false=>simp at h
 |true=>exact ⟨rfl,h⟩
theorem AR {a b:Nat}:Nat.ble a b=true↔a≤b:=⟨Nat.le_of_ble_eq_true,Nat.ble_eq_true_of_le⟩
theorem I6 {a b:Nat}:Nat.blt a b=true↔a<b:=AR
theorem Al {a b:Nat}:Nat.beq a b=true↔a=b:=⟨Nat.eq_of_beq_eq_true,fun h=>by subst h;simp⟩
theorem Ka:∀l:List Aa,Ad l=l.length
 |[]=>rfl
 |_::r=>by show Ad r+1=_;rw [Ka r];rfl
theorem KL:∀(l:List Aa) (n:Nat),nth l n=l[n]?
 |[],n=>by simp;rfl
 |x::r,0=>rfl
 |x::r,n+1=>by show nth r n=_;rw [KL r n];simp
theorem Jz:∀(n:Nat) (l:List Aa),dropped n l=l.drop n
 |0,l=>rfl
 |n+1,[]=>rfl
 |n+1,x::r=>by show dropped n r=_;rw [Jz n r];rfl
theorem GA:∀{n:Nat} {l r:List Aa},taken n l=some r→r=l.take n∧n≤l.length
 |0,l,r,h=>by
  have h:some []=some r:=h
  simp only [oI]at h
  subst h;simp
 |n+1,[],r,h=>by have h:none=some r:=h;cases h
 |n+1,x::l,r,h=>by
  have h:(AB (taken n l) fun r=>some (x::r))=some r:=h
  obtain ⟨s,hs,c⟩:=Ac h
  simp only [oI]at c
  subst c
  obtain ⟨rfl,hl⟩:=GA hs
  exact ⟨rfl,by simp;omega⟩
theorem Ks {c r:List Aa} {i n:Nat} (h:cut c i n=some r):r.length=n∧(n=0∨i+n≤c.length)∧∀k,r[k]?=if k<n then c[i+k]? else none:=by
 unfold cut at h
 rw [Jz]at h
 obtain ⟨rfl,hl⟩:=GA h
 rw [List.length_drop]at hl
 refine ⟨by simp;omega,by omega,fun k=>?_⟩
 rw [List.getElem?_take]
 split
 ·rw [List.getElem?_drop]
 ·rfl
theorem P5:∀{vs c r:List Aa},over vs c=some r→r.length=c.length∧vs.length≤c.length∧∀k,r[k]?=if k<vs.length then vs[k]? else c[k]?
 |[],c,r,h=>by
  have h:some c=some r:=h
  simp only [oI]at h
  subst h;simp
 |v::vs,[],r,h=>by have h:none=some r:=h;cases h
 |v::vs,x::c,r,h=>by
  have h:(AB (over vs c) fun r=>some (v::r))=some r:=h
  obtain ⟨s,hs,d⟩:=Ac h
  simp only [oI]at d
  subst d
  obtain ⟨g,o,j⟩:=P5 hs
  refine ⟨by simp [g],by simpa using o,fun k=>?_⟩
  cases k with
  |zero=>simp
  |succ k=>simp [j k]
theorem HG {vs:List Aa}:∀{i:Nat} {c r:List Aa},splice vs i c=some r→
  r.length=c.length∧i+vs.length≤c.length∧∀k,r[k]?=if i≤k∧k<i+vs.length then vs[k-i]? else c[k]?
 |0,c,r,h=>by
  have h:over vs c=some r:=h
  obtain ⟨d,o,g⟩:=P5 h
  exact ⟨d,by omega,fun k=>by rw [g k];simp⟩
 |i+1,[],r,h=>by have h:none=some r:=h;cases h
 |i+1,x::c,r,h=>by
  have h:(AB (splice vs i c) fun r=>some (x::r))=some r:=h
  obtain ⟨s,hs,j⟩:=Ac h
  simp only [oI]at j
  subst j
  obtain ⟨d,o,g⟩:=HG hs
  refine ⟨by simp [d],by simp;omega,fun k=>?_⟩
  cases k with
  |zero=>rw [if_neg (by omega)];rfl
  |succ k=>
   rw [List.getElem?_cons_succ,List.getElem?_cons_succ,g k]
   by_cases hk:i≤k∧k<i+vs.length
   ·rw [if_pos hk,if_pos (by omega)];congr 1;omega
   ·rw [if_neg hk,if_neg (by omega)]
theorem AaY (z:List Aa):∀n,rep z n=(List.replicate n z).flatten
 |0=>rfl
 |n+1=>by show z++rep z n=_;rw [AaY z n,List.replicate_succ,List.flatten_cons]
theorem Jk (z:List Aa):∀n,(rep z n).length=n*z.length
 |0=>by simp [show rep z 0=[]from rfl]
 |n+1=>by
  show (z++rep z n).length=_
  rw [lA,Jk z n,Nat.succ_mul];omega
theorem XD (z:List Aa):∀(n k:Nat),k<n*z.length→(rep z n)[k]?=z[k%z.length]?
 |0,k,h=>by omega
 |n+1,k,h=>by
  show (z++rep z n)[k]?=_
  by_cases hk:k<z.length
  ·rw [List.getElem?_append_left hk,Nat.mod_eq_of_lt hk]
  ·rw [List.getElem?_append_right (by omega),XD z n _ (by rw [Nat.succ_mul]at h;omega)]
   rw [←Nat.mod_eq_sub_mod (by omega)]
theorem Dq:∀l:List Nat,IF l=l.length
 |[]=>rfl
 |_::r=>by show IF r+1=_;rw [Dq r];rfl
theorem FK:∀(l:List Nat) (n:Nat),Cm l n=l[n]?
 |[],n=>by simp;rfl
 |x::r,0=>rfl
 |x::r,n+1=>by show Cm r n=_;rw [FK r n];simp
theorem LI:∀(n:Nat) (l:List Nat),Ni n l=l.drop n
 |0,l=>rfl
 |n+1,[]=>rfl
 |n+1,x::r=>by show Ni n r=_;rw [LI n r];rfl
theorem LH:∀{n:Nat} {l r:List Nat},Vj n l=some r→r=l.take n
 |0,l,r,h=>by
  have h:some []=some r:=h
  simp only [oI]at h
  subst h;simp
 |n+1,[],r,h=>by have h:none=some r:=h;cases h
 |n+1,x::l,r,h=>by
  have h:(AB (Vj n l) fun r=>some (x::r))=some r:=h
  obtain ⟨s,hs,c⟩:=Ac h
  simp only [oI]at c
  subst c
  rw [LH hs];rfl
theorem DF:∀{a b:List Nat},OS a b=true↔a=b
 |[],[]=>by simp;rfl
 |[],b::y=>by constructor<;>intro h<;>(first|cases h|(have h:false=true:=h;cases h))
 |a::x,[]=>by constructor<;>intro h<;>(first|cases h|(have h:false=true:=h;cases h))
 |a::x,b::y=>by
  show (Nat.beq a b&&OS x y)=true↔_
  rw [aT,Al,DF,List.cons.injEq]
theorem Yg:∀l:List Entry,AeT l=l.length
 |[]=>rfl
 |_::r=>by show AeT r+1=_;rw [Yg r];rfl
theorem K5 {a b:ByteArray} (h:strOf a=strOf b):a=b:=by
 unfold strOf at h
 have:a.data.toList=b.data.toList:=by
  generalize a.data.toList=x at h
  generalize b.data.toList=y at h
  induction x generalizing y with
  |nil=>cases y with
   |nil=>rfl
   |cons _ _=>simp at h
  |cons c x ih=>cases y with
   |nil=>simp at h
   |cons d y=>
    simp only [List.map_cons,List.cons.injEq]at h
    rw [UInt8.toNat_inj.1 h.1,ih y h.2]
 cases a;cases b
 simp only at this
 congr 1
 exact Array.toList_inj.1 this
theorem CT (a b:ByteArray):OS (strOf a) (strOf b)=(a.toList==b.toList):=by
 rw [Bool.eq_iff_iff,DF,ByteArray.toList_eq,ByteArray.toList_eq]
 simp only [beq_iff_eq]
 constructor
 ·intro h;rw [K5 h]
 ·intro h;unfold strOf;rw [h]
theorem Aab (a b:ByteArray):ltL (strOf a) (strOf b)=Op.bytesLess a.toList b.toList:=by
 rw [ByteArray.toList_eq,ByteArray.toList_eq]
 unfold strOf
 generalize a.data.toList=x
 generalize b.data.toList=y
 induction x generalizing y with
 |nil=>cases y<;>rfl
 |cons c x ih=>
  cases y with
  |nil=>rfl
  |cons d y=>
   show (Nat.blt c.toNat d.toNat||(Nat.beq c.toNat d.toNat&&ltL (x.map (·.toNat)) (y.map (·.toNat))))=(decide (c<d) ||(c==d&&Op.bytesLess x y))
   rw [ih y]
   congr 1
   ·rw [Bool.eq_iff_iff,I6];simp [UInt8.lt_iff_toNat_lt]
   ·congr 1
    rw [Bool.eq_iff_iff,Al];simp [UInt8.toNat_inj]
theorem BG (a:ByteArray):(strOf a).length=a.size:=by
 unfold strOf;rw [List.length_map];rfl
theorem beq_iff' {a b:Bool}:beq a b=true↔a=b:=by rw [beq_eq];simp
theorem Aa.TQ {x y:Aa} (h:x.eqC y=true):x=y:=by
 unfold Aa.eqC at h
 split at h<;>first
  |rfl
  |(cases h;done)
  |(simp only [aT,Al]at h;obtain ⟨⟨⟨rfl,rfl⟩,rfl⟩,rfl⟩:=h;rfl)
  |(simp only [aT,Al]at h;obtain ⟨rfl,rfl⟩:=h;rfl)
  |(rw [Al]at h;rw [h];done)
  |(rw [DF]at h;rw [h];done)
  |(rw [SB.Bg h];done)
  |(rw [aT,Dt]at h;obtain ⟨rfl,h⟩:=h;rw [ST.Bg h];done)
  |(rw [aT,aT,aT,beq_iff',Al,Al]at h;obtain ⟨rfl,rfl,rfl,h⟩:=h;rw [ST.Bg h];done)
  |(rw [aT,aT,Al,Al]at h;obtain ⟨rfl,h,rfl⟩:=h;rw [ST.Bg h];done)
  |(rw [aT,aT,Al,Al]at h;obtain ⟨rfl,rfl,h⟩:=h;rw [ST.Bg h];done)
  |(rw [aT,aT,aT,Al,Al,Al]at h;obtain ⟨rfl,rfl,h,rfl⟩:=h;rw [ST.Bg h];done)
theorem Aa.Li:∀{x y:List Aa},Aa.AeS x y=true→x=y
 |[],[],_=>rfl
 |[],_::_,h=>by cases h
 |_::_,[],h=>by cases h
 |a::x,b::y,h=>by
  have h:(a.eqC b&&Aa.AeS x y)=true:=h
  rw [aT]at h
  rw [Aa.TQ h.1,Aa.Li h.2]
theorem Aa.Dw {x y:Aa} (h:x.eq y=true):x=y:=by
 unfold Aa.eq at h
 split at h
 ·rw [aT,aT,Al]at h
  obtain ⟨rfl,d,c⟩:=h
  rw [Aa.Li d,Aa.Li c]
 ·exact Aa.TQ h
theorem Aa.Dk:∀{x y:List Aa},Aa.Qa x y=true→x=y
 |[],[],_=>rfl
 |[],_::_,h=>by cases h
 |_::_,[],h=>by cases h
 |a::x,b::y,h=>by
  have h:(a.eq b&&Aa.Qa x y)=true:=h
  rw [aT]at h
  rw [Aa.Dw h.1,Aa.Dk h.2]
theorem PZ:∀{x y:List (List Aa)},Ai3 x y=true→x=y
 |[],[],_=>rfl
 |[],_::_,h=>by cases h
 |_::_,[],h=>by cases h
 |a::x,b::y,h=>by
  have h:(Aa.Qa a b&&Ai3 x y)=true:=h
  rw [aT]at h
  rw [Aa.Dk h.1,PZ h.2]
theorem AL.Dw {x y:AL} (h:x.eq y=true):x=y:=by
 unfold AL.eq at h
 split at h
 ·rw [PZ h]
 ·rw [Nat.eq_of_beq_eq_true h]
 ·rw [aT]at h;rw [Nat.eq_of_beq_eq_true h.1,ST.Bg h.2]
 ·rw [aT]at h;rw [Nat.eq_of_beq_eq_true h.1,ST.Bg h.2]
 ·cases h
theorem AL.Dk:∀{x y:List AL},AL.Qa x y=true→x=y
 |[],[],_=>rfl
 |[],_::_,h=>by cases h
 |_::_,[],h=>by cases h
 |a::x,b::y,h=>by
  have h:(a.eq b&&AL.Qa x y)=true:=h
  rw [aT]at h
  rw [AL.Dw h.1,AL.Dk h.2]
theorem Gt {x y:Aa} {v:Bool}:∀{l:List (Aa×Aa×Bool)},Nn x y l=some v→(x,y,v)∈l
 |[],h=>by cases h
 |e::r,h=>by
  have h:(bif x.eq e.1&&y.eq e.2.1 then some e.2.2 else Nn x y r)=some v:=h
  cases c:x.eq e.1&&y.eq e.2.1 with
  |true=>
   rw [c]at h
   simp only [cond_true,oI]at h
   rw [aT]at c
   rw [Aa.Dw c.1,Aa.Dw c.2,←h]
   exact List.mem_cons_self
  |false=>rw [c]at h;exact List.mem_cons_of_mem _ (Gt h)
theorem PE {x y v:Aa}:∀{l:List (Aa×Aa×Aa)},AbX x y l=some v→(x,y,v)∈l
 |[],h=>by cases h
 |e::r,h=>by
  have h:(bif x.eq e.1&&y.eq e.2.1 then some e.2.2 else AbX x y r)=some v:=h
  cases c:x.eq e.1&&y.eq e.2.1 with
  |true=>
   rw [c]at h
   simp only [cond_true,oI]at h
   rw [aT]at c
   rw [Aa.Dw c.1,Aa.Dw c.2,←h]
   exact List.mem_cons_self
  |false=>rw [c]at h;exact List.mem_cons_of_mem _ (PE h)
theorem KN {i:Nat} {v:ST×Nat×Nat}:∀{l:List (Nat×ST×Nat×Nat)},XU i l=some v→(i,v)∈l
 |[],h=>by cases h
 |e::r,h=>by
  have h:(bif Nat.beq e.1 i then some e.2 else XU i r)=some v:=h
  cases c:Nat.beq e.1 i with
  |true=>
   rw [c]at h
   simp only [cond_true,oI]at h
   rw [←h,←Nat.eq_of_beq_eq_true c]
   exact List.mem_cons_self
  |false=>rw [c]at h;exact List.mem_cons_of_mem _ (KN h)
theorem CH {i:Nat} {v:ST}:∀{l:List (Nat×ST)},Fc i l=some v→(i,v)∈l
 |[],h=>by cases h
 |e::r,h=>by
  have h:(bif Nat.beq e.1 i then some e.2 else Fc i r)=some v:=h
  cases c:Nat.beq e.1 i with
  |true=>
   rw [c]at h
   simp only [cond_true,oI]at h
   rw [←h,←Nat.eq_of_beq_eq_true c]
   exact List.mem_cons_self
  |false=>rw [c]at h;exact List.mem_cons_of_mem _ (CH h)
theorem I1 {i:Nat} {t:ST} {v:List Aa}:∀{l:List (Nat×ST×List Aa)},PD i t l=some v→(i,t,v)∈l
 |[],h=>by cases h
 |e::r,h=>by
  have h:(bif Nat.beq e.1 i&&e.2.1.eq t then some e.2.2 else PD i t r)=some v:=h
  cases c:Nat.beq e.1 i&&e.2.1.eq t with
  |true=>
   rw [c]at h
   simp only [cond_true,oI]at h
   rw [aT]at c
   rw [←Nat.eq_of_beq_eq_true c.1,←ST.Bg c.2,←h]
   exact List.mem_cons_self
  |false=>rw [c]at h;exact List.mem_cons_of_mem _ (I1 h)
theorem PC {i:Nat} {k:Aa} {v:Option (List Aa)}:∀{l:List (Nat×Aa×Option (List Aa))},AbV i k l=some v→(i,k,v)∈l
 |[],h=>by cases h
 |e::r,h=>by
  have h:(bif Nat.beq e.1 i&&k.eq e.2.1 then some e.2.2 else AbV i k r)=some v:=h
  cases c:Nat.beq e.1 i&&k.eq e.2.1 with
  |true=>
   rw [c]at h
   simp only [cond_true,oI]at h
   rw [aT]at c
   rw [←Nat.eq_of_beq_eq_true c.1,Aa.Dw c.2,←h]
   exact List.mem_cons_self
  |false=>rw [c]at h;exact List.mem_cons_of_mem _ (PC h)
theorem PA {i j:Nat} {k:Aa} {cs:List Aa}:∀{l:List (Nat×Aa×List Aa×Nat)},AbU i k cs l=some j→(i,k,cs,j)∈l
 |[],h=>by cases h
 |e::r,h=>by
  have h:(bif Nat.beq e.1 i&&(k.eq e.2.1&&Aa.Qa cs e.2.2.1)then some e.2.2.2 else AbU i k cs r)=some j:=h
  cases c:Nat.beq e.1 i&&(k.eq e.2.1&&Aa.Qa cs e.2.2.1)with
  |true=>
   rw [c]at h
   simp only [cond_true,oI]at h
   rw [aT,aT]at c
   rw [←Nat.eq_of_beq_eq_true c.1,Aa.Dw c.2.1,Aa.Dk c.2.2,←h]
   exact List.mem_cons_self
  |false=>rw [c]at h;exact List.mem_cons_of_mem _ (PA h)
theorem PF {t u:ST} {n:Nat}:∀{l:List (ST×Nat×ST)},AbY t n l=some u→∃m,n≤m∧(t,m,u)∈l
 |[],h=>by cases h
 |e::r,h=>by
  have h:(bif t.eq e.1&&Nat.ble n e.2.1 then some e.2.2 else AbY t n r)=some u:=h
  cases c:t.eq e.1&&Nat.ble n e.2.1 with
  |true=>
   rw [c]at h
   simp only [cond_true,oI]at h
   rw [aT]at c
   refine ⟨e.2.1,Nat.le_of_ble_eq_true c.2,?_⟩
   rw [ST.Bg c.1,←h]
   exact List.mem_cons_self
  |false=>
   rw [c]at h
   obtain ⟨m,d,g⟩:=PF h
   exact ⟨m,d,List.mem_cons_of_mem _ g⟩
theorem Fm {p:List AL} {j:Nat}:∀{l:List (Nat×List AL)},JZ p l=some j→(j,p)∈l
 |[],h=>by cases h
 |e::r,h=>by
  have h:(bif AL.Qa p e.2 then some e.1 else JZ p r)=some j:=h
  cases c:AL.Qa p e.2 with
  |true=>
   rw [c]at h
   simp only [cond_true,oI]at h
   rw [AL.Dk c,←h]
   exact List.mem_cons_self
  |false=>rw [c]at h;exact List.mem_cons_of_mem _ (Fm h)
theorem Pt {p:List AL} {j:Nat}:∀{l:List (Nat×List AL)},AaR p l=some j→(j,p)∈l
 |[],h=>by cases h
 |e::r,h=>by
  have h:(bif AL.Qa p e.2 then some e.1 else AaR p r)=some j:=h
  cases c:AL.Qa p e.2 with
  |true=>
   rw [c]at h
   simp only [cond_true,oI]at h
   rw [AL.Dk c,←h]
   exact List.mem_cons_self
  |false=>rw [c]at h;exact List.mem_cons_of_mem _ (Pt h)
end Go.AM
end
section
namespace Go.AM
section
variable {P:Program} {Γ:An} {ρ:Env} {μ:Ap} {tm:Tr Aa} {a:Act} {w:World}
def Ba (ρ:Env) (μ:Ap) (tm:Tr Aa) (a:Act):Prop:=∀t,Ag ρ μ (EF (tm.get t)) (a.tmps.getD t undef)
theorem Ba.mono {c:Ap} (d:Ba ρ μ tm a) (h:μ.le c):Ba ρ c tm a:=fun t=>(d t).mono h
mutual
theorem Dm:∀v:Value,Ag ρ μ (Hg v) v
 |.bool b=>by simp only [Hg,Ag,SB.den]
 |.int k n=>by simp only [Hg,Ag,ST.den]
 |.string s=>by simp only [Hg,Ag];exact ⟨s,rfl,rfl⟩
 |.pointer none=>by simp only [Hg,Ag]
 |.pointer (some _)=>trivial
 |.slice none 0 0=>by simp only [Hg,Ag]
 |.slice none 0 (_+1)=>trivial
 |.slice none (_+1) _=>trivial
 |.slice (some _) _ _=>trivial
 |.map none=>by simp only [Hg,Ag]
 |.map (some _)=>trivial
 |.nilFunc=>by simp only [Hg,Ag]
 |.nilIface=>by simp only [Hg,Ag]
 |.agg ⟨cs⟩=>by
  simp only [Hg]
  split
  ·rename_i h
   simp only [Ag]
   exact ⟨⟨cs⟩,rfl,Oj cs h⟩
  ·trivial
 |.float _ _=>trivial
 |.complex _ _ _=>trivial
 |.chan _=>trivial
 |.func _ _ _=>trivial
 |.iface _ _=>trivial
 |.tuple _=>trivial
theorem Oj:∀l:List Value,(Ul l).all (·.single)=true→Aw ρ μ (Ul l) l
 |[],_=>by simp only [Ul,Aw]
 |v::r,h=>by
  simp only [Ul,List.all_cons,aT]at h
  simp only [Ul,Aw]
  exact ⟨v,r,rfl,⟨h.1,Dm v⟩,Oj r h.2⟩
end
theorem Aq (c:Ba ρ μ tm a) (x:Operand):Ag ρ μ (ev tm (AF x)) (a.eval x):=by
 cases x with
 |tmp t=>exact c t
 |const v=>exact Dm v
 |global g=>trivial
 |func f=>
  show Ag ρ μ (.func f [] []) (.func (.func f) #[] #[])
  simp only [Ag]
  exact ⟨#[],#[],rfl,by simp only [A7],by simp only [A7]⟩
theorem Gv (c:Ba ρ μ tm a):∀l:List Operand,A7 ρ μ (So tm (Cg l)) (l.map a.eval)
 |[]=>by show A7 ρ μ [] [];simp only [A7]
 |x::r=>by
  show A7 ρ μ (ev tm (AF x)::So tm (Cg r)) _
  simp only [A7,List.map_cons]
  exact ⟨_,_,rfl,Aq c x,Gv c r⟩
theorem Ba.put (c:Ba ρ μ tm a) {d:Option Tmp} {v:Aa} {u:Value} (hd:∀t,d=some t→t<a.tmps.size) (h:Ag ρ μ v u):Ba ρ μ (Ea tm d v) (a.put d u):=by
 cases d with
 |none=>exact c
 |some d=>
  intro t
  show Ag ρ μ (EF ((tm.set d (some v)).get t)) ((a.tmps.setIfInBounds d u).getD t undef)
  rw [Tr.Bk]
  have g:=hd d rfl
  by_cases e:t=d
  ·subst e
   rw [if_pos rfl]
   simpa [Array.getD_eq_getD_getElem?,g,EF]using h
  ·rw [if_neg e]
   have:=c t
   simpa [Array.getD_eq_getD_getElem?,Array.getElem?_setIfInBounds_ne (Ne.symm e)]using this
theorem Act.MH (d:Option Tmp) (u:Value):(a.put d u).tmps.size=a.tmps.size:=by
 cases d<;>simp [Act.put]
theorem Ag.int {k:IntKind} {n:ST} {v:Value} (h:Ag ρ μ (.int k n) v):v=.int k (n.den ρ):=by simpa only [Ag]using h
theorem Ag.bool {b:SB} {v:Value} (h:Ag ρ μ (.bool b) v):v=.bool (b.den ρ):=by simpa only [Ag]using h
theorem Ag.agg {cs:List Aa} {v:Value} (h:Ag ρ μ (.agg cs) v):∃a:Array Value,v=.agg a∧Aw ρ μ cs a.toList:=by simpa only [Ag]using h
theorem Ag.tuple {cs:List Aa} {v:Value} (h:Ag ρ μ (.tuple cs) v):∃a:Array Value,v=.tuple a∧A7 ρ μ cs a.toList:=by simpa only [Ag]using h
theorem Ag.str {s:List Nat} {v:Value} (h:Ag ρ μ (.str s) v):∃b:ByteArray,v=.string b∧strOf b=s:=by simpa only [Ag]using h
theorem Ag.ptr {b c:Nat} {v:Value} (h:Ag ρ μ (.ptr b c) v):∃r δ m,μ b=some (r,δ,m)∧v=.pointer (some ⟨r,δ+c,none⟩):=by simpa only [Ag]using h
theorem Ag.slice {b d len c:Nat} {v:Value} (h:Ag ρ μ (.slice b d len c) v):
  ∃r δ m,μ b=some (r,δ,m)∧v=.slice (some ⟨r,δ+d,none⟩) len c∧len≤c:=by simpa only [Ag]using h
theorem Ag.gslice {b d len g:Nat} {v:Value} (h:Ag ρ μ (.gslice b d len g) v):
  ∃r δ m c,μ b=some (r,δ,m)∧v=.slice (some ⟨r,δ+d,none⟩) len c∧len≤c∧d+c*g≤m:=by simpa only [Ag]using h
theorem Ag.O6 {b:Nat} {v:Value} (h:Ag ρ μ (.map b) v):∃r,μ b=some (r,0,0)∧v=.map (some r):=by simpa only [Ag]using h
theorem Ag.func {f:FuncId} {x c:List Aa} {v:Value} (h:Ag ρ μ (.func f x c) v):∃d g:Array Value,v=.func (.func f) d g∧A7 ρ μ x d.toList∧A7 ρ μ c g.toList:=by simpa only [Ag]using h
theorem Ag.iface {t:TypeId} {x:Aa} {v:Value} (h:Ag ρ μ (.iface t x) v):∃u,v=.iface t u∧Ag ρ μ x u:=by simpa only [Ag]using h
theorem Ag.anyStr {n:Nat} {v:Value} (h:Ag ρ μ (.anyStr n) v):∃b:ByteArray,v=.string b∧1≤b.size∧b.size≤n:=by simpa only [Ag]using h
theorem Ag.gbytes {b:Nat} {v:Value} (h:Ag ρ μ (.gbytes b) v):∃r m,μ b=some (r,0,m)∧v=.slice (some ⟨r,0,none⟩) (BN m) (BZ m)∧1≤BN m∧BN m≤BZ m:=by simpa only [Ag]using h
theorem Ag.glen {b:Nat} {v:Value} (h:Ag ρ μ (.glen b) v):∃r m,μ b=some (r,0,m)∧v=.int .i64 (BN m:Nat):=by simpa only [Ag]using h
theorem Ag.svar {i:Nat} {v:Value} (h:Ag ρ μ (.svar i) v):∃b:ByteArray,v=.string b∧strOf b=ρ.str i:=by simpa only [Ag]using h
theorem Ag.lst {f:Bool} {i c:Nat} {n:ST} {v:Value} (h:Ag ρ μ (.lst f i c n) v):IG μ.Bb (.list c (ρ.lst i)) v∧n.den ρ=((ρ.lst i).length:Int)∧(f=true→∃p,v=.slice p (ρ.lst i).length (ρ.lst i).length):=by simpa only [Ag]using h
theorem Ag.lptr {i c:Nat} {j:ST} {v:Value} (h:Ag ρ μ (.lptr i j c) v):∃r δ a e ps,v=.pointer (some ⟨r,δ+c,none⟩)∧IY μ.Bb r a e∧0≤j.den ρ∧(ρ.lst i)[(j.den ρ).toNat]?=some ps∧AQ μ.Bb a δ ps:=by simpa only [Ag]using h
theorem Ag.vec {b c:Nat} {n:ST} {v:Value} (h:Ag ρ μ (.vec b c n) v):∃r m k,μ b=some (r,0,m)∧v=.slice (some ⟨r,0,none⟩) k (BZ m)∧n.den ρ=(k:Int)∧k≤BN m∧BN m≤BZ m:=by simpa only [Ag]using h
theorem Ag.vptr {b d c:Nat} {j:ST} {v:Value} (h:Ag ρ μ (.vptr b d j c) v):∃r m,μ b=some (r,0,m)∧v=.pointer (some ⟨r,(j.den ρ).toNat*d+c,none⟩)∧0≤j.den ρ:=by simpa only [Ag]using h
theorem Ag.Ey {f:Bool} {i g:Nat} {n:ST} {v:Value} (h:Ag ρ μ (.lst f i g n) v):∃p c,v=.slice p (ρ.lst i).length c∧(ρ.lst i).length≤c∧n.den ρ=((ρ.lst i).length:Int)∧
  ((ρ.lst i).length≠0→∃r δ a e,p=some ⟨r,δ,none⟩∧IY μ.Bb r a e∧BR μ.Bb g a δ (ρ.lst i)):=by
 obtain ⟨j,d,_⟩:=h.lst
 simp only [IG]at j
 obtain ⟨c,hc,⟨e,p,rfl⟩|⟨r,δ,a,t,rfl,k,o⟩⟩:=j
 ·exact ⟨p,c,by rw [e];rfl,hc,d,fun h=>absurd (by rw [e];rfl) h⟩
 ·exact ⟨_,c,rfl,hc,d,fun _=>⟨r,δ,a,t,rfl,k,o⟩⟩
theorem BR.get {Bb:Nat→Option Obj} {c:Nat} {a:Array Value}:∀{l:List (List PV)} {δ:Nat},BR Bb c a δ l→∀(i:Nat) (ps:List PV),l[i]?=some ps→ps.length=c∧AQ Bb a (δ+i*c) ps
 |[],_,_,i,ps,h=>by simp at h
 |qs::r,δ,e,i,ps,h=>by
  simp only [BR]at e
  obtain ⟨g,k,d⟩:=e
  cases i with
  |zero=>
   simp only [List.getElem?_cons_zero,oI]at h
   subst h
   exact ⟨g,by simpa using k⟩
  |succ i=>
   obtain ⟨j,o⟩:=BR.get d i ps (by simpa using h)
   exact ⟨j,by rw [Nat.add_mul,Nat.one_mul];rw [show δ+(i*c+c)=δ+c+i*c by omega];exact o⟩
section
variable {Bb:Nat→Option Obj} {a:Array Value}
theorem AQ.append_iff:∀{x y:List PV} {δ:Nat},AQ Bb a δ (x++y)↔AQ Bb a δ x∧AQ Bb a (δ+x.length) y
 |[],y,δ=>by simp only [List.nil_append,AQ,true_and,lN,Nat.add_zero]
 |p::x,y,δ=>by
  simp only [List.cons_append,AQ,lC]
  rw [AQ.append_iff (x:=x) (y:=y) (δ:=δ+1),and_assoc]
  rw [show δ+1+x.length=δ+(x.length+1) by omega]
theorem B8 {c:Nat}:∀{l:List (List PV)} {δ:Nat},BR Bb c a δ l↔(∀ps∈l,ps.length=c)∧AQ Bb a δ l.flatten
 |[],δ=>by simp only [BR,List.flatten_nil,AQ,List.not_mem_nil,false_implies,implies_true,and_self]
 |ps::l,δ=>by
  simp only [BR,List.flatten_cons,AQ.append_iff,B8 (l:=l),List.mem_cons,forall_eq_or_imp]
  constructor
  ·rintro ⟨h1,h2,h3,h4⟩
   exact ⟨⟨h1,h3⟩,h2,by rw [h1];exact h4⟩
  ·rintro ⟨⟨h1,h3⟩,h2,h4⟩
   exact ⟨h1,h2,h3,by rw [h1]at h4;exact h4⟩
theorem BJ {c:Nat}:∀{l:List (List PV)},(∀ps∈l,ps.length=c)→l.flatten.length=l.length*c
 |[],_=>by simp
 |ps::l,h=>by
  rw [List.flatten_cons,lA,BJ fun x d=>h x (List.mem_cons_of_mem _ d),h ps List.mem_cons_self,lC,Nat.add_mul]
  omega
end
theorem IG.Ux {x:Aa} {p:PV} {v:Value} (hd:Mr ρ x p) (h:IG μ.Bb p v):Ag ρ μ x v∧x.single=true:=by
 cases x<;>simp only [Mr]at hd
 case bool|int|nilPtr=>subst hd;simp only [IG]at h;exact ⟨by simp only [Ag];exact h,rfl⟩
 case str=>subst hd;simp only [IG]at h;exact ⟨by simp only [Ag];exact h,rfl⟩
 case svar=>subst hd;simp only [IG]at h;exact ⟨by simp only [Ag];exact h,rfl⟩
 case lst f i es n=>
  obtain ⟨rfl,rfl,c⟩:=hd
  exact ⟨by simp only [Ag];exact ⟨h,c,fun e=>by cases e⟩,rfl⟩
theorem AQ.Ux {c:Array Value}:∀{d:List Aa} {ps:List PV} {δ:Nat},FW ρ d ps→AQ μ.Bb c δ ps→d.length=ps.length∧∀(i:Nat) (x:Aa),d[i]?=some x→∃v,c[δ+i]?=some v∧x.single=true∧Ag ρ μ x v
 |[],ps,δ,hd,h=>by
  simp only [FW]at hd
  subst hd
  exact ⟨rfl,fun i x J=>by simp at J⟩
 |x::d,ps,δ,hd,h=>by
  simp only [FW]at hd
  obtain ⟨p,rest,rfl,M,D⟩:=hd
  simp only [AQ]at h
  obtain ⟨⟨u,A,o⟩,C⟩:=h
  obtain ⟨z,H⟩:=AQ.Ux D C
  refine ⟨by simp [z],fun i y g=>?_⟩
  cases i with
  |zero=>
   simp only [List.getElem?_cons_zero,oI]at g
   subst g
   obtain ⟨k,j⟩:=o.Ux M
   exact ⟨u,A,j,k⟩
  |succ i=>
   obtain ⟨v,k,j⟩:=H i y (by simpa using g)
   exact ⟨v,by rw [←k];congr 1;omega,j⟩
theorem AQ.cs {c:Array Value} {d:List Aa} {ps:List PV} (hd:FW ρ d ps) (h:AQ μ.Bb c 0 ps) (hs:c.size=ps.length):Aw ρ μ d c.toList:=by
 obtain ⟨u,k⟩:=AQ.Ux hd h
 refine Aw.KJ (by rw [u,←hs];rfl) fun i x o=>?_
 obtain ⟨v,g,j⟩:=k i x o
 exact ⟨v,by rw [Array.getElem?_toList];simpa using g,j⟩
theorem BS {x:Aa} {s:List Nat} {v:Value} (hs:Et ρ x=some s) (h:Ag ρ μ x v):∃b:ByteArray,v=.string b∧strOf b=s:=by
 cases x<;>simp only [Et,oI,reduceCtorEq]at hs
 case str=>subst hs;exact h.str
 case svar=>subst hs;exact h.svar
theorem Fe (d:Γ.AG ρ) {op:BinOp} {x y:ST} (h:D7 Γ op x y=true):EK op (x.den ρ) (y.den ρ)=true:=by
 unfold D7 at h
 split at h
 ·rename_i v hv
  obtain ⟨c,_⟩:=CU d hv
  subst h
  exact c.symm
 ·cases h
theorem Jr (c:Γ.AG ρ) {x y:ST} (h:D7 Γ .geq x y=true):y.den ρ≤x.den ρ:=by simpa [EK]using Fe c h
theorem Vy (c:Γ.AG ρ) {x y:ST} (h:D7 Γ .gtr x y=true):y.den ρ<x.den ρ:=by simpa [EK]using Fe c h
theorem Nu (c:Γ.AG ρ) {x y:ST} (h:D7 Γ .lss x y=true):x.den ρ<y.den ρ:=by simpa [EK]using Fe c h
theorem GM (c:Γ.AG ρ) {x y:ST} (h:D7 Γ .leq x y=true):x.den ρ≤y.den ρ:=by simpa [EK]using Fe c h
theorem Vo {x:Aa} {n:Nat} (h:CN x=some n):∃k,x=.int k (.lit (.ofNat n)):=by
 unfold CN at h
 split at h
 ·rename_i k m
  simp only [oI]at h
  exact ⟨k,by rw [h]⟩
 ·cases h
theorem Cy {x:Aa} {n:Nat} {v:Value} (h:CN x=some n) (hv:Ag ρ μ x v):∃k,v=.int k (n:Int):=by
 obtain ⟨k,rfl⟩:=Vo h
 exact ⟨k,hv.int⟩
def Bu (P:Program) (ρ:Env) (μ:Ap) (a:Act) (o:Oper) (w:World) (v:Aa):Prop:=∃c,(execOp a.eval o).run P w=.ok (.value c) w∧Ag ρ μ v c
theorem E7 (P:Program) (w:World) (t:TypeId) {n:Option Nat} (h:Eg P t=some n):
  (isAgg t).run P w=.ok n.isSome w∧(∀m,n=some m→(sizeOf t).run P w=.ok m w):=by
 unfold Eg at h
 split at h
 ·rename_i fs i g j
  simp only [oI]at h
  subst h
  refine ⟨by simp [isAgg,run_underlying g],fun m c=>?_⟩
  simp only [oI]at c
  subst c
  simp [sizeOf,typeInfo,j]
 ·rename_i k e i g j
  simp only [oI]at h
  subst h
  refine ⟨by simp [isAgg,run_underlying g],fun m c=>?_⟩
  simp only [oI]at c
  subst c
  simp [sizeOf,typeInfo,j]
 ·rename_i d i o u g j
  simp only [oI]at h
  subst h
  refine ⟨?_,fun m c=>by cases c⟩
  cases d<;>first|(simp [isAgg,run_underlying g];done) |skip
  ·exact (u _ _ rfl).elim
  ·exact (o _ rfl).elim
 ·cases h
theorem Bx {t:TypeId} {n:Nat} (h:Bf P t=some n):(sizeOf t).run P w=.ok n w:=by
 unfold Bf at h
 cases e:P.info? t with
 |none=>rw [e]at h;cases h
 |some i=>
  rw [e]at h
  simp only [Option.map_some,oI]at h
  simp [sizeOf,typeInfo,e,h]
theorem Aw.extract {cs r:List Aa} {x:Array Value} {c n:Nat} (h:Aw ρ μ cs x.toList) (hc:cut cs c n=some r):Aw ρ μ r (x.extract c (c+n)).toList:=by
 obtain ⟨g,k,d⟩:=Ks hc
 have hl:cs.length=x.size:=by simpa using h.length
 refine Aw.KJ ?_ fun i b hb=>?_
 ·rw [g,Array.length_toList,Array.size_extract]
  omega
 ·rw [d]at hb
  split at hb
  ·rename_i o
   obtain ⟨v,hv,hs,j⟩:=h.get hb
   refine ⟨v,?_,hs,j⟩
   rw [Array.getElem?_toList,Array.getElem?_extract]
   rw [Array.getElem?_toList]at hv
   rw [if_pos (by omega)]
   exact hv
  ·cases hb
theorem Nd {t:TypeId} {n:Option Nat} {cs:List Aa} {x:Array Value} {c:Nat} {v:Aa} (o:Eg P t=some n) (k:Aw ρ μ cs x.toList) (h:JV cs c n=some v):
  ∃d,(part t x c).run P w=.ok d w∧Ag ρ μ v d:=by
 obtain ⟨j,u⟩:=E7 P w t o
 unfold JV at h
 cases n with
 |none=>
  simp only at h
  rw [KL]at h
  obtain ⟨d,hv,_,g⟩:=k.get h
  rw [Array.getElem?_toList]at hv
  exact ⟨d,by simp [part,j,hv],g⟩
 |some n=>
  simp only at h
  obtain ⟨r,g,h⟩:=Ac h
  simp only [oI]at h
  subst h
  refine ⟨.agg (x.extract c (c+n)),by simp [part,j,u n rfl],?_⟩
  simp only [Ag]
  exact ⟨_,rfl,k.extract g⟩
theorem TA {o:Oper} {x:Operand} (c:o.op=.move x∨o.op=.assign x) (d:Ba ρ μ tm a):Bu P ρ μ a o w (ev tm (AF x)):=
 ⟨a.eval x,by rcases c with c|c<;>simp [execOp,c],Aq d x⟩
theorem VG {o:Oper} {c x y:Operand} (g:o.op=.pick c x y) (d:Ba ρ μ tm a) {v:Aa} (h:AbG (ev tm (AF c)) (ev tm (AF x)) (ev tm (AF y))=some v):Bu P ρ μ a o w v:=by
 have hc:=Aq d c
 unfold AbG at h
 split at h
 ·rename_i b hb
  rw [hb]at hc
  have hc:=hc.bool
  simp only [oI]at h
  subst h
  refine ⟨if b then a.eval x else a.eval y,?_,?_⟩
  ·simp [execOp,g,hc,asBool,SB.den]
  ·cases b
   ·exact Aq d y
   ·exact Aq d x
 ·cases h
theorem VH {o:Oper} {x:Operand} (k:o.op=.nilCheck x) (z:Ba ρ μ tm a) {v:Aa} (h:AbL (ev tm (AF x))=some v):Bu P ρ μ a o w v:=by
 have d:=Aq z x
 unfold AbL at h
 split at h
 ·rename_i b u hb
  simp only [oI]at h
  rw [hb]at d
  subst h
  have g:=d
  obtain ⟨r,δ,_,_,e⟩:=d.ptr
  exact ⟨a.eval x,by simp [execOp,k,e],g⟩
 ·rename_i f y c hb
  simp only [oI]at h
  rw [hb]at d
  subst h
  have g:=d
  obtain ⟨_,_,e,_⟩:=d.func
  exact ⟨a.eval x,by simp [execOp,k,e],g⟩
 ·rename_i i j u hb
  simp only [oI]at h
  rw [hb]at d
  subst h
  have g:=d
  obtain ⟨r,δ,_,_,_,e,_⟩:=d.lptr
  exact ⟨a.eval x,by simp [execOp,k,e],g⟩
 ·rename_i b A j u hb
  simp only [oI]at h
  rw [hb]at d
  subst h
  have g:=d
  obtain ⟨r,m,_,e,_⟩:=d.vptr
  exact ⟨a.eval x,by simp [execOp,k,e],g⟩
 ·cases h
theorem TB {o:Oper} {t:TypeId} {x:Operand} (d:o.op=.makeInterface t x) (c:Ba ρ μ tm a) (hc:P.concrete t=true):Bu P ρ μ a o w (.iface t (ev tm (AF x))):=
 ⟨.iface t (a.eval x),by simp [execOp,d,run_makeInterface,hc],by simp only [Ag];exact ⟨_,rfl,Aq c x⟩⟩
theorem VM {o:Oper} {f:FuncId} {x c:Array Operand} (g:o.op=.makeFunc (.func f) x c) (d:Ba ρ μ tm a):Bu P ρ μ a o w (.func f (So tm (Cg x.toList)) (So tm (Cg c.toList))):=
 ⟨.func (.func f) (x.map a.eval) (c.map a.eval),by simp [execOp,g,Instr.makeFunc],by
  simp only [Ag]
  exact ⟨_,_,rfl,by simpa using Gv d x.toList,by simpa using Gv d c.toList⟩⟩
theorem Zi {o:Oper} {x:Operand} {i:Nat} (k:o.op=.extract x i) (j:Ba ρ μ tm a) {v:Aa} (h:Ai1 (ev tm (AF x)) i=some v):Bu P ρ μ a o w v:=by
 have c:=Aq j x
 unfold Ai1 at h
 split at h
 ·rename_i vs hb
  rw [hb]at c
  obtain ⟨y,e,g⟩:=c.tuple
  rw [KL]at h
  obtain ⟨d,hv,u⟩:=g.get h
  rw [Array.getElem?_toList]at hv
  exact ⟨d,by simp [execOp,k,e,Instr.extract,hv],u⟩
 ·cases h
theorem Addr.Bh (r o n:Nat):(⟨r,o,none⟩:Addr).add n=⟨r,o+n,none⟩:=by
 unfold Addr.add
 by_cases h:n=0
 ·subst h;simp
 ·rw [if_neg h]
theorem R7 {o:Oper} {t:TypeId} {x:Operand} {f:Nat} (y:o.op=.fieldAddr t x f) (J:Ba ρ μ tm a) {fs:Array Field} {g:Field} {n:Nat} (z:P.underlying t=some (.struct fs)) (hf:fs[f]?=some g)
  (C:Bf P g.type=some (n+1)) {v:Aa} (h:RJ g.offset (ev tm (AF x))=some v):Bu P ρ μ a o w v:=by
 have k:=Aq J x
 unfold RJ at h
 split at h
 ·rename_i b d hb
  simp only [oI]at h
  subst h
  rw [hb]at k
  obtain ⟨r,δ,m,u,e⟩:=k.ptr
  refine ⟨.pointer (some ⟨r,δ+(d+g.offset),none⟩),?_,?_⟩
  ·have hs:=Bx (w:=w) C
   simp [execOp,y,e,Instr.fieldAt,run_underlying z,hf,Instr.sureAddr,fieldPlace,hs,Addr.Bh,Nat.add_assoc]
  ·simp only [Ag];exact ⟨r,δ,_,u,rfl⟩
 ·rename_i i j d hb
  simp only [oI]at h
  subst h
  rw [hb]at k
  obtain ⟨r,δ,c,t,ps,e,A,D⟩:=k.lptr
  refine ⟨.pointer (some ⟨r,δ+(d+g.offset),none⟩),?_,?_⟩
  ·have hs:=Bx (w:=w) C
   simp [execOp,y,e,Instr.fieldAt,run_underlying z,hf,Instr.sureAddr,fieldPlace,hs,Addr.Bh,Nat.add_assoc]
  ·simp only [Ag];exact ⟨r,δ,c,t,ps,rfl,A,D⟩
 ·rename_i b H j d hb
  simp only [oI]at h
  subst h
  rw [hb]at k
  obtain ⟨r,m,u,e,A⟩:=k.vptr
  refine ⟨.pointer (some ⟨r,(j.den ρ).toNat*H+(d+g.offset),none⟩),?_,?_⟩
  ·have hs:=Bx (w:=w) C
   simp [execOp,y,e,Instr.fieldAt,run_underlying z,hf,Instr.sureAddr,fieldPlace,hs,Addr.Bh,Nat.add_assoc]
  ·simp only [Ag];exact ⟨r,m,u,rfl,A⟩
 ·cases h
theorem TC {o:Oper} {t:TypeId} {x:Operand} {f:Nat} (j:o.op=.field t x f) (A:Ba ρ μ tm a) {fs:Array Field} {g:Field} {n:Option Nat} (k:P.underlying t=some (.struct fs)) (hf:fs[f]?=some g)
  (D:Eg P g.type=some n) {v:Aa} (h:VU g.offset n (ev tm (AF x))=some v):Bu P ρ μ a o w v:=by
 have c:=Aq A x
 unfold VU at h
 split at h
 ·rename_i cs hb
  rw [hb]at c
  obtain ⟨y,e,C⟩:=c.agg
  obtain ⟨u,z,d⟩:=Nd (w:=w) D C h
  exact ⟨u,by simp [execOp,j,e,Instr.field,run_underlying k,hf,asAgg,z],d⟩
 ·cases h
theorem VL (N:Γ.AG ρ) {o:Oper} {t e:TypeId} {x i:Operand} (O:o.op=.indexAddr t x i) (U:Ba ρ μ tm a) {n:Nat} (Q:P.underlying t=some (.slice e)) (R:Bf P e=some n) {v:Aa}
  (h:Aci Γ n (ev tm (AF x)) (ev tm (AF i)) (CN (ev tm (AF i)))=some v):Bu P ρ μ a o w v:=by
 have A:=Aq U x
 have M:=Aq U i
 have key:∀(b y len r δ m c:Nat),Ya n b y len (CN (ev tm (AF i)))=some v→μ b=some (r,δ,m)→a.eval x=.slice (some ⟨r,δ+y,none⟩) len c→Bu P ρ μ a o w v:=fun b y len r δ m c h u z=>by
  unfold Ya at h
  obtain ⟨j,Z,h⟩:=Ac h
  obtain ⟨d,h⟩:=Ao h
  simp only [oI]at h
  subst h
  obtain ⟨k,C⟩:=Cy Z M
  have hs:=Bx (w:=w) R
  have d:=I6.1 d
  refine ⟨.pointer (some ⟨r,δ+(y+j*n),none⟩),?_,?_⟩
  ·simp [execOp,O,z,C,Instr.indexAt,asIntOf,run_underlying Q,hs,d,Addr.Bh,Nat.add_assoc]
  ·simp only [Ag];exact ⟨r,δ,_,u,rfl⟩
 unfold Aci at h
 split at h
 ·rename_i b es len hb
  rw [hb]at A
  unfold AgA at h
  split at h
  ·rename_i k t J
   obtain ⟨hc,h⟩:=Ao h
   simp only [oI]at h
   subst h
   rw [aT,aT,Al]at hc
   obtain ⟨rfl,g,D⟩:=hc
   have g:=Jr N g
   have D:=Nu N D
   rw [J]at M
   have C:=M.int
   obtain ⟨r,m,c,u,z,H,_,_⟩:=A.vec
   rw [H]at D
   have g:0≤t.den ρ:=g
   obtain ⟨q,hq⟩:∃q:Nat,t.den ρ=(q:Int):=⟨(t.den ρ).toNat,by omega⟩
   have d:q<c:=by omega
   have hs:=Bx (w:=w) R
   refine ⟨.pointer (some ⟨r,(t.den ρ).toNat*n+0,none⟩),?_,?_⟩
   ·rw [hq]at C⊢
    simp [execOp,O,z,C,Instr.indexAt,asIntOf,run_underlying Q,hs,d,Addr.Bh,Nat.add_assoc]
   ·simp only [Ag]
    exact ⟨r,m,u,rfl,g⟩
  ·cases h
 ·rename_i f j es len hb
  rw [hb]at A
  unfold AgB at h
  split at h
  ·rename_i k t J
   obtain ⟨hc,h⟩:=Ao h
   simp only [oI]at h
   subst h
   rw [aT,aT,Al]at hc
   obtain ⟨rfl,g,D⟩:=hc
   have g:=Jr N g
   have D:=Nu N D
   rw [J]at M
   have C:=M.int
   obtain ⟨p,c,z,hc,H,hp⟩:=A.Ey
   rw [H]at D
   have g:0≤t.den ρ:=g
   obtain ⟨m,u⟩:∃m:Nat,t.den ρ=(m:Int):=⟨(t.den ρ).toNat,by omega⟩
   have d:m<(ρ.lst j).length:=by omega
   obtain ⟨r,δ,cs,ty,rfl,X,k2⟩:=hp (by omega)
   have hs:=Bx (w:=w) R
   obtain ⟨ps,hps⟩:∃ps,(ρ.lst j)[m]?=some ps:=⟨_,List.getElem?_eq_getElem d⟩
   refine ⟨.pointer (some ⟨r,δ+m*n,none⟩),?_,?_⟩
   ·rw [u]at C
    simp [execOp,O,z,C,Instr.indexAt,asIntOf,run_underlying Q,hs,d,Addr.Bh,Nat.add_assoc]
   ·simp only [Ag]
    refine ⟨r,δ+m*n,cs,ty,ps,rfl,X,g,?_,(k2.get m ps hps).2⟩
    rw [u];exact hps
  ·cases h
 ·rename_i b y len cap hb
  rw [hb]at A
  obtain ⟨r,δ,m,u,z,_⟩:=A.slice
  exact key _ _ _ _ _ _ _ h u z
 ·rename_i b y len cap hb
  rw [hb]at A
  obtain ⟨r,δ,m,c,u,z,_⟩:=A.gslice
  exact key _ _ _ _ _ _ _ h u z
 ·cases h
theorem R6 {o:Oper} {t e:TypeId} {x i:Operand} {len:Nat} (D:o.op=.indexAddr t x i) (u:Ba ρ μ tm a) {n:Nat} (H:P.underlying t=some (.array len e)) (M:Bf P e=some n) {v:Aa}
  (h:Ry len n (ev tm (AF x)) (CN (ev tm (AF i)))=some v):Bu P ρ μ a o w v:=by
 have d:=Aq u x
 have J:=Aq u i
 unfold Ry at h
 split at h
 ·rename_i b g hb
  obtain ⟨j,z,h⟩:=Ac h
  obtain ⟨c,h⟩:=Ao h
  simp only [oI]at h
  subst h
  rw [hb]at d
  obtain ⟨r,δ,m,C,A⟩:=d.ptr
  obtain ⟨k,y⟩:=Cy z J
  have hs:=Bx (w:=w) M
  have c:=I6.1 c
  refine ⟨.pointer (some ⟨r,δ+(g+j*n),none⟩),?_,?_⟩
  ·simp [execOp,D,A,y,Instr.indexAt,asIntOf,run_underlying H,hs,c,Addr.Bh,Nat.add_assoc,Instr.sureAddr]
  ·simp only [Ag];exact ⟨r,δ,_,C,rfl⟩
 ·cases h
theorem Zh {o:Oper} {t e:TypeId} {x i:Operand} {len:Nat} (J:o.op=.index t x i) (u:Ba ρ μ tm a) {n:Nat} {d:Option Nat} (M:P.underlying t=some (.array len e)) (R:Bf P e=some n) (ha:Eg P e=some d) {v:Aa}
  (h:Ait len n d (ev tm (AF x)) (CN (ev tm (AF i)))=some v):Bu P ρ μ a o w v:=by
 have g:=Aq u x
 have O:=Aq u i
 unfold Ait at h
 split at h
 ·rename_i cs hb
  obtain ⟨j,C,h⟩:=Ac h
  obtain ⟨c,h⟩:=Ao h
  rw [hb]at g
  obtain ⟨y,D,A⟩:=g.agg
  obtain ⟨k,z⟩:=Cy C O
  have hs:=Bx (w:=w) R
  have c:=I6.1 c
  obtain ⟨N,Q,H⟩:=Nd (w:=w) ha A h
  refine ⟨N,?_,H⟩
  simp [execOp,J,D,z,Instr.index,asIntOf,run_underlying M,hs,c,Q]
 ·cases h
theorem VK {o:Oper} {t:TypeId} {x i:Operand} (J:o.op=.index t x i) (A:Ba ρ μ tm a) (M:P.underlying t=some .string) {v:Aa}
  (h:Ach (ev tm (AF x)) (CN (ev tm (AF i)))=some v):Bu P ρ μ a o w v:=by
 have y:=Aq A x
 have N:=Aq A i
 unfold Ach at h
 split at h
 ·rename_i s hb
  obtain ⟨j,D,h⟩:=Ac h
  obtain ⟨c,hc,h⟩:=Ac h
  simp only [oI]at h
  subst h
  rw [hb]at y
  obtain ⟨g,H,rfl⟩:=y.str
  obtain ⟨k,C⟩:=Cy D N
  rw [FK]at hc
  unfold strOf at hc
  rw [List.getElem?_map]at hc
  obtain ⟨u,d,rfl⟩:=mS hc
  have z:j<g.size:=by
   have:=(List.getElem?_eq_some_iff.1 d).1
   simpa using this
  refine ⟨.int .u8 u.toNat,?_,by simp only [Ag,ST.den];rfl⟩
  have hg:g[j]?=some u:=by
   rw [ByteArray.getElem?_lt' _ _ z]
   rw [Array.getElem?_toList]at d
   have:=(Array.getElem?_eq_some_iff.1 d).2
   rw [←this];rfl
  simp [execOp,J,H,C,Instr.index,asIntOf,run_underlying M,hg]
 ·cases h
theorem VI (H:Γ.AG ρ) {o:Oper} {t:TypeId} {x:Operand} {c:Call} (z:o.op=.call c) (j:c.callee=.builtin .len) (d:c.args=#[x]) (g:c.argTypes=#[t]) (M:Ba ρ μ tm a)
  (A:P.underlying t=some .string) {v:Aa} (h:AbZ Γ (ev tm (AF x))=some v):Bu P ρ μ a o w v:=by
 have k:=Aq M x
 unfold AbZ at h
 split at h
 ·rename_i i hb
  obtain ⟨r,N,h⟩:=Ac h
  simp only [oI]at h
  subst h
  rw [hb]at k
  obtain ⟨u,y,D⟩:=k.svar
  refine ⟨.int .i64 u.size,?_,?_⟩
  ·simp [execOp,z,resolve,j,d,g,invoke,builtin,y,Builtin.len_,run_underlying A,goInt]
  ·have J:=KN N
   have C:=(H.BB _ J).1
   simp only [Ag]
   rw [show (i,r).2.1=r.1 from rfl]at C
   rw [C,←D,BG]
 ·rename_i s hb
  simp only [oI]at h
  subst h
  rw [hb]at k
  obtain ⟨u,y,rfl⟩:=k.str
  refine ⟨.int .i64 u.size,?_,?_⟩
  ·simp [execOp,z,resolve,j,d,g,invoke,builtin,y,Builtin.len_,run_underlying A,goInt]
  ·simp only [lit,Ag,ST.den];rw [Dq,BG];rfl
 ·rename_i n hb
  simp only [oI]at h
  subst h
  rw [hb]at k
  obtain ⟨u,y,_⟩:=k.anyStr
  refine ⟨.int .i64 u.size,?_,trivial⟩
  simp [execOp,z,resolve,j,d,g,invoke,builtin,y,Builtin.len_,run_underlying A,goInt]
 ·cases h
theorem VJ {o:Oper} {t e:TypeId} {x:Operand} {c:Call} (z:o.op=.call c) (j:c.callee=.builtin .len) (d:c.args=#[x]) (g:c.argTypes=#[t]) (N:Ba ρ μ tm a)
  (A:P.underlying t=some (.slice e)) {v:Aa} (h:Aca (ev tm (AF x))=some v):Bu P ρ μ a o w v:=by
 have u:=Aq N x
 unfold Aca at h
 split at h
 ·rename_i b D n cap hb
  simp only [oI]at h
  subst h
  rw [hb]at u
  obtain ⟨r,δ,m,_,y,_⟩:=u.slice
  refine ⟨.int .i64 n,?_,?_⟩
  ·simp [execOp,z,resolve,j,d,g,invoke,builtin,y,Builtin.len_,run_underlying A,goInt]
  ·simp only [lit,Ag,ST.den];rfl
 ·rename_i b D n cap hb
  simp only [oI]at h
  subst h
  rw [hb]at u
  obtain ⟨r,δ,m,H,_,y,_⟩:=u.gslice
  refine ⟨.int .i64 n,?_,?_⟩
  ·simp [execOp,z,resolve,j,d,g,invoke,builtin,y,Builtin.len_,run_underlying A,goInt]
  ·simp only [lit,Ag,ST.den];rfl
 ·rename_i hb
  simp only [oI]at h
  subst h
  rw [hb]at u
  have y:a.eval x=.slice none 0 0:=by simpa only [Ag]using u
  refine ⟨.int .i64 0,?_,?_⟩
  ·simp [execOp,z,resolve,j,d,g,invoke,builtin,y,Builtin.len_,run_underlying A,goInt]
  ·simp only [lit,Ag,ST.den];rfl
 ·rename_i b hb
  simp only [oI]at h
  subst h
  rw [hb]at u
  obtain ⟨r,m,J,y,_⟩:=u.gbytes
  refine ⟨.int .i64 (BN m:Nat),?_,?_⟩
  ·simp [execOp,z,resolve,j,d,g,invoke,builtin,y,Builtin.len_,run_underlying A,goInt]
  ·simp only [Ag];exact ⟨r,m,J,rfl⟩
 ·rename_i f i M n hb
  simp only [oI]at h
  subst h
  rw [hb]at u
  obtain ⟨p,H,y,_,C,_⟩:=u.Ey
  refine ⟨.int .i64 (ρ.lst i).length,?_,?_⟩
  ·simp [execOp,z,resolve,j,d,g,invoke,builtin,y,Builtin.len_,run_underlying A,goInt]
  ·simp only [Ag];rw [C]
 ·rename_i b M n hb
  simp only [oI]at h
  subst h
  rw [hb]at u
  obtain ⟨r,m,k,_,y,C,_⟩:=u.vec
  refine ⟨.int .i64 k,?_,?_⟩
  ·simp [execOp,z,resolve,j,d,g,invoke,builtin,y,Builtin.len_,run_underlying A,goInt]
  ·simp only [Ag];rw [C]
 ·cases h
theorem O1 (ts:Array TypeId) (t:TypeId) (l c:Nat):Builtin.unsafeSliceData_ ts t #[.slice none l c]=pure (.pointer none):=rfl
theorem MG (ts:Array TypeId) (t:TypeId) (p:Addr) (l c:Nat) (hc:c≠0):Builtin.unsafeSliceData_ ts t #[.slice (some p) l c]=pure (.pointer (some p)):=by
 have:Builtin.unsafeSliceData_ ts t #[.slice (some p) l c]=(if c≠0 then pure (.pointer (some p))else (viewAt p.block>>=fun v=>if v.isSome then pure (.pointer (some p))else (elemOf t>>=fun e=>newObj (.view p e)>>=fun n=>pure (.pointer (some ⟨n,0,none⟩))))):=rfl
 rw [this,if_pos hc]
theorem T8 {o:Oper} {x:Operand} {c:Call} (u:o.op=.call c) (g:c.callee=.builtin .unsafeSliceData) (d:c.args=#[x]) (z:Ba ρ μ tm a)
  {v:Aa} (h:UR (ev tm (AF x))=some v):Bu P ρ μ a o w v:=by
 have j:=Aq z x
 unfold UR at h
 split at h
 ·rename_i hb
  simp only [oI]at h
  subst h
  rw [hb]at j
  have k:a.eval x=.slice none 0 0:=by simpa only [Ag]using j
  refine ⟨.pointer none,?_,by simp only [Ag]⟩
  simp [execOp,u,resolve,g,d,invoke,builtin,k,O1]
 ·rename_i b hb
  simp only [oI]at h
  subst h
  rw [hb]at j
  obtain ⟨r,m,y,k,C,A⟩:=j.gbytes
  refine ⟨.pointer (some ⟨r,0,none⟩),?_,by simp only [Ag];exact ⟨r,0,m,y,rfl⟩⟩
  have hc:¬BZ m=0:=by omega
  simp [execOp,u,resolve,g,d,invoke,builtin,k,MG _ _ _ _ _ hc]
 ·cases h
end
end Go.AM
end
section
namespace Go.AM
section
variable {P:Program} {Γ:An} {ρ:Env} {μ:Ap} {tm:Tr Aa} {a:Act} {w:World}
theorem HW (c:Nat):∀(l:List Value) (k:Nat) (cells:Array Value),c+k+l.length≤cells.size→
  ((l.zipIdx k).foldl (fun (cs:Array Value) (x:Value×Nat)=>cs.setIfInBounds (c+x.2) x.1) cells).size=cells.size∧
  ∀i,((l.zipIdx k).foldl (fun (cs:Array Value) (x:Value×Nat)=>cs.setIfInBounds (c+x.2) x.1) cells)[i]?=if c+k≤i∧i<c+k+l.length then l[i-(c+k)]? else cells[i]?
 |[],k,cells,h=>⟨rfl,fun i=>by rw [if_neg (by simp only [lN];omega)];rfl⟩
 |v::l,k,cells,h=>by
  simp only [lC]at h
  rw [List.zipIdx_cons,List.foldl_cons]
  obtain ⟨d,g⟩:=HW c l (k+1) (cells.setIfInBounds (c+k) v) (by simp;omega)
  refine ⟨by rw [d];simp,fun i=>?_⟩
  rw [g i]
  simp only [lC]
  by_cases hi:c+k=i
  ·subst hi
   rw [if_neg (by omega),if_pos (by omega),Array.getElem?_setIfInBounds_self_of_lt (by omega)]
   simp
  ·by_cases hj:c+(k+1)≤i∧i<c+(k+1)+l.length
   ·rw [if_pos hj,if_pos (by omega)]
    have:i-(c+k)=(i-(c+(k+1)))+1:=by omega
    rw [this,List.getElem?_cons_succ]
   ·rw [if_neg hj,if_neg (by omega),Array.getElem?_setIfInBounds_ne hi]
theorem Zj (c:Nat) (v cells:Array Value) (h:c+v.size≤cells.size):
  (v.zipIdx.foldl (fun (cs:Array Value) (x:Value×Nat)=>cs.setIfInBounds (c+x.2) x.1) cells).size=cells.size∧
  ∀i,(v.zipIdx.foldl (fun (cs:Array Value) (x:Value×Nat)=>cs.setIfInBounds (c+x.2) x.1) cells)[i]?=if c≤i∧i<c+v.size then v[i-c]? else cells[i]?:=by
 have:=HW c v.toList 0 cells (by simpa using h)
 rw [←Array.foldl_toList,Array.toList_zipIdx]
 simpa using this
theorem Aw.spliced {vs cs r:List Aa} {x y:Array Value} {c:Nat} (g:Aw ρ μ cs x.toList) (d:Aw ρ μ vs y.toList) (h:splice vs c cs=some r):
  c+y.size≤x.size∧∀z:Array Value,z.size=x.size→(∀i,z[i]?=if c≤i∧i<c+y.size then y[i-c]? else x[i]?)→Aw ρ μ r z.toList:=by
 obtain ⟨k,C,j⟩:=HG h
 have A:cs.length=x.size:=by simpa using g.length
 have o:vs.length=y.size:=by simpa using d.length
 refine ⟨by omega,fun z u hg=>Aw.KJ (by rw [k,A,←u];simp) fun i b hb=>?_⟩
 rw [j i]at hb
 rw [Array.getElem?_toList,hg i]
 rw [o]at hb
 split at hb
 ·rename_i hc
  rw [if_pos hc]
  simpa using d.get hb
 ·rename_i hc
  rw [if_neg hc]
  simpa using g.get hb
theorem OG {cs r:List Aa} {x:Array Value} {v:Aa} {u:Value} {c size:Nat} (o:Aw ρ μ cs x.toList) (hv:Ag ρ μ v u) (h:FR cs v c size=some r):
  u.cells.size=size∧c+u.cells.size≤x.size∧∀z:Array Value,z.size=x.size→(∀i,z[i]?=if c≤i∧i<c+u.cells.size then u.cells[i-c]? else x[i]?)→Aw ρ μ r z.toList:=by
 unfold FR at h
 obtain ⟨vs,g,h⟩:=Ac h
 obtain ⟨hl,h⟩:=Ao h
 have d:=hv.cells g
 obtain ⟨j,k⟩:=o.spliced d h
 refine ⟨?_,j,k⟩
 have:=Al.1 hl
 rw [Ka]at this
 rw [←this]
 simpa using d.length.symm
theorem GO (k:Ba ρ μ tm a):∀{parts:List (Nat×Operand)} {ps:List (Nat×Nat×CB)} {c place':Nat→Option (Nat×Nat)} {cs r:List Aa} {x:Array Value},
  partsOf c parts=some ps→(∀i y,c i=some y→place' i=some y)→Aw ρ μ cs x.toList→Ia tm ps cs=some r→
  ∃z:Array Value,Instr.fill place' x (parts.map fun p=>(p.1,a.eval p.2))=some z∧Aw ρ μ r z.toList
 |[],ps,c,place',cs,r,x,hp,hpl,hx,h=>by
  simp only [partsOf,oI]at hp
  subst hp
  have h:some cs=some r:=h
  simp only [oI]at h
  subst h
  exact ⟨x,rfl,hx⟩
 |(i,y)::parts,ps,c,place',cs,r,x,hp,hpl,hx,h=>by
  simp only [partsOf]at hp
  split at hp
  ·rename_i d size g J C
   simp only [oI]at hp
   subst hp
   have h:(AB (FR cs (ev tm (AF y)) d size) (Ia tm g))=some r:=h
   obtain ⟨N,hc,h⟩:=Ac h
   obtain ⟨O,o,u⟩:=OG hx (Aq k y) hc
   obtain ⟨D,H⟩:=Zj d (a.eval y).cells x o
   have j:=u _ D H
   obtain ⟨z,A,M⟩:=GO k C hpl j h
   refine ⟨z,?_,M⟩
   simp only [List.map_cons,Instr.fill,hpl i _ J]
   rw [if_neg (by simp;omega)]
   exact A
  ·cases hp
theorem E9 {t:TypeId} {cs:List Aa} (h:H8 P t=some cs):∃v,(zeroValue t).run P w=.ok v w∧Aw ρ μ cs v.cells.toList:=by
 unfold H8 at h
 cases e:P.info? t with
 |none=>rw [e]at h;cases h
 |some i=>
  rw [e]at h
  simp only at h
  obtain ⟨v,hv,h⟩:=Option.bind_eq_some_iff.1 h
  obtain ⟨c,hc,h⟩:=Option.bind_eq_some_iff.1 h
  split at h
  ·simp only [oI]at h
   subst h
   exact ⟨v,by simp [zeroValue,typeInfo,e,hv],(Dm v).cells hc⟩
  ·cases h
theorem Hl:∀(fs:List Field),fs.all (fun f=>(P.info? f.type).isSome)=true→
  (fs.mapM fun f=>Functor.map (Prod.mk f.offset) (sizeOf f.type)).run P w=.ok (fs.map fun f=>(f.offset,P.cellsOf f.type)) w
 |[],_=>by simp
 |f::fs,h=>by
  simp only [List.all_cons,aT]at h
  obtain ⟨i,c⟩:=Option.isSome_iff_exists.1 h.1
  have hs:(sizeOf f.type).run P w=.ok i.size w:=by simp [sizeOf,typeInfo,c]
  simp [List.mapM_cons,Hl fs h.2,hs,Program.cellsOf,c]
theorem Js {o:Oper} {t:TypeId} {parts:Array (Nat×Operand)} (A:o.op=.build t parts) (D:Ba ρ μ tm a) {fs:Array Field} {z:List Aa} {ps:List (Nat×Nat×CB)}
  (Q:P.underlying t=some (.struct fs)) (J:H8 P t=some z) (g:fs.all (fun f=>(P.info? f.type).isSome)=true)
  (R:partsOf (fun i=>(fs[i]?).bind fun f=>(Bf P f.type).map fun n=>(f.offset,n)) parts.toList=some ps) {v:Aa} (h:Oa (Ia tm ps z)=some v):Bu P ρ μ a o w v:=by
 obtain ⟨H,C,u⟩:=E9 (w:=w) (ρ:=ρ) (μ:=μ) J
 unfold Oa at h
 obtain ⟨r,U,h⟩:=Ac h
 simp only [oI]at h
 subst h
 have j:∀i y,((fs[i]?).bind fun (f:Field)=>(Bf P f.type).map fun n=>(f.offset,n))=some y→(fs.map fun f=>(f.offset,P.cellsOf f.type))[i]?=some y:=fun i y e=>by
  obtain ⟨f,hf,e⟩:=Option.bind_eq_some_iff.1 e
  obtain ⟨n,k,e⟩:=mS e
  rw [Array.getElem?_map,hf,←e]
  unfold Bf at k
  simp [Program.cellsOf,k]
 obtain ⟨x,M,hc⟩:=GO D R j u U
 refine ⟨.agg x,?_,by simp only [Ag];exact ⟨x,rfl,hc⟩⟩
 have c:fs.toList.all (fun f=>(P.info? f.type).isSome)=true:=by rw [←g];simp
 have N:=Hl (w:=w) fs.toList c
 have O:(parts.map fun x=>(x.1,a.eval x.2)).toList=parts.toList.map fun p=>(p.1,a.eval p.2):=by simp
 have d:Instr.fill (fun i=>(fs.map fun f=>(f.offset,P.cellsOf f.type))[i]?) H.cells ((parts.map fun x=>(x.1,a.eval x.2)).toList)=some x:=by rw [O];exact M
 simp [execOp,A,Instr.build,C,run_underlying Q,Array.mapM_eq_mapM_toList,N]
 simp at d
 rw [d]
 simp
theorem Kf {o:Oper} {t e:TypeId} {len n:Nat} {parts:Array (Nat×Operand)} (g:o.op=.build t parts) (k:Ba ρ μ tm a) {z:List Aa} {ps:List (Nat×Nat×CB)}
  (H:P.underlying t=some (.array len e)) (A:H8 P t=some z) (N:Bf P e=some n)
  (J:partsOf (fun i=>some (i*n,n)) parts.toList=some ps) {v:Aa} (h:Oa (Ia tm ps z)=some v):Bu P ρ μ a o w v:=by
 obtain ⟨u,j,d⟩:=E9 (w:=w) (ρ:=ρ) (μ:=μ) A
 unfold Oa at h
 obtain ⟨r,M,h⟩:=Ac h
 simp only [oI]at h
 subst h
 obtain ⟨x,C,hc⟩:=GO (place':=fun i=>some (i*n,n)) k J (fun i y e=>e) d M
 refine ⟨.agg x,?_,by simp only [Ag];exact ⟨x,rfl,hc⟩⟩
 have D:(parts.map fun x=>(x.1,a.eval x.2)).toList=parts.toList.map fun p=>(p.1,a.eval p.2):=by simp
 have c:Instr.fill (fun i=>some (i*n,n)) u.cells ((parts.map fun x=>(x.1,a.eval x.2)).toList)=some x:=by rw [D];exact C
 have hs:=Bx (w:=w) N
 simp [execOp,g,Instr.build,j,run_underlying H,hs]
 simp at c
 rw [c]
 simp
theorem JG (b c:ByteArray):strOf (b++c)=strOf b++strOf c:=by simp [strOf,ByteArray.data_append]
theorem Aaa {x:Aa} {b:ByteArray} (h:Et ρ x=some (strOf b)):Ag ρ μ x (.string b):=by
 cases x<;>simp only [Et,oI,reduceCtorEq]at h
 case str=>simp only [Ag];exact ⟨b,rfl,h.symm⟩
 case svar=>simp only [Ag];exact ⟨b,rfl,h.symm⟩
theorem J4 {o:Oper} {op:BinOp} {t J:TypeId} {x y:Operand} (D:o.op=.binOp op t x y J) (A:Γ.AG ρ) {X Y:Aa} (C:Ag ρ μ X (a.eval x)) (H:Ag ρ μ Y (a.eval y)) {v:Aa} (h:AcK Γ op X Y=some v):Bu P ρ μ a o w v:=by
 unfold AcK at h
 split at h
 ·obtain ⟨b,hb,h⟩:=Ac h
  simp only [oI]at h
  subst h
  obtain ⟨s,u,z,k,c⟩:=A.strs _ (Gt hb)
  obtain ⟨d,j,rfl⟩:=BS z C
  obtain ⟨b2,g,rfl⟩:=BS k H
  have c:b=decide (strOf d=strOf b2):=c
  refine ⟨.bool (d.toList==b2.toList),?_,?_⟩
  ·simp only [execOp,D,j,g,eqGuard_at_string,binOp,Op.stringOp,Sem.run_bind,Sem.run_pure,Result.andThen_ok]
  ·simp only [Ag,SB.den]
   rw [←CT,c]
   congr 1
   rw [Bool.eq_iff_iff,DF];simp
 ·obtain ⟨b,hb,h⟩:=Ac h
  simp only [oI]at h
  subst h
  obtain ⟨s,u,z,k,c⟩:=A.strs _ (Gt hb)
  obtain ⟨d,j,rfl⟩:=BS z C
  obtain ⟨b2,g,rfl⟩:=BS k H
  have c:b=decide (strOf d=strOf b2):=c
  refine ⟨.bool (!(d.toList==b2.toList)),?_,?_⟩
  ·simp only [execOp,D,j,g,eqGuard_at_string,binOp,Op.stringOp,Sem.run_bind,Sem.run_pure,Result.andThen_ok]
  ·simp only [Ag,SB.den]
   rw [←CT,c]
   congr 2
   rw [Bool.eq_iff_iff,DF];simp
 ·obtain ⟨s,u,z,k,c,M⟩:=A.EV _ (PE h)
  obtain ⟨d,j,rfl⟩:=BS z C
  obtain ⟨b2,g,rfl⟩:=BS k H
  refine ⟨.string (d++b2),?_,Aaa (by rw [JG];exact c)⟩
  rw [BG,BG]at M
  have N:¬(((d.size+b2.size:Nat):Int)>IntKind.i64.max):=by
   have:IntKind.i64.max=9223372036854775807:=by decide
   rw [this];omega
  simp only [execOp,D,j,g,eqGuard_at_string,binOp,Op.stringOp,Sem.run_bind,Sem.run_pure,Result.andThen_ok]
  rw [if_neg N]
  rfl
 ·cases h
theorem PN {o:Oper} {op:BinOp} {t Q:TypeId} {x y:Operand} (j:o.op=.binOp op t x y Q) (z:Γ.AG ρ) (N:Ba ρ μ tm a) {v:Aa} (h:AiH Γ op (ev tm (AF x)) (ev tm (AF y))=some v):Bu P ρ μ a o w v:=by
 have g:=Aq N x
 have d:=Aq N y
 unfold AiH at h
 split at h
 ·rename_i k m J n hb hc
  rw [hb]at g
  rw [hc]at d
  have A:=g.int
  have u:=d.int
  unfold AmB at h
  cases hs:Ec op with
  |true=>
   rw [hs]at h
   simp only [cond_true]at h
   unfold AaN at h
   split at h
   ·rename_i p q
    obtain ⟨r,U,h⟩:=Ac h
    simp only [oI]at h
    subst h
    refine ⟨.int k r,?_,by simp only [Ag,ST.den]⟩
    have C:=JM (yk:=J) U
    cases op<;>simp only [Ec,Bool.false_eq_true]at hs<;>simp [execOp,j,A,u,ST.den,eqGuard_at_int,binOp,C]
   ·unfold AaM at h
    obtain ⟨M,h⟩:=Ao h
    simp only [oI]at h
    subst h
    refine ⟨.int k (DK op k (m.den ρ) (n.den ρ)),?_,by simp only [Ag];rw [KK z];rfl⟩
    have C:=SU (k:=k) (yk:=J) (x:=m.den ρ) hs (O5 z M)
    cases op<;>simp only [Ec,Bool.false_eq_true]at hs<;>simp [execOp,j,A,u,eqGuard_at_int,binOp,C]
  |false=>
   rw [hs]at h
   simp only [cond_false]at h
   cases hk:VA k J with
   |false=>rw [hk]at h;simp at h
   |true=>
    have O:=Dt.1 hk
    subst O
    rw [hk]at h
    simp only [Bool.not_true,cond_false]at h
    cases hcm:FO op with
    |true=>
     rw [hcm]at h
     simp only [cond_true]at h
     obtain ⟨s,D,h⟩:=Ac h
     simp only [oI]at h
     subst h
     have hd:=(CU z D).1
     refine ⟨.bool (EK op (m.den ρ) (n.den ρ)),?_,by simp only [Ag];rw [hd]⟩
     simp [execOp,j,A,u,eqGuard_at_int,Zy hcm]
    |false=>
     rw [hcm]at h
     simp only [cond_false]at h
     obtain ⟨s,D,h⟩:=Ac h
     simp only [oI]at h
     subst h
     obtain ⟨hd,R,_,_⟩:=Io z D
     refine ⟨.int k (DK op k (m.den ρ) (n.den ρ)),?_,by simp only [Ag];rw [hd]⟩
     simp [execOp,j,A,u,eqGuard_at_int,Ue R hcm hs]
 ·rename_i s X hb hc
  rw [hb]at g
  rw [hc]at d
  obtain ⟨b,A,rfl⟩:=g.str
  obtain ⟨c,u,rfl⟩:=d.str
  cases op
  case add=>
   simp only [Uz]at h
   obtain ⟨H,h⟩:=Ao h
   have H:=AR.1 H
   simp only [oI]at h
   subst h
   refine ⟨.string (b++c),?_,by simp only [Ag];exact ⟨_,rfl,JG _ _⟩⟩
   rw [Dq,Dq,BG,BG]at H
   have M:¬(((b.size+c.size:Nat):Int)>IntKind.i64.max):=by
    have:IntKind.i64.max=9223372036854775807:=by decide
    rw [this];omega
   simp only [execOp,j,A,u,eqGuard_at_string,binOp,Op.stringOp,Sem.run_bind,Sem.run_pure,Result.andThen_ok]
   rw [if_neg M]
   rfl
  all_goals
   simp only [Uz,oI,reduceCtorEq]at h<;>subst h<;>
   refine ⟨_,by simp only [execOp,j,A,u,eqGuard_at_string,binOp,Op.stringOp,Sem.run_bind,Sem.run_pure,Result.andThen_ok];rfl,by simp only [Ag,SB.den,CT,Aab]⟩
 ·rename_i hb hc
  rw [hb]at g
  rw [hc]at d
  exact J4 j z g d h
 ·rename_i hb hc
  rw [hb]at g
  rw [hc]at d
  exact J4 j z g d h
 ·rename_i hb hc
  rw [hb]at g
  rw [hc]at d
  exact J4 j z g d h
 ·cases h
theorem Ack {o:Oper} {op:UnOp} {t:TypeId} {x:Operand} (d:o.op=.unOp op t x) (g:Γ.AG ρ) (u:Ba ρ μ tm a) {v:Aa} (h:unA Γ op (ev tm (AF x))=some v):Bu P ρ μ a o w v:=by
 have c:=Aq u x
 unfold unA at h
 split at h
 ·rename_i k n hb
  rw [hb]at c
  have e:=c.int
  obtain ⟨s,hs,h⟩:=Ac h
  simp only [oI]at h
  subst h
  obtain ⟨hd,_⟩:=Io g hs
  refine ⟨.int k (s.den ρ),?_,by simp only [Ag]⟩
  rw [hd]
  simp [execOp,d,e,unary_neg,Op.intArith,DK,ST.den]
 ·rename_i k n hb
  rw [hb]at c
  have e:=c.int
  obtain ⟨s,hs,h⟩:=Ac h
  simp only [oI]at h
  subst h
  obtain ⟨hd,_⟩:=Io g hs
  refine ⟨.int k (s.den ρ),?_,by simp only [Ag]⟩
  rw [hd]
  have j:((.lit (bif Ix k then Int.negSucc 0 else Int.ofNat (modulus k-1)):ST).den ρ)=if k.signed then -1 else k.max:=by
   cases k<;>rfl
  rw [j]
  simp [execOp,d,e,unary_xor,intBits_xor,DK]
 ·rename_i b hb
  rw [hb]at c
  have e:=c.bool
  simp only [oI]at h
  subst h
  exact ⟨.bool (!b),by simp [execOp,d,e,unary_not,SB.den],by simp only [Ag,SB.den]⟩
 ·rename_i b _ hb
  rw [hb]at c
  have e:=c.bool
  simp only [oI]at h
  subst h
  exact ⟨.bool (!(b.den ρ)),by simp [execOp,d,e,unary_not],by simp only [Ag,SB.den]⟩
 ·cases h
theorem VN {o:Oper} {s d:TypeId} {j k:IntKind} {x:Operand} (y:o.op=.convert s d x) (g:Γ.AG ρ) (u:Ba ρ μ tm a) (hs:P.underlying s=some (.int j)) (hd:P.underlying d=some (.int k))
  {v:Aa} (h:AcB Γ k (ev tm (AF x))=some v):Bu P ρ μ a o w v:=by
 have c:=Aq u x
 unfold AcB at h
 split at h
 ·rename_i z n hb
  rw [hb]at c
  have e:=c.int
  simp only [oI]at h
  subst h
  refine ⟨.int k (k.wrap (n.den ρ)),?_,by simp only [Ag];rw [OO g]⟩
  simp [execOp,y,e,Go.convert,run_underlying hs,run_underlying hd,Conv.intToInt]
 ·cases h
theorem VF {o:Oper} {s d:TypeId} {x:Operand} (u:o.op=.convert s d x) (k:Ba ρ μ tm a) (hs:P.underlying s=some .string) (hd:P.underlying d=some .string)
  {v:Aa} (h:AaT (ev tm (AF x))=some v):Bu P ρ μ a o w v:=by
 have g:=Aq k x
 unfold AaT at h
 split at h
 ·rename_i c hb
  rw [hb]at g
  simp only [oI]at h
  subst h
  have j:=g
  obtain ⟨b,e,_⟩:=g.str
  refine ⟨a.eval x,?_,j⟩
  simp [execOp,u,e,Go.convert,run_underlying hs,run_underlying hd]
 ·cases h
theorem Od {Γ:An} (C:Γ.AG ρ) (most:Bool):∀{M:List Aa} {x v:Aa} {us:List Value} {u:Value},Ag ρ μ x u→A7 ρ μ M us→Aff Γ most M x=some v→
  ∃o,(us.foldlM (if most then Builtin.max2 else Builtin.min2) u).run P w=.ok o w∧Ag ρ μ v o
 |[],x,v,us,u,hu,hs,h=>by
  simp only [A7]at hs
  subst hs
  have h:some x=some v:=h
  simp only [oI]at h
  subst h
  exact ⟨u,by simp,hu⟩
 |y::ys,x,v,us,u,hu,hs,h=>by
  simp only [A7]at hs
  obtain ⟨u',rest,rfl,O,hr⟩:=hs
  have J:AB (Wq Γ most x y) (Aff Γ most ys)=some v:=h
  clear h
  obtain ⟨z,g,j⟩:=Ac J
  clear J
  unfold Wq at g
  split at g
  ·rename_i k m k' n
   obtain ⟨Z,d⟩:=Ao g
   have Q:=Dt.1 Z
   subst Q
   split at d
   case h_2=>cases d
   rename_i c A
   simp only [oI]at d
   have g:=d
   have R:=hu.int
   have N:=O.int
   subst R N
   have H:c=(bif most then decide (m.den ρ<n.den ρ)else decide (n.den ρ<m.den ρ)):=by
    cases most with
    |true=>exact (CU C A).1
    |false=>exact (CU C A).1
   have D:Ag ρ μ z (.int k (bif c then n.den ρ else m.den ρ)):=by rw [←g];cases c<;>simp only [Ag,cond_true,cond_false]
   obtain ⟨o,X,U⟩:=Od C most D hr j
   subst H
   generalize m.den ρ=m at*
   generalize n.den ρ=n at*
   refine ⟨o,?_,U⟩
   rw [←X,List.foldlM_cons]
   cases most
   ·simp only [Bool.false_eq_true,if_false,cond_false,Sem.run_bind]
    simp only [Builtin.min2,Sem.run_pure,Result.andThen_ok]
    congr 2
    by_cases hc:n<m<;>simp [hc]
   ·simp only [if_true,cond_true,Sem.run_bind]
    simp only [Builtin.max2,Sem.run_pure,Result.andThen_ok]
    congr 2
    by_cases hc:m<n<;>simp [hc]
  ·cases g
theorem PO {Γ:An} (A:Γ.AG ρ) {o:Oper} {g:List Operand} {c:Call} {most:Bool} (z:o.op=.call c) (d:c.callee=.builtin (if most then .max else .min)) (j:c.args.toList=g) (y:Ba ρ μ tm a)
  {v:Aa} (h:AmC Γ most (So tm (Cg g))=some v):Bu P ρ μ a o w v:=by
 cases g with
 |nil=>have h:none=some v:=h;cases h
 |cons x g=>
  have h:Aff Γ most (So tm (Cg g)) (ev tm (AF x))=some v:=h
  obtain ⟨u,k,C⟩:=Od (P:=P) (w:=w) A most (Aq y x) (Gv y g) h
  refine ⟨u,?_,C⟩
  cases most
  ·have d:c.callee=.builtin .min:=d
   have k:Sem.run P (List.foldlM Builtin.min2 (a.eval x) (List.map a.eval g)) w=.ok u w:=k
   simp [execOp,z,resolve,d,invoke,builtin,Builtin.min_,j,k]
  ·have d:c.callee=.builtin .max:=d
   have k:Sem.run P (List.foldlM Builtin.max2 (a.eval x) (List.map a.eval g)) w=.ok u w:=k
   simp [execOp,z,resolve,d,invoke,builtin,Builtin.max_,j,k]
end
end Go.AM
end
section
namespace Go.AM
section
variable {P:Program} {Γ:An} {ρ:Env} {μ:Ap} {tm:Tr Aa} {a:Act} {w:World}
theorem PG {o:Option SB} {v:Bool} (h:Aio o=some v):o=some (.lit v):=by
 unfold Aio at h
 split at h
 ·simp only [oI]at h;rw [h]
 ·cases h
def LK.fits (k:LK) (d:TypeDesc):Prop:=
 match k with
 |.bool=>d=.bool
 |.int=>∃i,d=.int i
 |.str=>d=.string
theorem RS (H:Γ.AG ρ) {k:LK} {x y:Aa} {u v:Value} {b:Bool} (j:Ag ρ μ x u) (g:Ag ρ μ y v) (h:Jy Γ k x y=some b) {t:TypeId} {d:TypeDesc} (o:P.underlying t=some d) (c:k.fits d) (n:Nat):
  (Op.equalIn (n+1) t u v).run P w=.ok b w:=by
 unfold Jy at h
 split at h
 ·rename_i O m Z U
  obtain ⟨i,rfl⟩:=c
  obtain ⟨D,A⟩:=Ao h
  clear h
  have M:=Dt.1 D
  subst M
  have hc:=(CU H (PG A)).1
  rw [j.int,g.int,run_equalIn_int w n t O i _ _ o]
  simp only [SB.den,EK]at hc
  rw [hc]
 ·rename_i p q
  have c:d=.bool:=c
  subst c
  simp only [oI]at h
  rw [j.bool,g.bool]
  simp only [SB.den]
  rw [run_equalIn_bool' w n t p q o,←h,beq_eq]
 ·rename_i p q
  have c:d=.string:=c
  subst c
  simp only [oI]at h
  obtain ⟨s,rfl,R⟩:=j.str
  obtain ⟨Q,rfl,J⟩:=g.str
  rw [run_equalIn_string w n t s Q o,←h,←R,←J,CT]
 all_goals first
  |(cases h;done)
  |(have c:d=.string:=c
    subst c
    obtain ⟨s,X,N,A,z⟩:=H.strs _ (Gt h)
    obtain ⟨C,rfl,rfl⟩:=BS N j
    obtain ⟨b2,rfl,rfl⟩:=BS A g
    have z:b=decide (strOf C=strOf b2):=z
    rw [run_equalIn_string w n t C b2 o,←CT,z]
    congr 1
    rw [Bool.eq_iff_iff,DF];simp)
theorem EU (cs ds:List Aa):∀(c d:List (Nat×LK)),Dj Γ cs ds (c++d)=AB (Dj Γ cs ds c) fun e=>bif e then Dj Γ cs ds d else some false
 |[],d=>rfl
 |o::c,d=>by
  show (AB (TS Γ cs ds o) fun e=>bif e then Dj Γ cs ds (c++d)else some false)=AB (AB (TS Γ cs ds o) fun e=>bif e then Dj Γ cs ds c else some false) _
  cases TS Γ cs ds o with
  |none=>rfl
  |some e=>
   cases e with
   |false=>rfl
   |true=>exact EU cs ds c d
theorem HJ (k:Nat) (x y:List (Nat×LK)):C8 k (x++y)=C8 k x++C8 k y:=by simp [C8]
theorem Hj (k j:Nat) (x:List (Nat×LK)):C8 k (C8 j x)=C8 (k+j) x:=by
 unfold C8;rw [List.map_map];apply List.map_congr_left;intro x _;simp [Nat.add_assoc]
theorem Oe {n:Nat} {l:List (Nat×LK)} (h:below n l=true):∀x∈l,x.1<n:=fun x c=>by
 unfold below at h
 have:=List.all_eq_true.1 h x c
 exact I6.1 this
structure Zz (X:Array Value) (base n:Nat) (Z:Array Value):Prop where
 cell:∀off,off<n→Z[off]?=X[base+off]?
 part:∀off m,off+m≤n→Z.extract off (off+m)=X.extract (base+off) (base+off+m)
theorem Zz.whole (X:Array Value) (n:Nat):Zz X 0 n X:=⟨fun c _=>by simp,fun c m _=>by simp⟩
theorem Zz.sub {X Z:Array Value} {d n:Nat} (h:Zz X d n Z) {c m:Nat} (j:c+m≤n):Zz X (d+c) m (Z.extract c (c+m)) where
 cell:=fun i o=>by
  rw [Array.getElem?_extract]
  by_cases hz:i<min (c+m) Z.size-c
  ·rw [if_pos hz,h.cell _ (by omega),Nat.add_assoc]
  ·rw [if_neg hz]
   have g:¬c+i<Z.size:=by omega
   have e:=h.cell (c+i) (by omega)
   rw [Array.getElem?_eq_none (by omega)]at e
   rw [Nat.add_assoc]
   exact e
 part:=fun i k u=>by
  rw [Array.extract_extract,show min (c+(i+k)) (c+m)=(c+i)+k by omega,h.part _ _ (by omega)]
  congr 1<;>omega
theorem Vx {d:Nat} {t:TypeId} {l:List (Nat×LK)} (h:leaves P d t=some l) (c:Eg P t=some none):∃j,l=[(0,j)]:=by
 cases d with
 |zero=>simp [leaves]at h
 |succ d=>
  simp only [leaves]at h
  split at h
  ·simp only [oI]at h;exact ⟨_,h.symm⟩
  ·simp only [oI]at h;exact ⟨_,h.symm⟩
  ·simp only [oI]at h;exact ⟨_,h.symm⟩
  ·rename_i fs g
   unfold Eg at c
   rw [g]at c
   cases e:P.info? t<;>rw [e]at c<;>simp at c
  ·rename_i k e g
   unfold Eg at c
   rw [g]at c
   cases e:P.info? t<;>rw [e]at c<;>simp at c
  ·cases h
theorem Wu {t:TypeId} {n:Nat} (g:Bf P t=some n) {d:Nat} {l:List (Nat×LK)} (h:leaves P d t=some l):Eg P t=some none∨Eg P t=some (some n):=by
 unfold Bf at g
 obtain ⟨i,j,e⟩:=mS g
 have c:∃u,P.underlying t=some u:=by
  cases c:P.underlying t with
  |some u=>exact ⟨u,rfl⟩
  |none=>
   cases d with
   |zero=>simp [leaves]at h
   |succ d=>simp [leaves,c]at h
 obtain ⟨u,c⟩:=c
 unfold Eg
 rw [c,j]
 cases u<;>simp [e]
theorem JO {t:TypeId} {X:Array Value} {c n:Nat} (o:Bf P t=some n):
  (∀m,Eg P t=some (some m)→(part t X c).run P w=.ok (.agg (X.extract c (c+m))) w)∧
  (Eg P t=some none→∀x,X[c]?=some x→(part t X c).run P w=.ok x w):=by
 refine ⟨fun m j=>?_,fun h x k=>?_⟩
 ·obtain ⟨d,g⟩:=E7 P w t j
  simp [part,d,g m rfl]
 ·obtain ⟨d,g⟩:=E7 P w t h
  simp [part,d,k]
structure Adu (P:Program) (X Y:Array Value) (base:Nat) (t:TypeId) (x y:Value):Prop where
 agg:∀n,Eg P t=some (some n)→∃X' Y',x=.agg X'∧y=.agg Y'∧Zz X base n X'∧Zz Y base n Y'
 one:Eg P t=some none→X[base]?=some x∧Y[base]?=some y
theorem JU {X Y X' R:Array Value} {cs ds:List Aa} (hX:Aw ρ μ cs X.toList) (hY:Aw ρ μ ds Y.toList) {d:Nat} {t:TypeId} {l:List (Nat×LK)} {m n c g k:Nat} {e:Bool}
  (J:Zz X c n X') (H:Zz Y c n R) (hl:leaves P d t=some l) (j:Bf P t=some m) (z:g+m≤n) (N:∀x∈l,x.1<m)
  (O:Dj Γ cs ds (C8 (c+g) l)=some e)
  (rec:∀(x y:Value),Adu P X Y (c+g) t x y→(Op.equalIn k t x y).run P w=.ok e w):
  ∃px U,(part t X' g).run P w=.ok px w∧(part t R g).run P w=.ok U w∧(Op.equalIn k t px U).run P w=.ok e w:=by
 rcases Wu j hl with ha|ha
 ·obtain ⟨lk,rfl⟩:=Vx hl ha
  have O:(AB (TS Γ cs ds (c+g+0,lk)) fun e=>bif e then some true else some false)=some e:=O
  obtain ⟨e',D,_⟩:=Ac O
  unfold TS at D
  obtain ⟨p,Q,D⟩:=Ac D
  obtain ⟨q,M,_⟩:=Ac D
  rw [KL]at Q M
  simp only [Nat.add_zero]at Q M
  obtain ⟨u,A,_,_⟩:=hX.get Q
  obtain ⟨v,C,_,_⟩:=hY.get M
  rw [Array.getElem?_toList]at A C
  have Z:=N _ (List.mem_singleton.2 rfl)
  simp only at Z
  refine ⟨u,v,(JO j).2 ha _ (by rw [J.cell _ (by omega)];exact A),(JO j).2 ha _ (by rw [H.cell _ (by omega)];exact C),rec u v ⟨fun n hn=>?_,fun _=>⟨A,C⟩⟩⟩
  rw [ha]at hn;cases hn
 ·refine ⟨_,_,(JO j).1 m ha,(JO j).1 m ha,rec _ _ ⟨fun n' o=>?_,fun h=>?_⟩⟩
  ·rw [ha]at o
   simp only [oI]at o
   subst o
   exact ⟨_,_,rfl,rfl,J.sub z,H.sub z⟩
  ·rw [ha]at h;cases h
theorem Mq {α:Type} {o:Option (List α)} {r:List (Option (List α))} {l:List α} (h:DJ (o::r)=some l):∃c d,o=some c∧DJ r=some d∧l=c++d:=by
 cases o with
 |none=>simp [DJ]at h
 |some c=>
  simp only [DJ]at h
  obtain ⟨d,g,j⟩:=mS h
  exact ⟨c,d,rfl,g,j.symm⟩
theorem Hw {t:TypeId} {d:TypeDesc} (g:P.underlying t=some d) (h:(∀fs,d≠.struct fs)∧∀k e,d≠.array k e) (c:(P.info? t).isSome=true):Eg P t=some none:=by
 obtain ⟨i,c⟩:=Option.isSome_iff_exists.1 c
 unfold Eg
 rw [g,c]
 cases d<;>first|rfl|(exact absurd rfl (h.1 _)) |(exact absurd rfl (h.2 _ _))
theorem info_of_underlying {t:TypeId} {d:TypeDesc} (c:P.underlying t=some d):(P.info? t).isSome=true:=by
 unfold Program.underlying at c
 cases e:P.info? t with
 |none=>rw [e]at c;cases c
 |some i=>rfl
theorem Uk {t:TypeId} {fs:Array Field} {n:Nat} (d:P.underlying t=some (.struct fs)) (c:Bf P t=some n):Eg P t=some (some n):=by
 unfold Bf at c
 obtain ⟨i,g,e⟩:=mS c
 unfold Eg
 rw [d,g]
 simp [e]
theorem Wv {t e:TypeId} {k n:Nat} (d:P.underlying t=some (.array k e)) (c:Bf P t=some n):Eg P t=some (some n):=by
 unfold Bf at c
 obtain ⟨i,g,e⟩:=mS c
 unfold Eg
 rw [d,g]
 simp [e]
theorem GK (hΓ:Γ.AG ρ) {X Y:Array Value} {cs ds:List Aa} (Q:Aw ρ μ cs X.toList) (hY:Aw ρ μ ds Y.toList):
  ∀(d:Nat) (t:TypeId) (ls:List (Nat×LK)),leaves P d t=some ls→∀(k A:Nat) (x y:Value) (b:Bool),d≤k→Adu P X Y A t x y→
   Dj Γ cs ds (C8 A ls)=some b→(Op.equalIn k t x y).run P w=.ok b w
 |0,t,ls,h,k,A,x,y,b,hk,hxy,C=>by simp [leaves]at h
 |d+1,t,ls,h,k,A,x,y,b,hk,hxy,C=>by
  obtain ⟨k,rfl⟩:∃k',k=k'+1:=⟨k-1,by omega⟩
  have z:∀(D:TypeDesc) (lk:LK),P.underlying t=some D→(∀fs,D≠.struct fs)∧(∀k e,D≠.array k e)→lk.fits D→ls=[(0,lk)]→(Op.equalIn (k+1) t x y).run P w=.ok b w:=fun D lk g ay hf hl=>by
   subst hl
   obtain ⟨hx,hy⟩:=hxy.one (Hw g ay (info_of_underlying g))
   have C:(AB (TS Γ cs ds (A+0,lk)) fun e=>bif e then some true else some false)=some b:=C
   obtain ⟨e,c,h2⟩:=Ac C
   have hb:e=b:=by cases e<;>simpa using h2
   subst hb
   unfold TS at c
   obtain ⟨p,hp,c⟩:=Ac c
   obtain ⟨q,hq,c⟩:=Ac c
   rw [KL]at hp hq
   simp only [Nat.add_zero]at hp hq
   obtain ⟨u,ae,_,aA⟩:=Q.get hp
   obtain ⟨v,Z,_,aC⟩:=hY.get hq
   rw [Array.getElem?_toList,hx]at ae
   rw [Array.getElem?_toList,hy]at Z
   simp only [oI]at ae Z
   subst ae Z
   exact RS hΓ aA aC c g hf k
  simp only [leaves]at h
  split at h
  ·rename_i g
   simp only [oI]at h
   exact z _ .bool g ⟨by simp,by simp⟩ rfl h.symm
  ·rename_i i g
   simp only [oI]at h
   exact z _ .int g ⟨by simp,by simp⟩ ⟨_,rfl⟩ h.symm
  ·rename_i g
   simp only [oI]at h
   exact z _ .str g ⟨by simp,by simp⟩ rfl h.symm
  ·
   rename_i fs g
   split at h
   ·cases h
   ·rename_i J
    have J:P.stoodInHeld t=false:=by simpa using J
    obtain ⟨n,hn⟩:∃n,Bf P t=some n:=by
     obtain ⟨i,H⟩:=Option.isSome_iff_exists.1 (info_of_underlying g)
     exact ⟨i.size,by simp [Bf,H]⟩
    obtain ⟨X',Y',rfl,rfl,ad,aa⟩:=hxy.agg n (Uk g hn)
    have R:P.fieldsOf t=fs:=by simp [Program.fieldsOf,g]
    rw [run_equalIn_struct w k t _ _ (by rw [R];exact g) J,R]
    have ab:d≤k:=by omega
    clear hxy z g R J
    generalize fs.toList=fl at h
    induction fl generalizing ls b with
    |nil=>
     simp only [List.map_nil,DJ,oI]at h
     subst h
     have C:some true=some b:=C
     simp only [oI]at C
     subst C
     simp [Op.eqFields]
    |cons f fl ih=>
     simp only [List.map_cons]at h
     obtain ⟨l1,l2,c,h2,rfl⟩:=Mq h
     split at c
     ·cases c
     ·rename_i ai
      split at c
      ·rename_i l m hl hm
       split at c
       ·rename_i o
        simp only [oI]at c
        subst c
        rw [HJ,Hj,EU]at C
        obtain ⟨e,ak,M⟩:=Ac C
        have O:∃px py,(part f.type X' f.offset).run P w=.ok px w∧(part f.type Y' f.offset).run P w=.ok py w∧(Op.equalIn k f.type px py).run P w=.ok e w:=by
         rw [aT]at o
         have U:f.offset+m≤n:=by
          have:=AR.1 o.2
          unfold Bf at hn
          simp only [Program.cellsOf,hn,Option.getD_some]at this
          exact this
         exact JU Q hY ad aa hl hm U (Oe o.1) ak fun x y c=>GK hΓ Q hY d f.type l hl k _ x y e ab c ak
        obtain ⟨px,py,r1,r2,r3⟩:=O
        simp only [Op.eqFields,if_pos (show f.name≠ "_" from ai)]
        simp only [Sem.run_bind,r1,Result.andThen_ok,r2,r3]
        cases e with
        |false=>
         simp only [cond_false,oI]at M
         subst M
         simp
        |true=>
         simp only [cond_true]at M
         simp only [Bool.not_true,Bool.false_eq_true,if_false]
         exact ih l2 b M h2
       ·cases c
      ·cases c
  ·
   rename_i len e g
   split at h
   ·rename_i l m hl hm
    split at h
    ·rename_i o
     simp only [oI]at h
     rw [aT]at o
     obtain ⟨n,hn⟩:∃n,Bf P t=some n:=by
      obtain ⟨i,H⟩:=Option.isSome_iff_exists.1 (info_of_underlying g)
      exact ⟨i.size,by simp [Bf,H]⟩
     obtain ⟨X',Y',rfl,rfl,ad,aa⟩:=hxy.agg n (Wv g hn)
     have U:len*m≤n:=by
      have:=AR.1 o.2
      unfold Bf at hn
      simp only [Program.cellsOf,hn,Option.getD_some]at this
      exact this
     have ab:d≤k:=by omega
     have hs:=Bx (w:=w) hm
     simp only [Op.equalIn,Sem.run_bind,run_underlying g,Result.andThen_ok,hs]
     have key:∀(L:List Nat) (b:Bool),(∀i∈L,i<len)→Dj Γ cs ds (C8 A (L.flatMap fun i=>C8 (i*m) l))=some b→
       (forIn L ((none,()):Option Bool×Unit) fun i (_:Option Bool×Unit)=>do
        let p←part e X' (i*m)
        let q←part e Y' (i*m)
        let r←Op.equalIn k e p q
        if (!r)=true then pure (ForInStep.done (some false,()))else pure (ForInStep.yield (none,())):Sem (Option Bool×Unit)).run P w=.ok (if b then none else some false,()) w:=by
      intro L
      induction L with
      |nil=>
       intro b _ hb
       have hb:some true=some b:=hb
       simp only [oI]at hb
       subst hb
       simp
      |cons i L ih=>
       intro b hL hb
       rw [List.flatMap_cons,HJ,Hj,EU]at hb
       obtain ⟨r,al,N⟩:=Ac hb
       have H:i<len:=hL i List.mem_cons_self
       have az:i*m+m≤n:=by
        have:=Nat.mul_le_mul_right m (show i+1≤len from H)
        rw [Nat.succ_mul]at this
        omega
       obtain ⟨px,py,r1,r2,r3⟩:=JU (n:=n) (k:=k) (w:=w) Q hY ad aa hl hm az (Oe o.1) al fun x y c=>GK hΓ Q hY d e l hl k _ x y r ab c al
       rw [List.forIn_cons]
       simp only [Sem.run_bind,r1,Result.andThen_ok,r2,r3]
       cases r with
       |false=>
        simp only [cond_false,oI]at N
        subst N
        simp
       |true=>
        simp only [cond_true]at N
        simp only [Bool.not_true,Bool.false_eq_true,if_false,Sem.run_pure,Result.andThen_ok]
        exact ih b (fun j hj=>hL j (List.mem_cons_of_mem _ hj)) N
     rw [Std.Legacy.Range.forIn_eq_forIn_range']
     have hr:List.range' 0 len 1=List.range len:=(List.range_eq_range' ..).symm
     simp only [Std.Legacy.Range.size,Nat.sub_zero,Nat.add_one_sub_one,Nat.div_one]
     rw [hr]
     have:=key (List.range len) b (fun i H=>List.mem_range.1 H) (by rw [h];exact C)
     rw [this]
     cases b<;>simp
    ·cases h
   ·cases h
  ·cases h
end
end Go.AM
end
