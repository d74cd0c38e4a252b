/- Part 1 of the proof of TypesAccepts. -/
import Derived.Orders
import Derived.Laws.Entries
import Derived.Laws.Strings
import Derived.Laws.StructEq
import Derived.Laws.Slices
import Derived.Laws.Strings2
import Derived.Laws.Unary
import Derived.Laws.Build
import Derived.Laws.Pointers
import Derived.WideLaws
import Derived.LaidEql
set_option linter.all false
section
namespace Go.AM
theorem oI {α:Type} {a b:α}:(some a=some b)=(a=b):=Option.some.injEq a b
theorem lA {α:Type} {a b:List α}:(a++b).length=a.length+b.length:=List.length_append
theorem lC {α:Type} {a:α} {b:List α}:(a::b).length=b.length+1:=List.length_cons
theorem lN {α:Type}:([]:List α).length=0:=List.length_nil
theorem lT' {α:Type} {n:Nat} {a:List α}:(a.take n).length=min n a.length:=List.length_take
theorem aT {a b:Bool}:((a&&b)=true)=(a=true∧b=true):=Bool.and_eq_true a b
theorem mS {α β:Type} {f:α→β} {o:Option α} {b:β} (h:o.map f=some b):∃a,o=some a∧f a=b:=Option.map_eq_some_iff.1 h
theorem cL {α:Type} {a b:List α} (h:a=b):a.length=b.length:=congrArg List.length h
noncomputable section
def ile:Int→Int→Bool
 |.ofNat a,.ofNat b=>Nat.ble a b
 |.negSucc _,.ofNat _=>true
 |.ofNat _,.negSucc _=>false
 |.negSucc a,.negSucc b=>Nat.ble b a
def Yu:Int→Int→Bool
 |.ofNat a,.ofNat b=>Nat.beq a b
 |.negSucc a,.negSucc b=>Nat.beq a b
 |_,_=>false
def ilt (a b:Int):Bool:=!(ile b a)
def Um:IntKind→Nat
 |.i8=>0|.i16=>1|.i32=>2|.i64=>3|.u8=>4|.u16=>5|.u32=>6|.u64=>7
def Un (a b:IntKind):Bool:=Nat.beq (Um a) (Um b)
def modulus:IntKind→Nat
 |.i8=>256|.u8=>256
 |.i16=>65536|.u16=>65536
 |.i32=>4294967296|.u32=>4294967296
 |.i64=>18446744073709551616|.u64=>18446744073709551616
def Qo (n:Int) (m:Nat):Nat:=
 match n with
 |.ofNat a=>a%m
 |.negSucc a=>m-1-a%m
def Ih:IntKind→Bool
 |.i8=>true|.i16=>true|.i32=>true|.i64=>true
 |.u8=>false|.u16=>false|.u32=>false|.u64=>false
def back (k:IntKind) (m:Nat):Int:=
 bif Ih k&&Nat.ble (modulus k) (m+m)then .negSucc (modulus k-1-m)else .ofNat m
def KO (k:IntKind) (n:Int):Int:=back k (Qo n (modulus k))
def WB (op:BinOp) (m a b:Nat):Nat:=
 match op with
 |.and=>Nat.land a b
 |.or=>Nat.lor a b
 |.xor=>Nat.xor a b
 |_=>Nat.land a (m-1-b)
def Pv (op:BinOp) (k:IntKind) (x y:Int):Int:=
 back k (WB op (modulus k) (Qo x (modulus k)) (Qo y (modulus k)))
def XD:BinOp→Nat
 |.add=>0|.sub=>1|.mul=>2|.quo=>3|.rem=>4|.and=>5|.or=>6|.xor=>7|.shl=>8|.shr=>9|.andNot=>10
 |.eql=>11|.neq=>12|.lss=>13|.leq=>14|.gtr=>15|.geq=>16
def NU (a b:BinOp):Bool:=Nat.beq (XD a) (XD b)
def beq (a b:Bool):Bool:=bif a then b else !b
def AG {α β:Type} (o:Option α) (f:α→Option β):Option β:=
 Option.casesOn (motive:=fun _=>Option β) o none f
inductive ST where
 |lit (n:Int)
 |var (i:Nat)
 |bin (op:BinOp) (k:IntKind) (a b:ST)
 |conv (k:IntKind) (a:ST)
inductive SB where
 |lit (b:Bool)
 |cmp (op:BinOp) (a b:ST)
 |no (a:SB)
def ST.eq:ST→ST→Bool
 |.lit a,.lit b=>Yu a b
 |.var i,.var j=>Nat.beq i j
 |.bin o k a b,.bin o' k' a' b'=>NU o o'&&Un k k'&&a.eq a'&&b.eq b'
 |.conv k a,.conv k' a'=>Un k k'&&a.eq a'
 |_,_=>false
def SB.eq:SB→SB→Bool
 |.lit a,.lit b=>beq a b
 |.cmp o a b,.cmp o' a' b'=>NU o o'&&a.eq a'&&b.eq b'
 |.no a,.no b=>a.eq b
 |_,_=>false
inductive Aa where
 |any
 |bool (b:SB)
 |int (k:IntKind) (n:ST)
 |str (s:List Nat)
 |ptr (b off:Nat)
 |nilPtr
 |slice (b off len cap:Nat)
 |gslice (b off len es:Nat)
 |nilSlice
 |map (b:Nat)
 |nilMap
 |func (f:FuncId) (first captured:List Aa)
 |nilFunc
 |iface (t:TypeId) (v:Aa)
 |nilIface
 |agg (cells:List Aa)
 |tuple (vs:List Aa)
 |anyStr (n:Nat)
 |gbytes (b:Nat)
 |glen (b:Nat)
 |svar (i:Nat)
 |lst (full:Bool) (i es:Nat) (n:ST)
 |lptr (i:Nat) (j:ST) (off:Nat)
 |vec (b es:Nat) (n:ST)
 |vptr (b es:Nat) (j:ST) (off:Nat)
def Aa.single (v:Aa):Bool:=
 match v with
 |.agg _=>false
 |.tuple _=>false
 |.any=>false
 |_=>true
def Aa.cells (v:Aa):Option (List Aa):=
 match v with
 |.agg cs=>some cs
 |.tuple _=>none
 |.any=>none
 |v=>some [v]
def lit (k:IntKind) (n:Int):Aa:=.int k (.lit n)
def yes:Aa:=.bool (.lit true)
structure Entry where
 key:Aa
 val:Aa
 born:Nat
inductive Block where
 |cells (vs:List Aa)
 |map (es:List Entry) (clock:Nat)
 |typed (e:Nat) (vs:List Aa)
 |bytes (n e:Nat)
 |sbytes (n:ST) (e:Nat)
 |list (i es:Nat)
 |smap (i:Nat)
structure BF where
 id:Nat
 Xo:List (Nat×Aa)
 pre:List Block
 NP:List (Nat×Aa)
 post:List (Option Block)
 df:List (FuncId×List Aa):=[]
 out:Bool:=false
inductive AQ where
 |els (es:List (List Aa))
 |all (i:Nat)
 |take (i:Nat) (n:ST)
 |drop (i:Nat) (n:ST)
structure Ao where
 DZ:List (ST×Int):=[]
 tests:List (BinOp×ST×ST×Bool):=[]
 strs:List (Aa×Aa×Bool):=[]
 EK:List (Aa×Aa×Aa):=[]
 BA:List (Nat×ST×Nat×Nat):=[]
 Ad:List (Nat×ST):=[]
 elems:List (Nat×ST×List Aa):=[]
 defs:List (Nat×List AQ):=[]
 looks:List (Nat×Aa×Option (List Aa)):=[]
 Lx:List (Nat×Aa×List Aa×Nat):=[]
 CQ:List (ST×Nat×ST):=[]
 CO:List (Nat×List (Aa×List Aa)):=[]
 BI:List (Nat×Nat×Nat×Nat×Nat):=[]
 loops:List BF:=[]
def JE:List (ST×Int)→ST→Option Int
 |[],_=>none
 |(t,n)::r,x=>bif t.eq x then some n else JE r x
def Cg:List (BinOp×ST×ST×Bool)→BinOp→ST→ST→Option Bool
 |[],_,_,_=>none
 |(o,s,t,v)::r,op,a,b=>bif NU o op&&s.eq a&&t.eq b then some v else Cg r op a b
def numOf (Γ:Ao) (t:ST):ST:=
 match JE Γ.DZ t with
 |some n=>.lit n
 |none=>t
def Rj (op:BinOp) (k:IntKind) (a b:Int):Option Int:=
 match op with
 |.add=>some (KO k (a+b))
 |.sub=>some (KO k (a-b))
 |.mul=>some (KO k (a*b))
 |.quo=>bif Yu b 0 then none else some (KO k (a.tdiv b))
 |.rem=>bif Yu b 0 then none else some (a.tmod b)
 |.and=>some (Pv .and k a b)
 |.or=>some (Pv .or k a b)
 |.xor=>some (Pv .xor k a b)
 |.andNot=>some (Pv .andNot k a b)
 |_=>none
def AaH (op:BinOp) (a b:Int):Option Bool:=
 match op with
 |.eql=>some (Yu a b)
 |.neq=>some (!(Yu a b))
 |.lss=>some (ilt a b)
 |.leq=>some (ile a b)
 |.gtr=>some (ilt b a)
 |.geq=>some (ile b a)
 |_=>none
def Mh (op:BinOp) (k:IntKind) (x:Int) (n:Nat):Option Int:=
 match op with
 |.shl=>some (KO k (x*Int.ofNat (2^n)))
 |.shr=>some (x.fdiv (Int.ofNat (2^n)))
 |_=>none
def PX (op:BinOp) (k:IntKind) (x y:Int):Option Int:=
 match y with
 |.negSucc _=>none
 |.ofNat y=>Mh op k x (bif Nat.ble y k.bits then y else k.bits)
def total (op:BinOp) (b:ST):Bool:=
 match op with
 |.add=>true|.sub=>true|.mul=>true|.and=>true|.or=>true|.xor=>true|.andNot=>true
 |.quo=>(match b with|.lit n=>!(Yu n 0) |_=>false)
 |.rem=>(match b with|.lit n=>!(Yu n 0) |_=>false)
 |_=>false
def WS (Γ:Ao) (op:BinOp) (b:ST):Bool:=
 match op with
 |.quo=>(match Cg Γ.tests .eql b (.lit 0)with|some v=>!v|none=>false)
 |.rem=>(match Cg Γ.tests .eql b (.lit 0)with|some v=>!v|none=>false)
 |_=>false
def UW (Γ:Ao) (op:BinOp) (k:IntKind) (a b:ST):Option ST:=
 bif total op b||WS Γ op b then some (numOf Γ (.bin op k a b))else none
def arith (Γ:Ao) (op:BinOp) (k:IntKind) (a b:ST):Option ST:=
 match a,b with
 |.lit x,.lit y=>AG (Rj op k x y) fun n=>some (.lit n)
 |a,b=>UW Γ op k a b
def FA (op:BinOp):Bool:=Nat.ble 11 (XD op)
def Ns (Γ:Ao) (op:BinOp) (a b:ST):Option SB:=
 bif FA op then (match Cg Γ.tests op a b with|some v=>some (.lit v) |none=>some (.cmp op a b))else none
def compare (Γ:Ao) (op:BinOp) (a b:ST):Option SB:=
 match a,b with
 |.lit x,.lit y=>AG (AaH op x y) fun v=>some (.lit v)
 |a,b=>Ns Γ op a b
def convert (Γ:Ao) (k:IntKind) (a:ST):ST:=
 match a with
 |.lit x=>.lit (KO k x)
 |a=>numOf Γ (.conv k a)
inductive Tr (α:Type) where
 |nil
 |node (v:Option α) (l r:Tr α)
 |over (n:Nat) (v:Option α) (t:Tr α)
def Tr.get {α:Type} (t:Tr α):Nat→Option α:=
 Tr.rec (motive:=fun _=>Nat→Option α) (fun _=>none)
  (fun v _ _ d c n=>bif Nat.beq n 0 then v else bif Nat.beq (n%2) 1 then d (n/2)else c (n/2-1))
  (fun m v _ gt n=>bif Nat.beq n m then v else gt n) t
def Tr.set {α:Type} (t:Tr α):Nat→Option α→Tr α:=
 Tr.rec (motive:=fun _=>Nat→Option α→Tr α) (fun n x=>.over n x .nil)
  (fun v l r sl d n x=>bif Nat.beq n 0 then .node x l r else bif Nat.beq (n%2) 1 then .node v (sl (n/2) x) r else .node v l (d (n/2-1) x))
  (fun m v t c n x=>bif Nat.beq n m then .over m x t else .over m v (c n x)) t
def Tr.full (α:Type) (n:Nat):Tr α:=
 Nat.rec (motive:=fun _=>Tr α) .nil (fun _ ih=>.node none ih ih) n
structure Al where
 DR:Tr Block
 next:Nat
 fx:Ao:={}
def Al.get (h:Al) (b:Nat):Option Block:=Tr.get h.DR b
def Al.set (h:Al) (b:Nat) (o:Option Block):Al:=⟨Tr.set h.DR b o,h.next,h.fx⟩
def Al.add (h:Al) (B:Block):Al:=⟨Tr.set h.DR h.next (some B),h.next+1,h.fx⟩
inductive C9 where
 |tmp (t:Nat)
 |con (v:Aa)
inductive LK where
 |bool
 |int
 |str
structure C3 where
 t:Nat
 agg:Bool
 Sg:List (Nat×LK)
inductive EqK where
 |plain (Sg:List (Nat×LK))
 |iface (nils:Bool) (ts:List C3)
 |ptr
 |slice
 |map
 |func
 |bool
inductive POp where
 |mv (x:C9)
 |pick (c a b:C9)
 |build (zero:List Aa) (parts:List (Nat×Nat×C9))
 |AeW (x:C9)
 |bin (op:BinOp) (x y:C9)
 |eqs (neg:Bool) (k:EqK) (x y:C9)
 |un (op:UnOp) (x:C9)
 |conv (k:IntKind) (x:C9)
 |same (x:C9)
 |iface (t:TypeId) (x:C9)
 |func (f:FuncId) (first captured:List C9)
 |subs (x:C9) (lo hi:Option C9)
 |reslice (size:Nat) (x:C9) (lo hi mx:Option C9)
 |U8 (off:Nat) (x:C9)
 |field (off:Nat) (n:Option Nat) (x:C9)
 |Afi (size:Nat) (x i:C9)
 |Up (len size:Nat) (x i:C9)
 |idx (len size:Nat) (n:Option Nat) (x i:C9)
 |Afh (x i:C9)
 |ext (x:C9) (i:Nat)
 |Afc (x:C9)
 |Afd (x:C9)
 |big (most:Bool) (xs:List C9)
 |assert (t:TypeId) (zero:Option Aa) (x:C9)
 |Z5 (x:C9)
inductive NM where
 |load (n:Option Nat) (x:C9)
 |lookup (kk:LK) (zero:Aa) (ok:Bool) (x k:C9)
 |lenM (x:C9)
 |uptr (ok:List (Nat×Nat)) (x:C9)
 |bstr (x:C9)
inductive AOp where
 |box (t:Option Nat) (x:C9)
 |zero (t:Option Nat) (cells:List Aa)
 |bslice (len:Nat) (zero:List Aa) (parts:List (Nat×Nat×C9))
 |mkSlice (zero:List Aa) (l c:C9)
 |mkMap
inductive MOp where
 |store (n:Nat) (a x:C9)
 |call (f:C9) (args:List C9)
 |append (size:Nat) (u8:Option Nat) (bytes:Bool) (x y:C9)
 |copy (size:Nat) (bytes:Bool) (x y:C9)
 |mapUp (kk:LK) (m k v:C9)
 |clone (x:C9)
 |panic (x:C9)
 |defer (f:C9) (args:List C9)
 |recover
 |AdS (e:Nat) (p n:C9)
 |ZR (x:C9)
inductive DQ where
 |p (o:POp)
 |r (o:NM)
 |a (o:AOp)
 |m (o:MOp)
structure Step where
 dst:Option Nat
 guard:Option (Nat×Bool)
 op:DQ
 back:Nat
inductive IC where
 |skip
 |region (draw:Bool) (steps:List Step)
 |seq (a b:IC)
 |cond (c:C9) (t e:IC)
 |block (id:Nat) (b:IC)
 |loop (b:IC)
 |exit (id:Nat)
 |ret
inductive Ro where
 |tmp (t:Nat)
 |cell (t:Nat) (n:Option Nat)
structure EF where
 depth:Nat
 results:List Ro
 body:IC
def Dv (o:Option Bool):Bool:=
 match o with
 |some true=>true
 |_=>false
def E9 (o:Option Aa):Aa:=
 match o with
 |some v=>v
 |none=>.any
def ev (tm:Tr Aa) (x:C9):Aa:=
 match x with
 |.tmp t=>E9 (Tr.get tm t)
 |.con v=>v
def Rr (tm:Tr Aa) (l:List C9):List Aa:=
 List.rec (motive:=fun _=>List Aa) [] (fun x _ ih=>ev tm x::ih) l
def over (vs:List Aa):List Aa→Option (List Aa):=
 List.rec (motive:=fun _=>List Aa→Option (List Aa)) (fun c=>some c)
  (fun v _ ih c=>List.casesOn (motive:=fun _=>Option (List Aa)) c none (fun _ c=>AG (ih c) fun r=>some (v::r))) vs
def splice (vs:List Aa) (i:Nat):List Aa→Option (List Aa):=
 Nat.rec (motive:=fun _=>List Aa→Option (List Aa)) (fun c=>over vs c)
  (fun _ ih c=>List.casesOn (motive:=fun _=>Option (List Aa)) c none
   (fun x c=>AG (ih c) fun r=>some (x::r))) i
def taken (n:Nat):List Aa→Option (List Aa):=
 Nat.rec (motive:=fun _=>List Aa→Option (List Aa)) (fun _=>some [])
  (fun _ ih c=>List.casesOn (motive:=fun _=>Option (List Aa)) c none (fun x c=>AG (ih c) fun r=>some (x::r))) n
def dropped (n:Nat):List Aa→List Aa:=
 Nat.rec (motive:=fun _=>List Aa→List Aa) (fun c=>c) (fun _ ih c=>List.casesOn (motive:=fun _=>List Aa) c [] (fun _ c=>ih c)) n
def nth (l:List Aa):Nat→Option Aa:=
 List.rec (motive:=fun _=>Nat→Option Aa) (fun _=>none) (fun x _ ih n=>Nat.casesOn (motive:=fun _=>Option Aa) n (some x) (fun n=>ih n)) l
def Ad (l:List Aa):Nat:=
 List.rec (motive:=fun _=>Nat) 0 (fun _ _ ih=>ih+1) l
def rep (zero:List Aa) (n:Nat):List Aa:=
 Nat.rec (motive:=fun _=>List Aa) [] (fun _ ih=>zero++ih) n
def cut (c:List Aa) (i n:Nat):Option (List Aa):=taken n (dropped i c)
def FD (cs:List Aa) (v:Aa) (c size:Nat):Option (List Aa):=
 AG v.cells fun vs=>bif Nat.beq (Ad vs) size then splice vs c cs else none
def HJ (tm:Tr Aa) (c:List (Nat×Nat×C9)):List Aa→Option (List Aa):=
 List.rec (motive:=fun _=>List Aa→Option (List Aa)) (fun cs=>some cs) (fun p _ ih cs=>AG (FD cs (ev tm p.2.2) p.1 p.2.1) ih) c
def Ow (x:List Nat):List Nat→Bool:=
 List.rec (motive:=fun _=>List Nat→Bool) (fun y=>List.casesOn (motive:=fun _=>Bool) y true (fun _ _=>false))
  (fun a _ ih y=>List.casesOn (motive:=fun _=>Bool) y false (fun b y=>Nat.beq a b&&ih y)) x
def ltL (x:List Nat):List Nat→Bool:=
 List.rec (motive:=fun _=>List Nat→Bool) (fun y=>List.casesOn (motive:=fun _=>Bool) y false (fun _ _=>true))
  (fun a _ ih y=>List.casesOn (motive:=fun _=>Bool) y false (fun b y=>Nat.blt a b||(Nat.beq a b&&ih y))) x
def Iw (l:List Nat):Nat:=
 List.rec (motive:=fun _=>Nat) 0 (fun _ _ ih=>ih+1) l
def Cn (l:List Nat):Nat→Option Nat:=
 List.rec (motive:=fun _=>Nat→Option Nat) (fun _=>none) (fun x _ ih n=>Nat.casesOn (motive:=fun _=>Option Nat) n (some x) (fun n=>ih n)) l
def TX (n:Nat):List Nat→Option (List Nat):=
 Nat.rec (motive:=fun _=>List Nat→Option (List Nat)) (fun _=>some [])
  (fun _ ih c=>List.casesOn (motive:=fun _=>Option (List Nat)) c none (fun x c=>AG (ih c) fun r=>some (x::r))) n
def M5 (n:Nat):List Nat→List Nat:=
 Nat.rec (motive:=fun _=>List Nat→List Nat) (fun c=>c) (fun _ ih c=>List.casesOn (motive:=fun _=>List Nat) c [] (fun _ c=>ih c)) n
def Aa.eqC (x y:Aa):Bool:=
 match x,y with
 |.bool a,.bool b=>a.eq b
 |.int k a,.int k' b=>Un k k'&&a.eq b
 |.str a,.str b=>Ow a b
 |.ptr a b,.ptr c d=>Nat.beq a c&&Nat.beq b d
 |.nilPtr,.nilPtr=>true
 |.slice a b c d,.slice a' b' c' d'=>Nat.beq a a'&&Nat.beq b b'&&Nat.beq c c'&&Nat.beq d d'
 |.gslice a b c d,.gslice a' b' c' d'=>Nat.beq a a'&&Nat.beq b b'&&Nat.beq c c'&&Nat.beq d d'
 |.nilSlice,.nilSlice=>true
 |.map a,.map b=>Nat.beq a b
 |.nilMap,.nilMap=>true
 |.nilFunc,.nilFunc=>true
 |.nilIface,.nilIface=>true
 |.anyStr n,.anyStr n'=>Nat.beq n n'
 |.gbytes b,.gbytes b'=>Nat.beq b b'
 |.glen b,.glen b'=>Nat.beq b b'
 |.svar i,.svar j=>Nat.beq i j
 |.lst f i e n,.lst f' i' e' n'=>beq f f'&&(Nat.beq i i'&&(Nat.beq e e'&&n.eq n'))
 |.lptr i j o,.lptr i' j' o'=>Nat.beq i i'&&(j.eq j'&&Nat.beq o o')
 |.vec b e n,.vec b' e' n'=>Nat.beq b b'&&(Nat.beq e e'&&n.eq n')
 |.vptr b e j o,.vptr b' e' j' o'=>Nat.beq b b'&&(Nat.beq e e'&&(j.eq j'&&Nat.beq o o'))
 |_,_=>false
def Aa.AcP (x:List Aa):List Aa→Bool:=
 List.rec (motive:=fun _=>List Aa→Bool) (fun y=>List.casesOn (motive:=fun _=>Bool) y true (fun _ _=>false))
  (fun a _ ih y=>List.casesOn (motive:=fun _=>Bool) y false (fun b y=>a.eqC b&&ih y)) x
def Aa.eq (x y:Aa):Bool:=
 match x,y with
 |.func f a c,.func f' a' c'=>Nat.beq f f'&&(Aa.AcP a a'&&Aa.AcP c c')
 |x,y=>x.eqC y
def Aa.Pk (x:List Aa):List Aa→Bool:=
 List.rec (motive:=fun _=>List Aa→Bool) (fun y=>List.casesOn (motive:=fun _=>Bool) y true (fun _ _=>false))
  (fun a _ ih y=>List.casesOn (motive:=fun _=>Bool) y false (fun b y=>a.eq b&&ih y)) x
def M9 (x y:Aa) (l:List (Aa×Aa×Bool)):Option Bool:=
 List.rec (motive:=fun _=>Option Bool) none (fun e _ ih=>bif x.eq e.1&&y.eq e.2.1 then some e.2.2 else ih) l
def Aae (x y:Aa) (l:List (Aa×Aa×Aa)):Option Aa:=
 List.rec (motive:=fun _=>Option Aa) none (fun e _ ih=>bif x.eq e.1&&y.eq e.2.1 then some e.2.2 else ih) l
def WD (i:Nat) (l:List (Nat×ST×Nat×Nat)):Option (ST×Nat×Nat):=
 List.rec (motive:=fun _=>Option (ST×Nat×Nat)) none (fun e _ ih=>bif Nat.beq e.1 i then some e.2 else ih) l
def ER (i:Nat) (l:List (Nat×ST)):Option ST:=
 List.rec (motive:=fun _=>Option ST) none (fun e _ ih=>bif Nat.beq e.1 i then some e.2 else ih) l
def OS (i:Nat) (t:ST) (l:List (Nat×ST×List Aa)):Option (List Aa):=
 List.rec (motive:=fun _=>Option (List Aa)) none (fun e _ ih=>bif Nat.beq e.1 i&&e.2.1.eq t then some e.2.2 else ih) l
def Aac (i:Nat) (k:Aa) (l:List (Nat×Aa×Option (List Aa))):Option (Option (List Aa)):=
 List.rec (motive:=fun _=>Option (Option (List Aa))) none (fun e _ ih=>bif Nat.beq e.1 i&&k.eq e.2.1 then some e.2.2 else ih) l
def Aab (i:Nat) (k:Aa) (cs:List Aa) (l:List (Nat×Aa×List Aa×Nat)):Option Nat:=
 List.rec (motive:=fun _=>Option Nat) none (fun e _ ih=>bif Nat.beq e.1 i&&(k.eq e.2.1&&Aa.Pk cs e.2.2.1)then some e.2.2.2 else ih) l
def Aaf (t:ST) (n:Nat) (l:List (ST×Nat×ST)):Option ST:=
 List.rec (motive:=fun _=>Option ST) none (fun e _ ih=>bif t.eq e.1&&Nat.ble n e.2.1 then some e.2.2 else ih) l
def Afq (x:List (List Aa)):List (List Aa)→Bool:=
 List.rec (motive:=fun _=>List (List Aa)→Bool) (fun y=>List.casesOn (motive:=fun _=>Bool) y true (fun _ _=>false))
  (fun a _ ih y=>List.casesOn (motive:=fun _=>Bool) y false (fun b y=>Aa.Pk a b&&ih y)) x
def AQ.eq (x y:AQ):Bool:=
 match x,y with
 |.els a,.els b=>Afq a b
 |.all i,.all j=>Nat.beq i j
 |.take i n,.take j m=>Nat.beq i j&&n.eq m
 |.drop i n,.drop j m=>Nat.beq i j&&n.eq m
 |_,_=>false
def AQ.Pk (x:List AQ):List AQ→Bool:=
 List.rec (motive:=fun _=>List AQ→Bool) (fun y=>List.casesOn (motive:=fun _=>Bool) y true (fun _ _=>false))
  (fun a _ ih y=>List.casesOn (motive:=fun _=>Bool) y false (fun b y=>a.eq b&&ih y)) x
def JF (p:List AQ) (l:List (Nat×List AQ)):Option Nat:=
 List.rec (motive:=fun _=>Option Nat) none (fun e _ ih=>bif AQ.Pk p e.2 then some e.1 else ih) l
def D8 (Γ:Ao) (op:BinOp) (a b:ST):Bool:=
 match compare Γ op a b with
 |some (.lit v)=>v
 |_=>false
def Tt (op:BinOp) (a b:List Nat):Option Aa:=
 match op with
 |.eql=>some (.bool (.lit (Ow a b)))
 |.neq=>some (.bool (.lit (!(Ow a b))))
 |.lss=>some (.bool (.lit (ltL a b)))
 |.leq=>some (.bool (.lit (ltL a b||Ow a b)))
 |.gtr=>some (.bool (.lit (!(ltL a b||Ow a b))))
 |.geq=>some (.bool (.lit (!(ltL a b))))
 |.add=>bif Nat.ble (Iw a+Iw b) 1048576 then some (.str (a++b))else none
 |_=>none
def Ea (op:BinOp):Bool:=
 match op with
 |.shl=>true
 |.shr=>true
 |_=>false
def natural (Γ:Ao) (b:ST):Bool:=
 match b with
 |.lit n=>ile (.ofNat 0) n
 |b=>Dv (Cg Γ.tests .geq b (.lit (.ofNat 0)))
def Zw (Γ:Ao) (op:BinOp) (k:IntKind) (a b:ST):Option Aa:=
 bif natural Γ b then some (.int k (numOf Γ (.bin op k a b)))else none
def Zx (Γ:Ao) (op:BinOp) (k:IntKind) (a b:ST):Option Aa:=
 match a,b with
 |.lit a,.lit b=>AG (PX op k a b) fun n=>some (.int k (.lit n))
 |a,b=>Zw Γ op k a b
def Ajf (Γ:Ao) (op:BinOp) (k c:IntKind) (a b:ST):Option Aa:=
 bif Ea op then Zx Γ op k a b
 else bif !(Un k c)then none
 else bif FA op then AG (compare Γ op a b) fun v=>some (.bool v)
 else AG (arith Γ op k a b) fun n=>some (.int k n)
def AaQ (Γ:Ao) (op:BinOp) (x y:Aa):Option Aa:=
 match op with
 |.eql=>AG (M9 x y Γ.strs) fun v=>some (.bool (.lit v))
 |.neq=>AG (M9 x y Γ.strs) fun v=>some (.bool (.lit (!v)))
 |.add=>Aae x y Γ.EK
 |_=>none
def Af2 (Γ:Ao) (op:BinOp) (x y:Aa):Option Aa:=
 match x,y with
 |.int k a,.int k' b=>Ajf Γ op k k' a b
 |.str a,.str b=>Tt op a b
 |.svar i,.str b=>AaQ Γ op (.svar i) (.str b)
 |.str a,.svar j=>AaQ Γ op (.str a) (.svar j)
 |.svar i,.svar j=>AaQ Γ op (.svar i) (.svar j)
 |_,_=>none
def Afb (b:Option SB):Option Bool:=
 match b with
 |some (.lit v)=>some v
 |_=>none
def Je (Γ:Ao) (k:LK) (x y:Aa):Option Bool:=
 match k,x,y with
 |.int,.int k a,.int k' b=>bif Un k k' then Afb (compare Γ .eql a b)else none
 |.bool,.bool (.lit a),.bool (.lit b)=>some (beq a b)
 |.str,.str a,.str b=>some (Ow a b)
 |.str,.svar i,.str b=>M9 (.svar i) (.str b) Γ.strs
 |.str,.str a,.svar j=>M9 (.str a) (.svar j) Γ.strs
 |.str,.svar i,.svar j=>M9 (.svar i) (.svar j) Γ.strs
 |_,_,_=>none
def SN (Γ:Ao) (x y:List Aa) (o:Nat×LK):Option Bool:=
 AG (nth x o.1) fun a=>AG (nth y o.1) fun b=>Je Γ o.2 a b
def Dj (Γ:Ao) (x y:List Aa) (l:List (Nat×LK)):Option Bool:=
 List.rec (motive:=fun _=>Option Bool) (some true) (fun o _ ih=>AG (SN Γ x y o) fun e=>bif e then ih else some false) l
def Aad (t:Nat) (l:List C3):Option C3:=
 List.rec (motive:=fun _=>Option C3) none (fun a _ ih=>bif Nat.beq a.t t then some a else ih) l
def QO (Γ:Ao) (Sg:List (Nat×LK)) (x y:Aa):Option Bool:=
 match x,y with
 |.agg xs,.agg ys=>Dj Γ xs ys Sg
 |_,_=>none
def K2 (v:Aa):Bool:=
 match v with
 |.agg _=>true
 |_=>false
def WO (Γ:Ao) (h:C3) (a b:Aa):Option Bool:=
 bif beq (K2 a) h.agg&&beq (K2 b) h.agg then AG a.cells fun a=>AG b.cells fun b=>Dj Γ a b h.Sg else none
def AaA (Γ:Ao) (ts:List C3) (t u:Nat) (a b:Aa):Option Bool:=
 bif Nat.beq t u then (AG (Aad t ts) fun h=>WO Γ h a b)else some false
def QU (Γ:Ao) (c:Bool) (ts:List C3) (x y:Aa):Option Bool:=
 match x,y with
 |.iface t a,.iface u b=>AaA Γ ts t u a b
 |.nilIface,.nilIface=>bif c then some true else none
 |.nilIface,.iface _ _=>some false
 |.iface _ _,.nilIface=>some false
 |_,_=>none
def Aa8 (x y:Aa):Option Bool:=
 match x,y with
 |.nilPtr,.nilPtr=>some true
 |.nilPtr,.ptr _ _=>some false
 |.ptr _ _,.nilPtr=>some false
 |.ptr b o,.ptr b' o'=>bif Nat.beq b b'&&Nat.beq o o' then some true else none
 |_,_=>none
def QM (x y:Aa):Option Bool:=
 match x,y with
 |.nilSlice,.nilSlice=>some true
 |.slice _ _ _ _,.nilSlice=>some false
 |.nilSlice,.slice _ _ _ _=>some false
 |.gslice _ _ _ _,.nilSlice=>some false
 |.nilSlice,.gslice _ _ _ _=>some false
 |_,_=>none
def Aa9 (x y:Aa):Option Bool:=
 match x,y with
 |.nilMap,.nilMap=>some true
 |.map _,.nilMap=>some false
 |.nilMap,.map _=>some false
 |_,_=>none
def UB (x y:Aa):Option Bool:=
 match x,y with
 |.nilFunc,.nilFunc=>some true
 |.func _ _ _,.nilFunc=>some false
 |.nilFunc,.func _ _ _=>some false
 |_,_=>none
def UC (x y:Aa):Option Bool:=
 match x,y with
 |.bool (.lit a),.bool (.lit b)=>some (beq a b)
 |_,_=>none
def eqA (Γ:Ao) (k:EqK) (x y:Aa):Option Bool:=
 match k with
 |.plain Sg=>QO Γ Sg x y
 |.iface nils ts=>QU Γ nils ts x y
 |.ptr=>Aa8 x y
 |.slice=>QM x y
 |.map=>Aa9 x y
 |.func=>UB x y
 |.bool=>UC x y
def unA (Γ:Ao) (op:UnOp) (x:Aa):Option Aa:=
 match op,x with
 |.neg,.int k a=>AG (arith Γ .sub k (.lit (.ofNat 0)) a) fun n=>some (.int k n)
 |.xor,.int k a=>AG (arith Γ .xor k (.lit (bif Ih k then .negSucc 0 else .ofNat (modulus k-1))) a) fun n=>some (.int k n)
 |.not,.bool (.lit b)=>some (.bool (.lit (!b)))
 |.not,.bool b=>some (.bool (.no b))
 |_,_=>none
def CN (x:Aa):Option Nat:=
 match x with
 |.int _ (.lit (.ofNat n))=>some n
 |_=>none
def Cu (tm:Tr Aa) (d:Nat) (x:Option C9):Option Nat:=
 match x with
 |none=>some d
 |some x=>CN (ev tm x)
def Ac4 (tm:Tr Aa) (x:Option C9):Option (Option Nat):=
 match x with
 |none=>none
 |some x=>some (CN (ev tm x))
def UU (Γ:Ao) (most:Bool) (a b:Aa):Option Aa:=
 match a,b with
 |.int k a,.int k' b=>bif Un k k' then (match (bif most then compare Γ .lss a b else compare Γ .lss b a)with|some (.lit c)=>some (.int k (bif c then b else a)) |_=>none)else none
 |_,_=>none
def Adc (Γ:Ao) (most:Bool) (l:List Aa):Aa→Option Aa:=
 List.rec (motive:=fun _=>Aa→Option Aa) (fun a=>some a) (fun b _ ih a=>AG (UU Γ most a b) ih) l
def ZN (c a b:Aa):Option Aa:=
 match c with
 |.bool (.lit v)=>some (bif v then a else b)
 |_=>none
def N0 (cs:Option (List Aa)):Option Aa:=AG cs fun cs=>some (.agg cs)
def ZS (x:Aa):Option Aa:=
 match x with
 |.ptr b o=>some (.ptr b o)
 |.func f a c=>some (.func f a c)
 |.lptr i j o=>some (.lptr i j o)
 |.vptr b e j o=>some (.vptr b e j o)
 |_=>none
def Jc (Γ:Ao) (c:Bool) (k:EqK) (x y:Aa):Option Aa:=
 AG (eqA Γ k x y) fun b=>some (.bool (.lit (bif c then !b else b)))
def AaF (Γ:Ao) (k:IntKind) (x:Aa):Option Aa:=
 match x with
 |.int _ n=>some (.int k (convert Γ k n))
 |_=>none
def Z6 (x:Aa):Option Aa:=
 match x with
 |.str s=>some (.str s)
 |_=>none
def Adr (s:List Nat) (l h n:Nat):Option Aa:=
 bif Nat.ble l h&&Nat.ble h n then AG (TX (h-l) (M5 l s)) fun r=>some (.str r)else none
def YB (x:Aa) (d:Option Nat) (c:Nat→Option Nat):Option Aa:=
 match x with
 |.str s=>AG d fun l=>AG (c (Iw s)) fun h=>Adr s l h (Iw s)
 |_=>none
def RR (size b d c l h:Nat):Option Aa:=
 bif Nat.ble l h&&Nat.ble h c then some (.slice b (bif Nat.beq c l then d else d+l*size) (h-l) (c-l))else none
def RP (size b c len d l h:Nat):Option Aa:=
 bif Nat.ble l h&&Nat.ble h len&&Nat.beq size d then
  (bif Nat.beq l 0 then some (.gslice b c h d)
   else bif Nat.blt l h then some (.gslice b (c+l*size) (h-l) d)else none)else none
def J7 (size b c len l h m:Nat):Option Aa:=
 bif Nat.ble l h&&Nat.ble h m&&Nat.ble m len then some (.slice b (bif Nat.beq m l then c else c+l*size) (h-l) (m-l))else none
def FZ (size:Nat) (x:Aa) (g:Option Nat) (d:Nat→Option Nat) (j:Option (Option Nat)):Option Aa:=
 match x,j with
 |.slice b off len c,none=>AG g fun l=>AG (d len) fun h=>RR size b off c l h
 |.gslice b off len es,none=>AG g fun l=>AG (d len) fun h=>RP size b off len es l h
 |.slice b off len _,some m=>AG g fun l=>AG (d len) fun h=>AG m fun m=>J7 size b off len l h m
 |.gslice b off len _,some m=>AG g fun l=>AG (d len) fun h=>AG m fun m=>J7 size b off len l h m
 |.nilSlice,none=>AG g fun l=>AG (d 0) fun h=>bif Nat.beq l 0&&Nat.beq h 0 then some .nilSlice else none
 |_,_=>none
def QJ (c:Nat) (x:Aa):Option Aa:=
 match x with
 |.ptr b o=>some (.ptr b (o+c))
 |.lptr i j o=>some (.lptr i j (o+c))
 |.vptr b e j o=>some (.vptr b e j (o+c))
 |_=>none
def JB (cs:List Aa) (c:Nat) (n:Option Nat):Option Aa:=
 match n with
 |some n=>AG (cut cs c n) fun r=>some (.agg r)
 |none=>nth cs c
def U7 (c:Nat) (n:Option Nat) (x:Aa):Option Aa:=
 match x with
 |.agg cs=>JB cs c n
 |_=>none
def WJ (size b c len:Nat) (i:Option Nat):Option Aa:=
 AG i fun i=>bif Nat.blt i len then some (.ptr b (c+i*size))else none
def Ad2 (Γ:Ao) (size i c:Nat) (n:ST) (v:Aa):Option Aa:=
 match v with
 |.int _ t=>bif Nat.beq size c&&(D8 Γ .geq t (.lit (.ofNat 0))&&D8 Γ .lss t n)then some (.lptr i t 0)else none
 |_=>none
def Ad1 (Γ:Ao) (size b c:Nat) (n:ST) (v:Aa):Option Aa:=
 match v with
 |.int _ t=>bif Nat.beq size c&&(D8 Γ .geq t (.lit (.ofNat 0))&&D8 Γ .lss t n)then some (.vptr b c t 0)else none
 |_=>none
def Aao (Γ:Ao) (size:Nat) (x v:Aa) (i:Option Nat):Option Aa:=
 match x with
 |.vec b es n=>Ad1 Γ size b es n v
 |.lst _ j es n=>Ad2 Γ size j es n v
 |.slice b off len _=>WJ size b off len i
 |.gslice b off len _=>WJ size b off len i
 |_=>none
def Q4 (len size:Nat) (x:Aa) (i:Option Nat):Option Aa:=
 match x with
 |.ptr b off=>AG i fun i=>bif Nat.blt i len then some (.ptr b (off+i*size))else none
 |_=>none
def Afg (len size:Nat) (n:Option Nat) (x:Aa) (i:Option Nat):Option Aa:=
 match x with
 |.agg cs=>AG i fun i=>bif Nat.blt i len then JB cs (i*size) n else none
 |_=>none
def Aan (x:Aa) (i:Option Nat):Option Aa:=
 match x with
 |.str s=>AG i fun i=>AG (Cn s i) fun c=>some (.int .u8 (.lit (.ofNat c)))
 |_=>none
def Afo (x:Aa) (i:Nat):Option Aa:=
 match x with
 |.tuple vs=>nth vs i
 |_=>none
def Aag (Γ:Ao) (x:Aa):Option Aa:=
 match x with
 |.svar i=>AG (WD i Γ.BA) fun r=>some (.int .i64 r.1)
 |.str s=>some (lit .i64 (.ofNat (Iw s)))
 |.anyStr _=>some .any
 |_=>none
def Aah (x:Aa):Option Aa:=
 match x with
 |.slice _ _ n _=>some (lit .i64 (.ofNat n))
 |.gslice _ _ n _=>some (lit .i64 (.ofNat n))
 |.nilSlice=>some (lit .i64 (.ofNat 0))
 |.gbytes b=>some (.glen b)
 |.lst _ _ _ n=>some (.int .i64 n)
 |.vec _ _ n=>some (.int .i64 n)
 |_=>none
def Rg (t:TypeId) (zero:Option Aa) (x:Aa):Option Aa:=
 match x,zero with
 |.iface u v,none=>bif Nat.beq u t then some v else none
 |.iface u v,some z=>some (bif Nat.beq u t then .tuple [v,.bool (.lit true)]else .tuple [z,.bool (.lit false)])
 |.nilIface,some z=>some (.tuple [z,.bool (.lit false)])
 |_,_=>none
def TM (x:Aa):Option Aa:=
 match x with
 |.nilSlice=>some .nilPtr
 |.gbytes b=>some (.ptr b 0)
 |_=>none
def Ajg (Γ:Ao) (most:Bool) (c:List Aa):Option Aa:=
 match c with
 |[]=>none
 |x::r=>Adc Γ most r x
def J8 (Γ:Ao) (i c:Nat) (n:ST) (g d:Option Aa):Option Aa:=
 match g,d with
 |none,some (.int _ t)=>AG (JF [.take i t] Γ.defs) fun j=>some (.lst false j c t)
 |some (.int _ (.lit (.ofNat 0))),some (.int _ t)=>AG (JF [.take i t] Γ.defs) fun j=>some (.lst false j c t)
 |some (.int _ t),none=>AG (JF [.drop i t] Γ.defs) fun j=>AG (ER j Γ.Ad) fun u=>some (.lst false j c u)
 |_,_=>none
def RQ (Γ:Ao) (f:Bool) (i c:Nat) (n:ST) (g d:Option Aa):Option Aa:=
 match g,d with
 |none,none=>some (.lst f i c n)
 |none,some (.int k t)=>bif t.eq n then some (.lst f i c n)else J8 Γ i c n none (some (.int k t))
 |g,d=>J8 Γ i c n g d
def RO (Γ:Ao) (b c:Nat) (n:ST) (g d:Option Aa):Option Aa:=
 match g,d with
 |none,none=>some (.vec b c n)
 |none,some (.int _ t)=>bif D8 Γ .geq t (.lit (.ofNat 0))&&D8 Γ .leq t n then some (.vec b c t)else none
 |_,_=>none
def Mo (Γ:Ao) (size:Nat) (x:Aa) (d c:Option Aa):Option Aa:=
 match x with
 |.lst f i es n=>bif Nat.beq size es then RQ Γ f i es n d c else none
 |.vec b es n=>bif Nat.beq size es then RO Γ b es n d c else none
 |_=>none
def Aig (x:Aa):Bool:=
 match x with
 |.lst _ _ _ _=>true
 |.vec _ _ _=>true
 |_=>false
def Lz (tm:Tr Aa) (x:Option C9):Option Aa:=
 match x with
 |some x=>some (ev tm x)
 |none=>none
def FY (Γ:Ao) (tm:Tr Aa) (size:Nat) (x:Aa) (j g c:Option C9):Option Aa:=
 match Aig x,c with
 |true,none=>Mo Γ size x (Lz tm j) (Lz tm g)
 |_,_=>FZ size x (Cu tm 0 j) (fun d=>Cu tm d g) (Ac4 tm c)
def I6 (Γ:Ao) (tm:Tr Aa) (o:POp):Option Aa:=
 match o with
 |.mv x=>some (ev tm x)
 |.pick c a b=>ZN (ev tm c) (ev tm a) (ev tm b)
 |.build zero parts=>N0 (HJ tm parts zero)
 |.AeW x=>ZS (ev tm x)
 |.bin op x y=>Af2 Γ op (ev tm x) (ev tm y)
 |.eqs neg k x y=>Jc Γ neg k (ev tm x) (ev tm y)
 |.un op x=>unA Γ op (ev tm x)
 |.conv k x=>AaF Γ k (ev tm x)
 |.same x=>Z6 (ev tm x)
 |.iface t x=>some (.iface t (ev tm x))
 |.func f a c=>some (.func f (Rr tm a) (Rr tm c))
 |.subs x lo hi=>YB (ev tm x) (Cu tm 0 lo) (fun d=>Cu tm d hi)
 |.reslice size x lo hi mx=>FY Γ tm size (ev tm x) lo hi mx
 |.U8 off x=>QJ off (ev tm x)
 |.field off n x=>U7 off n (ev tm x)
 |.Afi size x i=>Aao Γ size (ev tm x) (ev tm i) (CN (ev tm i))
 |.Up len size x i=>Q4 len size (ev tm x) (CN (ev tm i))
 |.idx len size n x i=>Afg len size n (ev tm x) (CN (ev tm i))
 |.Afh x i=>Aan (ev tm x) (CN (ev tm i))
 |.ext x i=>Afo (ev tm x) i
 |.Afc x=>Aag Γ (ev tm x)
 |.Afd x=>Aah (ev tm x)
 |.big most xs=>Ajg Γ most (Rr tm xs)
 |.assert t zero x=>Rg t zero (ev tm x)
 |.Z5 x=>TM (ev tm x)
def cellsOf (o:Option Block):Option (List Aa):=
 match o with
 |some (.cells vs)=>some vs
 |some (.typed _ vs)=>some vs
 |_=>none
def Adx (o:Option Block) (vs:List Aa):Block:=
 match o with
 |some (.typed e _)=>.typed e vs
 |_=>.cells vs
def bytesOf (o:Option Block):Option (Nat×Nat):=
 match o with
 |some (.bytes n e)=>some (n,e)
 |_=>none
def mapOf (o:Option Block):Option (List Entry×Nat):=
 match o with
 |some (.map es c)=>some (es,c)
 |_=>none
def MD (o:Option Block):Option (Nat×Nat):=
 match o with
 |some (.list i es)=>some (i,es)
 |_=>none
def elemV (Γ:Ao) (o:Option Block) (c:Nat) (j:ST):Option (List Aa):=
 AG (MD o) fun l=>bif Nat.beq l.2 c then OS l.1 j Γ.elems else none
def MC (Γ:Ao) (h:Al) (n:Option Nat) (x:Aa):Option Aa:=
 match x with
 |.vptr b es j off=>AG (elemV Γ (h.get b) es j) fun vs=>JB vs off n
 |.lptr i j off=>AG (OS i j Γ.elems) fun vs=>JB vs off n
 |.ptr b off=>AG (cellsOf (h.get b)) fun vs=>JB vs off n
 |_=>none
def OX (kk:LK) (x y:Aa):Option Bool:=
 match kk,x,y with
 |.int,.int k (.lit a),.int k' (.lit b)=>bif Un k k' then some (Yu a b)else none
 |.str,.str a,.str b=>some (Ow a b)
 |.bool,.bool (.lit a),.bool (.lit b)=>some (beq a b)
 |_,_,_=>none
def Aaw (Γ:Ao) (kk:LK) (k:Aa) (c:List Entry):Option (Option Aa):=
 List.rec (motive:=fun _=>Option (Option Aa)) (some none) (fun e _ ih=>AG (Je Γ kk k e.key) fun b=>bif b then some (some e.val)else ih) c
def AcR (c:List Entry):Nat:=
 List.rec (motive:=fun _=>Nat) 0 (fun _ _ ih=>ih+1) c
def U2 (ok:Bool) (v:Aa) (b:Bool):Aa:=bif ok then .tuple [v,.bool (.lit b)]else v
def Aih (ok:Bool) (zero:Aa) (r:Option Aa):Aa:=
 match r with
 |some v=>U2 ok v true
 |none=>U2 ok zero false
def IN (o:Option Block):Option Nat:=
 match o with
 |some (.smap i)=>some i
 |_=>none
def Adw (Γ:Ao) (i:Nat) (k zero:Aa) (ok:Bool):Option Aa:=
 AG (Aac i k Γ.looks) fun r=>match r with
  |some cs=>some (U2 ok (.agg cs) true)
  |none=>some (U2 ok zero false)
def P5 (kk:LK) (k:Aa):Bool:=
 match kk,k with
 |.str,.str _=>true
 |.str,.svar _=>true
 |_,_=>false
def Uh (Γ:Ao) (h:Al) (kk:LK) (b:Nat) (k zero:Aa) (ok:Bool):Option Aa:=
 match IN (h.get b)with
 |some i=>bif P5 kk k then Adw Γ i k zero ok else none
 |none=>AG (mapOf (h.get b)) fun m=>AG (Aaw Γ kk k m.1) fun r=>some (Aih ok zero r)
def WE (Γ:Ao) (h:Al) (kk:LK) (m k zero:Aa) (ok:Bool):Option Aa:=
 match m with
 |.nilMap=>some (U2 ok zero false)
 |.map b=>Uh Γ h kk b k zero ok
 |_=>none
def WG (h:Al) (x:Aa):Option Aa:=
 match x with
 |.nilMap=>some (lit .i64 (.ofNat 0))
 |.map b=>AG (mapOf (h.get b)) fun m=>some (lit .i64 (.ofNat (AcR m.1)))
 |_=>none
def Sr (e n:Nat) (l:List (Nat×Nat)):Bool:=
 List.rec (motive:=fun _=>Bool) false (fun x _ ih=>(Nat.beq x.1 e&&Nat.beq x.2 n) ||ih) l
def Y2 (ok:List (Nat×Nat)) (b:Nat) (B:Option Block):Option Aa:=
 match B with
 |some (.typed e vs)=>bif Sr e (Ad vs) ok then some (.ptr b 0)else none
 |_=>none
def Oy (h:Al) (ok:List (Nat×Nat)) (x:Aa):Option Aa:=
 match x with
 |.ptr b 0=>Y2 ok b (h.get b)
 |_=>none
def u8A (v:Aa):Option Nat:=
 match v with
 |.int .u8 (.lit (.ofNat n))=>bif Nat.ble n 255 then some n else none
 |_=>none
def AdU (l:List Aa):Option (List Nat):=
 List.rec (motive:=fun _=>Option (List Nat)) (some []) (fun v _ ih=>AG (u8A v) fun n=>AG ih fun l=>some (n::l)) l
def N1 (h:Al) (b c len:Nat):Option Aa:=
 bif Nat.beq len 0 then some (.str [])else AG (cellsOf (h.get b)) fun vs=>AG (cut vs c len) fun r=>AG (AdU r) fun s=>some (.str s)
def Xc (h:Al) (x:Aa):Option Aa:=
 match x with
 |.nilSlice=>some (.str [])
 |.slice b off len _=>N1 h b off len
 |.gslice b off len _=>N1 h b off len
 |_=>none
def D0 (Γ:Ao) (tm:Tr Aa) (h:Al) (o:NM):Option Aa:=
 match o with
 |.load n x=>MC Γ h n (ev tm x)
 |.lookup kk zero ok x k=>WE Γ h kk (ev tm x) (ev tm k) zero ok
 |.lenM x=>WG h (ev tm x)
 |.uptr ok x=>Oy h ok (ev tm x)
 |.bstr x=>Xc h (ev tm x)
def M7 (id:Nat) (zero:List Aa) (l c:Option Nat):Option (Block×Aa):=
 AG l fun l=>AG c fun c=>bif Nat.ble l c&&Nat.ble c 1048576 then some (.cells (rep zero c),.slice id 0 l c)else none
def KJ (t:Option Nat) (cs:List Aa):Block:=
 match t with
 |some e=>.typed e cs
 |none=>.cells cs
def XF (tm:Tr Aa) (id:Nat) (o:AOp):Option (Block×Aa):=
 match o with
 |.box t x=>AG (ev tm x).cells fun cs=>some (KJ t cs,.ptr id 0)
 |.zero t cs=>some (KJ t cs,.ptr id 0)
 |.bslice len zero parts=>AG (HJ tm parts zero) fun cs=>some (.cells cs,.slice id 0 len len)
 |.mkSlice zero l c=>M7 id zero (CN (ev tm l)) (CN (ev tm c))
 |.mkMap=>some (.map [] 0,.map id)
inductive GZ where
 |val (v:Aa) (h:Al)
 |call (f:FuncId) (args:List Aa)
 |panic (v:Aa)
 |defer (f:FuncId) (args:List Aa)
def Tu (h:Al) (n:Nat) (a x:Aa):Option Al:=
 match a with
 |.ptr b off=>AG (cellsOf (h.get b)) fun vs=>AG (FD vs x off n) fun c=>some (h.set b (some (Adx (h.get b) c)))
 |_=>none
def Ma (h:Al) (size b c len:Nat):Option (Nat×List Aa):=
 bif Nat.beq len 0 then some (0,[])else AG (cellsOf (h.get b)) fun vs=>AG (cut vs c (len*size)) fun r=>some (len,r)
def byteCells (l:List Nat):List Aa:=
 List.rec (motive:=fun _=>List Aa) [] (fun c _ ih=>.int .u8 (.lit (.ofNat c))::ih) l
def JP (Γ:Ao) (i c n:Nat):Nat→Option (List Aa):=
 Nat.rec (motive:=fun _=>Nat→Option (List Aa)) (fun _=>some [])
  (fun _ ih k=>AG (OS i (.lit (.ofNat k)) Γ.elems) fun cs=>bif Nat.beq (Ad cs) c then AG (ih (k+1)) fun r=>some (cs++r)else none) n
def AdZ (Γ:Ao) (size i c:Nat) (n:ST):Option (Nat×List Aa):=
 match n with
 |.lit (.ofNat m)=>bif Nat.beq size c then AG (JP Γ i c m 0) fun cs=>some (m,cs)else none
 |_=>none
def Jz (h:Al) (size:Nat) (bytes:Bool) (x:Aa):Option (Nat×List Aa):=
 match x,bytes with
 |.lst _ i es n,false=>AdZ h.fx size i es n
 |.nilSlice,false=>some (0,[])
 |.slice b off len _,false=>Ma h size b off len
 |.gslice b off len _,false=>Ma h size b off len
 |.str s,true=>bif Nat.beq size 1 then some (Iw s,byteCells s)else none
 |_,_=>none
def Ta (h:Al) (size b d len c n:Nat) (new:List Aa):Option (Aa×Al):=
 AG (cellsOf (h.get b)) fun vs=>AG (splice new (d+len*size) vs) fun g=>some (.slice b d (len+n) c,h.set b (some (.cells g)))
def Iq (h:Al) (size len n:Nat) (old new:List Aa):Option (Aa×Al):=
 bif Nat.ble (len+n) 1048576 then some (.gslice h.next 0 (len+n) size,h.add (.cells (old++new)))else none
def Xg (h:Al) (size b c len d n:Nat) (new:List Aa):Option (Aa×Al):=
 AG (cellsOf (h.get b)) fun vs=>bif Nat.beq size d&&Nat.ble (len+n) 1048576 then
  AG (cut vs c (len*size)) fun old=>some (.gslice h.next 0 (len+n) size,(h.set b none).add (.cells (old++new)))else none
def Xe (x:Aa) (h:Al):Option (Aa×Al):=
 match x with
 |.lst f i es n=>some (.lst f i es n,h)
 |.vec b es n=>some (.vec b es n,h)
 |.nilSlice=>some (x,h)
 |.slice _ _ _ _=>some (x,h)
 |.gslice _ _ _ _=>some (x,h)
 |_=>none
def Alc (v:Aa):Bool:=
 match v with
 |.bool _=>true
 |.int _ _=>true
 |.str _=>true
 |.svar _=>true
 |.lst _ _ _ _=>true
 |.nilPtr=>true
 |.nilSlice=>true
 |_=>false
def loose (v:Aa):Aa:=
 match v with
 |.lst _ i es n=>.lst false i es n
 |v=>v
def CW (l:List Aa):List Aa:=List.rec (motive:=fun _=>List Aa) [] (fun v _ ih=>loose v::ih) l
def Rb (l:List Aa):Bool:=List.rec (motive:=fun _=>Bool) true (fun v _ ih=>Alc v&&ih) l
def HT (size n:Nat):List Aa→Option (List (List Aa)):=
 Nat.rec (motive:=fun _=>List Aa→Option (List (List Aa))) (fun cs=>List.casesOn (motive:=fun _=>Option (List (List Aa))) cs (some []) (fun _ _=>none))
  (fun _ ih cs=>AG (taken size cs) fun c=>AG (ih (dropped size cs)) fun r=>some (c::r)) n
def Ir (h:Al) (size:Nat) (part:AQ) (n:Nat) (new:List Aa):Option (ST×Block):=
 bif Rb new then AG (HT size n (CW new)) fun c=>AG (JF [part,.els c] h.fx.defs) fun j=>AG (ER j h.fx.Ad) fun t=>
  bif D8 h.fx .leq t (.lit (.ofNat 1048576))then some (t,.list j size)else none else none
def Xf (h:Al) (size b c:Nat) (m:ST) (n:Nat) (new:List Aa):Option (Aa×Al):=
 AG (MD (h.get b)) fun l=>bif Nat.beq size c&&Nat.beq l.2 c then
  AG (Ir h size (.take l.1 m) n new) fun r=>some (.vec h.next size r.1,(h.set b none).add r.2)else none
def Xk (h:Al) (size i c n:Nat) (new:List Aa):Option (Aa×Al):=
 bif Nat.beq size c then AG (Ir h size (.all i) n new) fun r=>some (.vec h.next size r.1,h.add r.2)else none
def Pw (h:Al) (size:Nat) (x:Aa):Option (List AQ):=
 match x with
 |.nilSlice=>some []
 |.slice b off len c=>bif Nat.beq len c then (bif Nat.beq len 0 then some []else AG (Ma h size b off len) fun s=>bif Rb s.2 then AG (HT size len (CW s.2)) fun d=>some [.els d]else none)else none
 |.lst true i d _=>bif Nat.beq size d then some [.all i]else none
 |.vec b d m=>AG (MD (h.get b)) fun l=>bif Nat.beq size d&&Nat.beq l.2 d then some [.take l.1 m]else none
 |_=>none
def Z4 (p:List AQ) (l:List (Nat×List AQ)):Option Nat:=
 List.rec (motive:=fun _=>Option Nat) none (fun e _ ih=>bif AQ.Pk p e.2 then some e.1 else ih) l
def LM (h:Al) (size:Nat) (x:Aa) (n:Nat) (new:List Aa):Option (Aa×Al):=
 bif Rb new then AG (Pw h size x) fun p=>AG (HT size n (CW new)) fun c=>AG (Z4 (p++[.els c]) h.fx.defs) fun j=>AG (ER j h.fx.Ad) fun t=>
  bif D8 h.fx .leq t (.lit (.ofNat 1048576))then some (.vec h.next size t,h.add (.list j size))else none
 else none
def orR (a b:Option (Aa×Al)):Option (Aa×Al):=
 match a with
 |some r=>some r
 |none=>b
def Xh (h:Al) (size:Nat) (x:Aa) (n:Nat) (new:List Aa):Option (Aa×Al):=
 match x with
 |.vec b es m=>Xf h size b es m n new
 |.lst true i es _=>Xk h size i es n new
 |.nilSlice=>orR (LM h size .nilSlice n new) (Iq h size 0 n [] new)
 |.slice b off len c=>
  bif Nat.ble (len+n) c then Ta h size b off len c n new
  else orR (LM h size (.slice b off len c) n new) (AG (Ma h size b off len) fun old=>Iq h size len n old.2 new)
 |.gslice b off len es=>Xg h size b off len es n new
 |_=>none
def Is (h:Al) (size:Nat) (x:Aa) (n:Nat) (new:List Aa):Option (Aa×Al):=
 bif Nat.beq n 0 then Xe x h else Xh h size x n new
def AcL (v:Aa):Bool:=
 match v with
 |.int .u8 (.lit (.ofNat n))=>Nat.ble n 255
 |_=>false
def Xl (l:List Aa):Bool:=List.rec (motive:=fun _=>Bool) true (fun v _ ih=>AcL v&&ih) l
def Acw (h:Al) (bytes:Bool) (y:Aa):Option (Nat×Nat):=
 match y,bytes with
 |.svar i,true=>AG (WD i h.fx.BA) fun r=>some r.2
 |.str s,true=>some (Iw s,Iw s)
 |.anyStr n,true=>some (1,n)
 |y,false=>AG (Jz h 1 false y) fun s=>bif Xl s.2 then some (s.1,s.1)else none
 |_,_=>none
def Hy (o:Option Block):Option (ST×Nat):=
 match o with
 |some (.sbytes t e)=>some (t,e)
 |_=>none
def Xj (h:Al) (e b n:Nat):Option (Aa×Al):=
 match Hy (h.get b)with
 |some m=>bif Nat.beq m.2 e then AG (Aaf m.1 n h.fx.CQ) fun t=>some (.gbytes h.next,(h.set b none).add (.sbytes t e))else none
 |none=>AG (bytesOf (h.get b)) fun m=>bif Nat.beq m.2 e&&Nat.ble (m.1+n) 1048576 then some (.gbytes h.next,(h.set b none).add (.bytes (m.1+n) e))else none
def Rl (h:Al) (e:Nat) (x:Aa) (c n:Nat):Option (Aa×Al):=
 match x with
 |.nilSlice=>bif Nat.beq c 0 then (bif Nat.beq n 0 then some (x,h)else none)else bif Nat.ble n 1048576 then some (.gbytes h.next,h.add (.bytes n e))else none
 |.gbytes b=>Xj h e b n
 |_=>none
def hidden (x:Aa):Bool:=
 match x with
 |.nilSlice=>true
 |.gbytes _=>true
 |_=>false
def Aiw (h:Al) (x:Aa):Al:=
 match x with
 |.vec b _ _=>h.set b none
 |_=>h
def LL (h:Al) (size:Nat) (x:Aa) (i c:Nat) (n:ST):Option (Aa×Al):=
 bif Nat.beq size c&&D8 h.fx .gtr n (.lit (.ofNat 0))then
  AG (Pw h size x) fun p=>AG (JF (p++[.all i]) h.fx.defs) fun j=>AG (ER j h.fx.Ad) fun t=>
   bif D8 h.fx .leq t (.lit (.ofNat 1048576))then some (.vec h.next size t,(Aiw h x).add (.list j size))else none
 else none
def W0 (y:Aa) (bytes:Bool):Option (Nat×Nat×ST):=
 match y,bytes with
 |.lst _ _ _ (.lit _),_=>none
 |.lst _ i es n,false=>some (i,es,n)
 |_,_=>none
def U3 (b c len d j:Nat) (v:Aa):Aa:=
 match v with
 |.slice b' off' len' c'=>bif Nat.beq b b'&&(Nat.beq c off'&&Nat.beq len len')then .lst (Nat.beq c' len) j d (.lit (.ofNat len))else v
 |.gslice b' off' len' _=>bif Nat.beq b b'&&(Nat.beq c off'&&Nat.beq len len')then .lst false j d (.lit (.ofNat len))else v
 |v=>v
def LB (b c len d j:Nat) (l:List Aa):List Aa:=
 List.rec (motive:=fun _=>List Aa) [] (fun v _ ih=>U3 b c len d j v::ih) l
def Tr.map {α:Type} (g:α→α) (t:Tr α):Tr α:=
 Tr.rec (motive:=fun _=>Tr α) .nil (fun v _ _ l r=>.node (v.map g) l r) (fun n v _ t=>.over n (v.map g) t) t
def Pc (Γ:Ao) (d len g j:Nat) (vs:List Aa):Bool:=
 Dv (AG (cut vs d (len*g)) fun cs=>bif Rb cs then AG (HT g len (CW cs)) fun c=>AG (JF [.els c] Γ.defs) fun j'=>some (Nat.beq j' j)else none)
def Fo (h:Al) (z:Nat×Nat×Nat×Nat×Nat) (new:List Aa):Al×List Aa:=
 match h.get z.1 with
 |some (.cells vs)=>bif Pc h.fx z.2.1 z.2.2.1 z.2.2.2.1 z.2.2.2.2 vs then (h.set z.1 none,LB z.1 z.2.1 z.2.2.1 z.2.2.2.1 z.2.2.2.2 new)else (h,new)
 |_=>(h,new)
def Gh (l:List (Nat×Nat×Nat×Nat×Nat)):Al→List Aa→Al×List Aa:=
 List.rec (motive:=fun _=>Al→List Aa→Al×List Aa) (fun h n=>(h,n)) (fun z _ ih h n=>ih (Fo h z n).1 (Fo h z n).2) l
def Adh (size:Nat) (x:Aa) (n:Nat) (r:Al×List Aa):Option (Aa×Al):=Is r.1 size x n r.2
def Rk (h:Al) (size:Nat) (x:Aa) (n:Nat) (new:List Aa):Option (Aa×Al):=
 match x with
 |.vec b es m=>bif Rb new then Is h size (.vec b es m) n new else Adh size (.vec b es m) n (Gh h.fx.BI h new)
 |x=>Is h size x n new
def Xi (h:Al) (size:Nat) (bytes:Bool) (x y:Aa):Option (Aa×Al):=
 match W0 y bytes with
 |some l=>LL h size x l.1 l.2.1 l.2.2
 |none=>AG (Jz h size bytes y) fun s=>Rk h size x s.1 s.2
def SZ (h:Al) (size:Nat) (c:Option Nat) (bytes:Bool) (x y:Aa):Option (Aa×Al):=
 match c,hidden x with
 |some e,true=>AG (Acw h bytes y) fun s=>Rl h e x s.1 s.2
 |_,_=>Xi h size bytes x y
def Adp (h:Al) (b:Nat) (m:Nat×Nat) (e:Nat):Option GZ:=
 bif Nat.beq m.2 e then some (.val (.anyStr m.1) (h.set b none))else none
def Ado (h:Al) (b e:Nat):Option GZ:=
 match Hy (h.get b)with
 |some m=>bif Nat.beq m.2 e then some (.val (.anyStr 1048576) (h.set b none))else none
 |none=>AG (bytesOf (h.get b)) fun m=>Adp h b m e
def Y1 (h:Al) (e:Nat) (p n:Aa):Option GZ:=
 match p,n with
 |.nilPtr,.int .i64 (.lit (.ofNat 0))=>some (.val (.str []) h)
 |.ptr b 0,.glen c=>bif Nat.beq b c then Ado h b e else none
 |_,_=>none
def TZ (h:Al) (x:Aa):Option GZ:=some (.val x h)
def WU (h:Al) (size b d m:Nat) (src:List Aa):Option (Aa×Al):=
 bif Nat.beq m 0 then some (lit .i64 (.ofNat 0),h)
 else AG (cellsOf (h.get b)) fun vs=>AG (taken (m*size) src) fun r=>AG (splice r d vs) fun c=>some (lit .i64 (.ofNat m),h.set b (some (.cells c)))
def AaE (h:Al) (size:Nat) (x:Aa) (n:Nat) (src:List Aa):Option (Aa×Al):=
 match x with
 |.nilSlice=>some (lit .i64 (.ofNat 0),h)
 |.slice b off len _=>WU h size b off (bif Nat.ble n len then n else len) src
 |.gslice b off len _=>WU h size b off (bif Nat.ble n len then n else len) src
 |_=>none
def AdT (kk:LK) (k v:Aa) (c:Nat) (d:List Entry):Option (List Entry×Bool):=
 List.rec (motive:=fun _=>Option (List Entry×Bool)) (some ([⟨k,v,c⟩],true))
  (fun e d ih=>AG (OX kk k e.key) fun b=>bif b then some (⟨k,v,e.born⟩::d,false)else AG ih fun r=>some (e::r.1,r.2)) d
def ZY (h:Al) (b i:Nat) (k v:Aa):Option Al:=
 match v with
 |.agg cs=>bif Rb cs then AG (Aab i k (CW cs) h.fx.Lx) fun j=>some (h.set b (some (.smap j)))else none
 |_=>none
def ZZ (h:Al) (kk:LK) (b:Nat) (k v:Aa):Option Al:=
 match IN (h.get b)with
 |some i=>bif P5 kk k then ZY h b i k v else none
 |none=>AG (mapOf (h.get b)) fun m=>bif k.single then AG (AdT kk k v m.2 m.1) fun r=>
   some (h.set b (some (.map r.1 (bif r.2 then m.2+1 else m.2))))else none
def Uc (h:Al) (kk:LK) (m k v:Aa):Option Al:=
 match m with
 |.map b=>ZZ h kk b k v
 |_=>none
def Nz (f:Aa) (args:List Aa):Option (FuncId×List Aa):=
 match f with
 |.func g first cap=>some (g,first++(args++cap))
 |_=>none
def AaI (h:Al) (t:TypeId) (b:Nat):Option GZ:=
 match IN (h.get b)with
 |some i=>some (.val (.iface t (.map h.next)) (h.add (.smap i)))
 |none=>AG (mapOf (h.get b)) fun m=>some (.val (.iface t (.map h.next)) (h.add (.map m.1 m.2)))
def UN (h:Al) (x:Aa):Option GZ:=
 match x with
 |.iface t (.map b)=>AaI h t b
 |_=>none
def TT (x:Aa):Option GZ:=
 match x with
 |.iface t v=>some (.panic (.iface t v))
 |_=>none
def Ks (tm:Tr Aa) (h:Al) (o:MOp):Option GZ:=
 match o with
 |.store n a x=>AG (Tu h n (ev tm a) (ev tm x)) fun c=>some (.val .any c)
 |.call f args=>AG (Nz (ev tm f) (Rr tm args)) fun r=>some (.call r.1 r.2)
 |.append size u8 bytes x y=>AG (SZ h size u8 bytes (ev tm x) (ev tm y)) fun r=>some (.val r.1 r.2)
 |.copy size bytes x y=>AG (Jz h size bytes (ev tm y)) fun s=>AG (AaE h size (ev tm x) s.1 s.2) fun r=>some (.val r.1 r.2)
 |.mapUp kk m k v=>AG (Uc h kk (ev tm m) (ev tm k) (ev tm v)) fun c=>some (.val .any c)
 |.clone x=>UN h (ev tm x)
 |.panic x=>TT (ev tm x)
 |.defer f args=>AG (Nz (ev tm f) (Rr tm args)) fun r=>some (.defer r.1 r.2)
 |.recover=>none
 |.AdS e p n=>Y1 h e (ev tm p) (ev tm n)
 |.ZR x=>TZ h (ev tm x)
structure BC where
 args:List Aa
 pre:List Block
 res:Aa
 post:List (Option Block)
def AdL (v:Aa):Option Nat:=
 match v with
 |.ptr b _=>some b
 |.slice b _ _ _=>some b
 |.gslice b _ _ _=>some b
 |.map b=>some b
 |.vec b _ _=>some b
 |.vptr b _ _ _=>some b
 |.gbytes b=>some b
 |_=>none
def WM (v:Aa):List Aa:=
 match v with
 |.agg cs=>cs
 |v=>[v]
def AlO (p a:Aa) (σ:List Nat):List Nat:=
 match AdL p,AdL a with
 |some i,some j=>bif Nat.ble (Iw σ) i then σ++[j]else σ
 |_,_=>σ
def AcY (h:Al) (b:Option Nat):List Aa:=
 match b with
 |some b=>(match h.get b with|some (.cells us)=>us|some (.typed _ us)=>us|_=>[])
 |none=>[]
def Afs (B:Block):List Aa:=
 match B with
 |.cells vs=>vs
 |.typed _ vs=>vs
 |_=>[]
def ZG (σ:List Nat) (v:Aa):Option Aa:=
 match v with
 |.ptr b o=>AG (Cn σ b) fun c=>some (.ptr c o)
 |.slice b o l c=>AG (Cn σ b) fun d=>some (.slice d o l c)
 |.gslice b o l e=>AG (Cn σ b) fun d=>some (.gslice d o l e)
 |.map b=>AG (Cn σ b) fun d=>some (.map d)
 |.vec b e n=>AG (Cn σ b) fun d=>some (.vec d e n)
 |.vptr b e j o=>AG (Cn σ b) fun d=>some (.vptr d e j o)
 |.anyStr n=>some (.anyStr n)
 |.gbytes b=>AG (Cn σ b) fun d=>some (.gbytes d)
 |.bool b=>some (.bool b)
 |.int k n=>some (.int k n)
 |.str s=>some (.str s)
 |.svar i=>some (.svar i)
 |.lst f i e n=>some (.lst f i e n)
 |.lptr i j o=>some (.lptr i j o)
 |.nilPtr=>some .nilPtr
 |.nilSlice=>some .nilSlice
 |.nilMap=>some .nilMap
 |.nilFunc=>some .nilFunc
 |.nilIface=>some .nilIface
 |_=>none
def Wv (σ:List Nat) (l:List Aa):Option (List Aa):=
 List.rec (motive:=fun _=>Option (List Aa)) (some []) (fun v _ ih=>AG (ZG σ v) fun u=>AG ih fun us=>some (u::us)) l
def J9 (σ:List Nat) (v:Aa):Option Aa:=
 match v with
 |.func f a c=>AG (Wv σ a) fun a=>AG (Wv σ c) fun c=>some (.func f a c)
 |v=>ZG σ v
def AaB (Γ:Ao) (j:Nat):Bool:=
 match ER j Γ.Ad with
 |some (.lit (.ofNat 0))=>true
 |_=>false
def Aam (a:Aa):Bool:=
 match a with
 |.nilSlice=>true
 |_=>false
def HM (Γ:Ao) (σ:List Nat) (p a:Aa):Bool:=
 match J9 σ p with
 |some v=>v.eq a||v.eq (loose a) ||(match v with|.lst false j _ n=>Aam a&&(AaB Γ j&&n.eq (.lit (.ofNat 0))) |_=>false)
 |none=>false
def Ab5 (c:List Aa):List Aa→List Nat→List Nat:=
 List.rec (motive:=fun _=>List Aa→List Nat→List Nat) (fun _ σ=>σ) (fun p _ ih as σ=>List.casesOn (motive:=fun _=>List Nat) as σ (fun a as=>ih as (AlO p a σ))) c
def Vi (c:List Aa):List Aa→List Nat→List Nat:=
 List.rec (motive:=fun _=>List Aa→List Nat→List Nat) (fun _ σ=>σ) (fun p _ ih as σ=>List.casesOn (motive:=fun _=>List Nat) as σ (fun a as=>ih as (Ab5 (WM p) (WM a) σ))) c
def Rt (h:Al) (l:List Block):Nat→List Nat→List Nat:=
 List.rec (motive:=fun _=>Nat→List Nat→List Nat) (fun _ σ=>σ) (fun B _ ih i σ=>ih (i+1) (Ab5 (Afs B) (AcY h (Cn σ i)) σ)) l
def GA (Γ:Ao) (σ:List Nat) (c:List Aa):List Aa→Bool:=
 List.rec (motive:=fun _=>List Aa→Bool) (fun as=>List.casesOn (motive:=fun _=>Bool) as true (fun _ _=>false))
  (fun p _ ih as=>List.casesOn (motive:=fun _=>Bool) as false (fun a as=>HM Γ σ p a&&ih as)) c
def ZV (n:Nat) (l:List Nat):Bool:=List.rec (motive:=fun _=>Bool) false (fun m _ ih=>Nat.beq m n||ih) l
def IQ (l:List Nat):Bool:=List.rec (motive:=fun _=>Bool) true (fun n r ih=>!(ZV n r)&&ih) l
def GJ (l:List Block):Nat:=List.rec (motive:=fun _=>Nat) 0 (fun _ _ ih=>ih+1) l
def Ms (σ:List Nat) (l:List Aa):Option (List Aa):=
 List.rec (motive:=fun _=>Option (List Aa)) (some []) (fun v _ ih=>AG (J9 σ v) fun u=>AG ih fun us=>some (u::us)) l
def Afr (l:List Entry):List (Aa×List Aa)→Bool:=
 List.rec (motive:=fun _=>List (Aa×List Aa)→Bool) (fun y=>List.casesOn (motive:=fun _=>Bool) y true (fun _ _=>false))
  (fun e _ ih y=>List.casesOn (motive:=fun _=>Bool) y false (fun x y=>e.key.eq x.1&&((match e.val with|.agg cs=>Rb cs&&Aa.Pk (CW cs) x.2|_=>false)&&ih y))) l
def Ug (i:Nat) (l:List (Nat×List (Aa×List Aa))):Option (List (Aa×List Aa)):=
 List.rec (motive:=fun _=>Option (List (Aa×List Aa))) none (fun e _ ih=>bif Nat.beq e.1 i then some e.2 else ih) l
def ZM (i j:Nat) (l:List (Nat×List AQ)):Bool:=
 List.rec (motive:=fun _=>Bool) false (fun e _ ih=>(Nat.beq e.1 i&&(match e.2 with|[.take k _]=>Nat.beq k j|_=>false)) ||ih) l
def Nk (Γ:Ao) (σ:List Nat) (p a:Aa):Bool:=
 match p,a with
 |.agg ps,.agg as=>GA Γ σ ps as
 |p,a=>HM Γ σ p a
def QN (Γ:Ao) (σ:List Nat) (c:List Entry):List Entry→Bool:=
 List.rec (motive:=fun _=>List Entry→Bool) (fun as=>List.casesOn (motive:=fun _=>Bool) as true (fun _ _=>false))
  (fun p _ ih as=>List.casesOn (motive:=fun _=>Bool) as false (fun a as=>HM Γ σ p.key a.key&&(HM Γ σ p.val a.val&&(Nat.beq p.born a.born&&ih as)))) c
def Nj (Γ:Ao) (σ:List Nat) (B A:Block):Bool:=
 match B,A with
 |.cells ps,.cells as=>GA Γ σ ps as
 |.typed e ps,.typed e' as=>Nat.beq e e'&&GA Γ σ ps as
 |.list i es,.list j es'=>(Nat.beq i j||ZM i j Γ.defs)&&Nat.beq es es'
 |.smap i,.smap j=>Nat.beq i j
 |.map ps c,.map as d=>Nat.beq c d&&QN Γ σ ps as
 |.smap i,.map es _=>Dv (AG (Ug i Γ.CO) fun l=>some (Afr es l))
 |.sbytes t e,.sbytes t' e'=>t.eq t'&&Nat.beq e e'
 |.sbytes t e,.bytes n e'=>t.eq (.lit (.ofNat n))&&Nat.beq e e'
 |.bytes n e,.bytes n' e'=>Nat.beq n n'&&Nat.beq e e'
 |_,_=>false
def eqB (Γ:Ao) (h:Al) (σ:List Nat) (i:Nat) (B:Block):Bool:=
 match Cn σ i with
 |some b=>(match h.get b with|some A=>Nj Γ σ B A|none=>false)
 |none=>false
def Acz (σ:List Nat) (v:Aa):Option Aa:=
 match v with
 |.agg cs=>AG (Ms σ cs) fun cs=>some (.agg cs)
 |v=>J9 σ v
def ZD (σ:List Nat) (l:List Aa):Option (List Aa):=
 List.rec (motive:=fun _=>Option (List Aa)) (some []) (fun v _ ih=>AG (Acz σ v) fun u=>AG ih fun us=>some (u::us)) l
def TQ (σ:List Nat) (v:Aa):Option Aa:=
 match v with
 |.agg cs=>AG (Ms σ cs) fun cs=>some (.agg cs)
 |.tuple cs=>AG (ZD σ cs) fun cs=>some (.tuple cs)
 |v=>J9 σ v
def ZE (σ:List Nat) (l:List Entry):Option (List Entry):=
 List.rec (motive:=fun _=>Option (List Entry)) (some []) (fun e _ ih=>AG (J9 σ e.key) fun k=>AG (J9 σ e.val) fun v=>AG ih fun c=>some (⟨k,v,e.born⟩::c)) l
def X3 (σ:List Nat) (B:Block):Option Block:=
 match B with
 |.cells vs=>AG (Ms σ vs) fun vs=>some (.cells vs)
 |.typed e vs=>AG (Ms σ vs) fun vs=>some (.typed e vs)
 |.list i d=>some (.list i d)
 |.smap i=>some (.smap i)
 |.sbytes t e=>some (.sbytes t e)
 |.bytes n e=>some (.bytes n e)
 |.map d c=>AG (ZE σ d) fun d=>some (.map d c)
def Ac2 (σ:List Nat) (i:Nat) (B:Option Block) (h:Al):Option Al:=
 AG (Cn σ i) fun b=>match B with
  |some B=>AG (X3 σ B) fun B=>some (h.set b (some B))
  |none=>some (h.set b none)
def KB (Γ:Ao) (σ:List Nat) (c:List Aa):List Aa→Bool:=
 List.rec (motive:=fun _=>List Aa→Bool) (fun as=>List.casesOn (motive:=fun _=>Bool) as true (fun _ _=>false))
  (fun p _ ih as=>List.casesOn (motive:=fun _=>Bool) as false (fun a as=>Nk Γ σ p a&&ih as)) c
def XW (Γ:Ao) (h:Al) (σ:List Nat) (l:List Block):Nat→Bool:=
 List.rec (motive:=fun _=>Nat→Bool) (fun _=>true) (fun B _ ih i=>eqB Γ h σ i B&&ih (i+1)) l
def Bi (l:List Block):Al→Al:=
 List.rec (motive:=fun _=>Al→Al) (fun h=>h) (fun B _ ih h=>ih (h.add B)) l
def CB (l:List (Option Block)):Al→Al:=
 List.rec (motive:=fun _=>Al→Al) (fun h=>h) (fun B _ ih h=>ih ⟨Tr.set h.DR h.next B,h.next+1,h.fx⟩) l
def OJ (σ:List Nat) (l:List (Option Block)):Nat→Al→Option Al:=
 List.rec (motive:=fun _=>Nat→Al→Option Al) (fun _ h=>some h) (fun B _ ih i h=>AG (Ac2 σ i B h) fun c=>ih (i+1) c) l
def Lb (l:List (Option Block)):Nat→Nat→List Nat:=
 List.rec (motive:=fun _=>Nat→Nat→List Nat) (fun _ _=>[]) (fun _ _ ih k n=>Nat.casesOn (motive:=fun _=>List Nat) k (n::ih 0 (n+1)) (fun k=>ih k n)) l
def Sf (l:List (Option Block)):Nat:=List.rec (motive:=fun _=>Nat) 0 (fun _ _ ih=>ih+1) l
def Ad4 (x:BC) (args:List Aa) (h:Al) (σ:List Nat):Bool:=
 Nat.beq (Iw σ) (GJ x.pre)&&(Nat.ble (GJ x.pre) (Sf x.post)&&(IQ σ&&(KB h.fx σ x.args args&&XW h.fx h σ x.pre 0)))
inductive NK where
 |ret (v:Aa)
 |panic (v:Aa)
abbrev C1:=FuncId→List Aa→Al→Option (NK×Al)
structure Fr where
 tm:Tr Aa
 h:Al
 df:List (FuncId×List Aa)
def DY (tm:Tr Aa) (d:Option Nat) (v:Aa):Tr Aa:=
 match d with
 |some d=>Tr.set tm d (some v)
 |none=>tm
def IG:Aa:=.tuple []
def Vj (c:Bool) (v:Option Aa):Option Bool:=
 match v with
 |some (.bool (.lit b))=>some (beq c b)
 |some (.tuple [])=>some false
 |_=>none
def Dn (tm:Tr Aa) (g:Option (Nat×Bool)):Option Bool:=
 match g with
 |none=>some true
 |some g=>Vj g.2 (Tr.get tm g.1)
inductive Cp where
 |go (f:Fr)
 |panic (v:Aa) (f:Fr)
def XN (f:Fr) (d:Option Nat) (v:Aa):Cp:=.go ⟨DY f.tm d v,f.h,f.df⟩
def K4 (f:Fr) (d:Option Nat) (v:Aa) (h:Al):Cp:=.go ⟨DY f.tm d v,h,f.df⟩
def AcZ (f:Fr) (d:Option Nat) (r:NK) (h:Al):Cp:=
 match r with
 |.ret v=>K4 f d v h
 |.panic v=>.panic v ⟨f.tm,h,f.df⟩
def AeZ (call:C1) (f:Fr) (d:Option Nat) (r:GZ):Option Cp:=
 match r with
 |.val v h=>some (K4 f d v h)
 |.call g args=>AG (call g args f.h) fun r=>some (AcZ f d r.1 r.2)
 |.panic v=>some (.panic v f)
 |.defer g args=>some (.go ⟨DY f.tm d .any,f.h,(g,args)::f.df⟩)
def Ws (Γ:Ao) (call:C1) (d:Option Nat) (f:Fr) (o:DQ):Option Cp:=
 match o with
 |.p o=>AG (I6 Γ f.tm o) fun v=>some (XN f d v)
 |.r o=>AG (D0 Γ f.tm f.h o) fun v=>some (XN f d v)
 |.a o=>AG (XF f.tm f.h.next o) fun r=>some (K4 f d r.2 (f.h.add r.1))
 |.m o=>AG (Ks f.tm f.h o) fun r=>AeZ call f d r
def I3 (Γ:Ao) (call:C1) (s:Step) (f:Fr):Option Cp:=
 AG (Dn f.tm s.guard) fun w=>bif w then Ws Γ call s.dst f s.op else some (XN f s.dst IG)
def goes (r:Cp) (k:Fr→Option Cp):Option Cp:=
 match r with
 |.go f=>k f
 |.panic v f=>some (.panic v f)
def TK (Γ:Ao) (call:C1) (l:List Step):Fr→Option Cp:=
 List.rec (motive:=fun _=>Fr→Option Cp) (fun f=>some (.go f)) (fun s _ ih f=>AG (I3 Γ call s f) fun x=>goes x ih) l
def Aa.eqs (x y:Aa):Bool:=
 match x,y with
 |.agg a,.agg b=>Aa.Pk a b
 |.tuple a,.tuple b=>Aa.Pk a b
 |x,y=>x.eq y
def Z7 (v:Aa) (o:Option Aa):Bool:=
 match o with
 |some u=>v.eqs u
 |none=>false
def UY (Γ:Ao) (tm:Tr Aa) (o:NM) (v:Aa) (n:Nat):List Al→Bool:=
 Nat.rec (motive:=fun _=>List Al→Bool) (fun _=>true)
  (fun _ ih hs=>List.casesOn (motive:=fun _=>Bool) hs false (fun h hs=>Z7 v (D0 Γ tm h o)&&ih hs)) n
def forget (l:List Step):Tr Aa→Tr Aa:=
 List.rec (motive:=fun _=>Tr Aa→Tr Aa) (fun t=>t) (fun s _ ih t=>ih (match s.dst with|some d=>Tr.set t d none|none=>t)) l
def BZ (o:DQ):Bool:=
 match o with
 |.m _=>true
 |_=>false
def VR (Γ:Ao) (f:Fr) (o:NM) (back:Nat) (hs:List Al) (w:Option Bool):Bool:=
 match w with
 |some true=>(match D0 Γ f.tm f.h o with
  |some v=>UY Γ f.tm o v back hs
  |none=>false)
 |some false=>true
 |none=>false
def LG (Γ:Ao) (s:Step) (f:Fr) (hs:List Al):Bool:=
 match s.op,s.back with
 |.r o,n+1=>VR Γ f o (n+1) hs (Dn f.tm s.guard)
 |_,_=>true
def U6 (Γ:Ao) (tm:Tr Aa) (h:Al) (id:Nat) (o:DQ):Option (Aa×Option Block):=
 match o with
 |.p o=>AG (I6 Γ tm o) fun v=>some (v,none)
 |.r o=>AG (D0 Γ tm h o) fun v=>some (v,none)
 |.a o=>AG (XF tm id o) fun r=>some (r.2,some r.1)
 |.m _=>none
def HG (Γ:Ao) (tm:Tr Aa) (h:Al) (id:Nat) (s:Step):Option (Aa×Option Block):=
 AG (Dn tm s.guard) fun w=>bif w then U6 Γ tm h id s.op else some (IG,none)
def Gq (h:Al) (id:Nat) (b:Option Block):Al:=
 match b with
 |some B=>⟨Tr.set h.DR id (some B),h.next,h.fx⟩
 |none=>h
def AcM (f:Fr) (d:Option Nat) (id:Nat) (r:Aa×Option Block):Cp:=.go ⟨DY f.tm d r.1,Gq f.h id r.2,f.df⟩
def I2 (Γ:Ao) (call:C1) (s:Step) (id:Nat) (f:Fr):Option Cp:=
 bif BZ s.op then I3 Γ call s f else AG (HG Γ f.tm f.h id s) fun r=>some (AcM f s.dst id r)
def KI (l:List Step):Nat→Bool:=
 List.rec (motive:=fun _=>Nat→Bool) (fun _=>true) (fun s _ ih k=>bif BZ s.op then ih (k+1)else Nat.ble s.back k&&ih k) l
def Su (all rest:List Step) (r:Cp) (k:Fr→Option Cp):Option Cp:=
 match r with
 |.go f=>k f
 |.panic v f=>bif KI rest 0 then some (.panic v ⟨forget all f.tm,f.h,f.df⟩)else none
def Ajh (id:Nat) (B:Block) (l:List Al):List Al:=
 List.rec (motive:=fun _=>List Al) [] (fun h _ ih=>⟨Tr.set h.DR id (some B),h.next,h.fx⟩::ih) l
def Lc (h c:Al) (id:Nat):Option Block:=
 match h.get id with
 |none=>c.get id
 |some _=>none
def Mk (id:Nat) (B:Option Block) (hs:List Al):List Al:=
 match B with
 |some B=>Ajh id B hs
 |none=>hs
def Ll (Γ:Ao) (call:C1) (all l:List Step):Nat→Fr→List Al→Option Cp:=
 List.rec (motive:=fun _=>Nat→Fr→List Al→Option Cp) (fun _ f _=>some (.go f))
  (fun s r ih id f hs=>bif LG Γ s f hs then AG (I2 Γ call s id f) fun x=>Su all r x fun c=>ih (id+1) c (bif BZ s.op then f.h::hs else Mk id (Lc f.h c.h id) hs)else none) l
def BA (l:List Step):Nat:=List.rec (motive:=fun _=>Nat) 0 (fun _ _ ih=>ih+1) l
def Hz (n:Nat) (f:Fr):Fr:=⟨f.tm,⟨f.h.DR,f.h.next+n,f.h.fx⟩,f.df⟩
inductive Bm where
 |normal
 |exit (id:Nat)
 |ret
 |panic (v:Aa)
def FN (r:Cp):Bm×Fr:=
 match r with
 |.go f=>(.normal,f)
 |.panic v f=>(.panic v,f)
def Afm (b c len d j:Nat) (v:Aa):Aa:=
 match v with
 |.agg cs=>.agg (LB b c len d j cs)
 |.tuple cs=>.tuple (LB b c len d j cs)
 |v=>U3 b c len d j v
def Aik (b c len d j:Nat) (B:Block):Block:=
 match B with
 |.cells vs=>.cells (LB b c len d j vs)
 |.typed e vs=>.typed e (LB b c len d j vs)
 |B=>B
def QE (b i c:Nat) (t:ST) (v:Aa):Aa:=
 match v with
 |.vec b' es' n=>bif Nat.beq b b'&&(Nat.beq c es'&&n.eq t)then .lst false i c t else v
 |v=>v
def HC (b i c:Nat) (t:ST) (l:List Aa):List Aa:=
 List.rec (motive:=fun _=>List Aa) [] (fun v _ ih=>QE b i c t v::ih) l
def Ad3 (b i c:Nat) (t:ST) (v:Aa):Aa:=
 match v with
 |.agg cs=>.agg (HC b i c t cs)
 |.tuple cs=>.tuple (HC b i c t cs)
 |v=>QE b i c t v
def Aij (b i c:Nat) (t:ST) (B:Block):Block:=
 match B with
 |.cells vs=>.cells (HC b i c t vs)
 |.typed e vs=>.typed e (HC b i c t vs)
 |B=>B
def QG (Γ:Ao) (z:Nat×Nat×Nat×Nat×Nat) (f:Fr):Fr:=
 match f.h.get z.1 with
 |some (.cells vs)=>bif Pc Γ z.2.1 z.2.2.1 z.2.2.2.1 z.2.2.2.2 vs then
   ⟨Tr.map (Afm z.1 z.2.1 z.2.2.1 z.2.2.2.1 z.2.2.2.2) f.tm,⟨Tr.map (Aik z.1 z.2.1 z.2.2.1 z.2.2.2.1 z.2.2.2.2) (Tr.set f.h.DR z.1 none),f.h.next,f.h.fx⟩,f.df⟩else f
 |some (.list i es)=>bif Nat.beq i z.2.2.2.2 then (match ER i Γ.Ad with
  |some t=>⟨Tr.map (Ad3 z.1 i es t) f.tm,⟨Tr.map (Aij z.1 i es t) (Tr.set f.h.DR z.1 none),f.h.next,f.h.fx⟩,f.df⟩
  |none=>f)else f
 |_=>f
def U4 (Γ:Ao) (l:List (Nat×Nat×Nat×Nat×Nat)):Fr→Fr:=
 List.rec (motive:=fun _=>Fr→Fr) (fun f=>f) (fun z _ ih f=>ih (QG Γ z f)) l
def PZ (Γ:Ao) (r:Bm×Fr):Bm×Fr:=
 match r.1,Γ.BI with
 |.normal,z::l=>(.normal,U4 Γ (z::l) r.2)
 |_,_=>r
def Qe (Γ:Ao) (call:C1) (d:Bool) (c:List Step) (f:Fr):Option (Bm×Fr):=
 AG (bif d then Ll Γ call c c f.h.next (Hz (BA c) f) []else TK Γ call c f) fun r=>some (PZ Γ (FN r))
def andThen (r:Bm×Fr) (k:Fr→Option (Bm×Fr)):Option (Bm×Fr):=
 match r.1 with
 |.normal=>k r.2
 |_=>some r
def AaG (v:Aa) (t e:Option (Bm×Fr)):Option (Bm×Fr):=
 match v with
 |.bool (.lit b)=>bif b then t else e
 |_=>none
def Gv (id:Nat) (r:Bm×Fr):Bm×Fr:=
 match r.1 with
 |.exit i=>(bif Nat.beq i id then .normal else .exit i,r.2)
 |_=>r
def Tl (tm:Tr Aa) (l:List (Nat×Aa)):List Nat→List Nat:=
 List.rec (motive:=fun _=>List Nat→List Nat) (fun σ=>σ) (fun p _ ih σ=>ih (Ab5 (WM p.2) (WM (E9 (Tr.get tm p.1))) σ)) l
def WN (Γ:Ao) (σ:List Nat) (tm:Tr Aa) (l:List (Nat×Aa)):Bool:=
 List.rec (motive:=fun _=>Bool) true (fun p _ ih=>Nk Γ σ p.2 (E9 (Tr.get tm p.1))&&ih) l
def TP (σ:List Nat) (l:List (Nat×Aa)):Tr Aa→Option (Tr Aa):=
 List.rec (motive:=fun _=>Tr Aa→Option (Tr Aa)) (fun t=>some t) (fun p _ ih t=>AG (TQ σ p.2) fun v=>ih (Tr.set t p.1 (some v))) l
def Oz (l:List (Nat×Aa)):Tr Aa→Tr Aa:=
 List.rec (motive:=fun _=>Tr Aa→Tr Aa) (fun t=>t) (fun p _ ih t=>ih (Tr.set t p.1 (some p.2))) l
def AcO (Γ:Ao) (σ:List Nat) (p a:List (FuncId×List Aa)):Bool:=
 match p,a with
 |[],[]=>true
 |[p],[a]=>Nat.beq p.1 a.1&&KB Γ σ p.2 a.2
 |_,_=>false
def Yw (p a:List (FuncId×List Aa)) (σ:List Nat):List Nat:=
 match p,a with
 |[p],[a]=>Ab5 p.2 a.2 σ
 |_,_=>σ
def ZF (σ:List Nat) (p:List (FuncId×List Aa)):Option (List (FuncId×List Aa)):=
 match p with
 |[]=>some []
 |[p]=>AG (Ms σ p.2) fun l=>some [(p.1,l)]
 |_=>none
def Ad5 (Γ:Ao) (k:BF) (f:Fr) (σ:List Nat):Bool:=
 AcO Γ σ k.df f.df&&(Nat.beq (Iw σ) (GJ k.pre)&&(Nat.ble (GJ k.pre) (Sf k.post)&&(IQ σ&&(WN Γ σ f.tm k.Xo&&XW Γ f.h σ k.pre 0))))
def BF.Na (k:BF):Bm:=bif k.out then .ret else .exit k.id
def AaT (k:BF) (h:Al) (σ:List Nat):Option (Bm×Fr):=
 AG (OJ σ k.post 0 ⟨h.DR,h.next+(Sf k.post-GJ k.pre),h.fx⟩) fun c=>AG (TP σ k.NP .nil) fun tm=>AG (ZF σ k.df) fun df=>some (k.Na,⟨tm,c,df⟩)
def LI (Γ:Ao) (k:BF) (f:Fr):Option (Bm×Fr):=
 bif Ad5 Γ k f (Rt f.h k.pre 0 (Yw k.df f.df (Tl f.tm k.Xo [])))then AaT k f.h (Rt f.h k.pre 0 (Yw k.df f.df (Tl f.tm k.Xo []))++Lb k.post (GJ k.pre) f.h.next)else none
def I7 (Γ:Ao) (cur:Nat) (f:Fr) (l:List BF):Option (Bm×Fr):=
 List.rec (motive:=fun _=>Option (Bm×Fr)) none (fun k _ ih=>bif Nat.beq k.id cur then (match LI Γ k f with|some x=>some x|none=>ih)else ih) l
def iter (o body:Fr→Option (Bm×Fr)) (n:Nat):Fr→Option (Bm×Fr):=
 Nat.rec (motive:=fun _=>Fr→Option (Bm×Fr)) (fun _=>none) (fun _ ih f=>match o f with
  |some r=>some r
  |none=>AG (body f) fun r=>andThen r ih) n
def FE (Γ:Ao) (call:C1) (fuel:Nat) (c:IC):Nat→Fr→Option (Bm×Fr):=
 IC.rec (motive:=fun _=>Nat→Fr→Option (Bm×Fr))
  (fun _ f=>some (.normal,f))
  (fun d g _ f=>Qe Γ call d g f)
  (fun _ _ a b k f=>AG (a k f) fun r=>andThen r fun j=>b k j)
  (fun c _ _ t e k f=>AaG (ev f.tm c) (t k f) (e k f))
  (fun id _ b _ f=>AG (b id f) fun r=>some (Gv id r))
  (fun _ b k f=>iter (fun f=>I7 Γ k f Γ.loops) (fun f=>b k f) fuel f)
  (fun id _ f=>some (.exit id,f))
  (fun _ f=>some (.ret,f)) c
def N9 (l:List Aa):Nat→Tr Aa→Tr Aa:=
 List.rec (motive:=fun _=>Nat→Tr Aa→Tr Aa) (fun _ t=>t) (fun v _ ih i t=>ih (i+1) (Tr.set t i (some v))) l
def exec (Γ:Ao) (call:C1) (fuel:Nat) (c:IC) (f:Fr):Option (Bm×Fr):=FE Γ call fuel c 0 f
def Qc (tm:Tr Aa) (h:Al) (r:Ro):Option Aa:=
 match r with
 |.tmp t=>some (E9 (Tr.get tm t))
 |.cell t n=>MC h.fx h n (E9 (Tr.get tm t))
def ZA (tm:Tr Aa) (h:Al) (l:List Ro):Option (List Aa):=
 List.rec (motive:=fun _=>Option (List Aa)) (some []) (fun x _ ih=>AG (Qc tm h x) fun v=>AG ih fun vs=>some (v::vs)) l
def oneOf (vs:List Aa):Aa:=
 match vs with
 |[v]=>v
 |vs=>.tuple vs
inductive CS where
 |returning
 |panicking (v:Aa)
abbrev Rp:=FuncId→List Aa→CS→Al→Option (CS×Al)
def Qw (c:Rp) (l:List (FuncId×List Aa)):CS→Al→Option (CS×Al):=
 List.rec (motive:=fun _=>CS→Al→Option (CS×Al)) (fun m h=>some (m,h)) (fun d _ ih m h=>AG (c d.1 d.2 m h) fun r=>ih r.1 r.2) l
def Ady (F:EF) (tm:Tr Aa) (r:CS×Al):Option (NK×Al):=
 match r.1 with
 |.returning=>AG (ZA tm r.2 F.results) fun vs=>some (.ret (oneOf vs),r.2)
 |.panicking v=>some (.panic v,r.2)
def Qq (e:Bm):Option CS:=
 match e with
 |.normal=>some .returning
 |.ret=>some .returning
 |.panic v=>some (.panicking v)
 |.exit _=>none
def Ht (F:EF) (args:List Aa) (h:Al):Fr:=⟨N9 args 0 (Tr.full Aa F.depth),h,[]⟩
def Pt (Γ:Ao) (call:C1) (c:Rp) (fuel:Nat) (F:EF) (args:List Aa) (h:Al):Option (NK×Al):=
 AG (exec Γ call fuel F.body (Ht F args h)) fun r=>AG (Qq r.1) fun m=>AG (Qw c r.2.df m r.2.h) fun x=>Ady F r.2.tm x
def Gg (m:CS) (r:Bm×Fr):Option (CS×Al):=
 match r.1,r.2.df with
 |.normal,[]=>some (m,r.2.h)
 |.ret,[]=>some (m,r.2.h)
 |_,_=>none
def recovered (m:CS):Aa:=
 match m with
 |.panicking v=>v
 |.returning=>.nilIface
def KG (Γ:Ao) (call:C1) (fuel:Nat) (F:EF) (args:List Aa) (m:CS) (h:Al):Option (CS×Al):=
 match F.body,F.results with
 |.seq (.region false (⟨dst,none,.m .recover,_⟩::steps)) rest,[]=>
  AG (TK Γ call steps ⟨DY (Ht F args h).tm dst (recovered m),h,[]⟩) fun r=>AG (andThen (FN r) fun f=>exec Γ call fuel rest f) fun r=>Gg .returning r
 |body,[]=>AG (exec Γ call fuel body (Ht F args h)) fun r=>Gg m r
 |_,_=>none
abbrev By:=List Aa→Al→Option (NK×Al)
def Qj (o:Option By) (args:List Aa) (h:Al) (k:Unit→Option (NK×Al)):Option (NK×Al):=
 match o with
 |some f=>(match f args h with|some r=>some r|none=>k ())
 |none=>k ()
def Lp (Γ:Ao) (c:FuncId→Option By) (DR:FuncId→Option EF) (fuel d:Nat):C1:=
 Nat.rec (motive:=fun _=>C1) (fun _ _ _=>none)
  (fun _ ih f args h=>Qj (c f) args h (fun _=>AG (DR f) fun F=>Pt Γ ih (fun f args m h=>AG (DR f) fun F=>KG Γ ih fuel F args m h) fuel F args h)) d
def Ao.bare (Γ:Ao):Ao:={Γ with loops:=[]}
def AdV (Γ:Ao) (c:FuncId→Option By) (DR:FuncId→Option EF) (fuel d:Nat):C1:=fun f args h=>
 AG (DR f) fun F=>Pt Γ (Lp Γ.bare c DR fuel d) (fun f args m h=>AG (DR f) fun F=>KG Γ.bare (Lp Γ.bare c DR fuel d) fuel F args m h) fuel F args h
def inK (k:IntKind) (t:ST):Bool:=
 match t with
 |.lit n=>bif Ih k then ile (.negSucc (modulus k/2-1)) n&&ile n (.ofNat (modulus k/2-1))else ile (.ofNat 0) n&&ile n (.ofNat (modulus k-1))
 |_=>false
def WI (Γ:Ao) (t:ST):Bool:=
 match t with
 |.lit n=>inK .i64 (.lit n)
 |.conv k _=>Un k .i64
 |.bin .add k _ _=>Un k .i64
 |t=>Dv (Cg Γ.tests .geq t (.lit (.negSucc 9223372036854775807)))&&Dv (Cg Γ.tests .leq t (.lit (.ofNat 9223372036854775807)))
def MG (Γ:Ao):By:=fun args h=>
 match args with
 |[.int .i64 n,.int .i64 (.lit (.ofNat 10))]=>bif WI Γ n then some (.ret (.anyStr 21),h)else none
 |_=>none
def MH (Γ:Ao):By:=fun args h=>
 match args with
 |[.int .i64 n]=>bif WI Γ n then some (.ret (.anyStr 21),h)else none
 |_=>none
def Sb (f:Nat) (l:List (Nat×By)):Option By:=
 List.rec (motive:=fun _=>Option By) none (fun x _ ih=>bif Nat.beq x.1 f then some x.2 else ih) l
def AaU (x:BC) (h:Al) (σ:List Nat):Option (NK×Al):=
 AG (OJ σ x.post 0 ⟨h.DR,h.next+(Sf x.post-GJ x.pre),h.fx⟩) fun c=>AG (TQ σ x.res) fun v=>some (.ret v,c)
def QX (x:BC):By:=fun args h=>
 let σ:=Rt h x.pre 0 (Vi x.args args [])
 bif Ad4 x args h σ then AaU x h (σ++Lb x.post (GJ x.pre) h.next)else none
def JW (l:List BC):By:=
 List.rec (motive:=fun _=>By) (fun _ _=>none) (fun x _ ih args h=>match QX x args h with|some y=>some y|none=>ih args h) l
def Y6:By:=fun args h=>
 match args with
 |[]=>some (.ret yes,h)
 |_=>none
end
end Go.AM
end
section
namespace Go.AM
def strOf (s:ByteArray):List Nat:=s.data.toList.map (·.toNat)
mutual
def GK:Value→Aa
 |.bool b=>.bool (.lit b)
 |.int k n=>.int k (.lit n)
 |.string s=>.str (strOf s)
 |.pointer none=>.nilPtr
 |.slice none 0 0=>.nilSlice
 |.map none=>.nilMap
 |.nilFunc=>.nilFunc
 |.nilIface=>.nilIface
 |.agg ⟨cs⟩=>if (Tf cs).all (·.single)then .agg (Tf cs)else .any
 |_=>.any
def Tf:List Value→List Aa
 |[]=>[]
 |v::r=>GK v::Tf r
end
def AJ:Operand→C9
 |.tmp t=>.tmp t
 |.const v=>.con (GK v)
 |.func f=>.con (.func f [] [])
 |.global _=>.con .any
def Ch (l:List Operand):List C9:=l.map AJ
def Bj (P:Program) (t:TypeId):Option Nat:=(P.info? t).map (·.size)
def Ee (P:Program) (t:TypeId):Option (Option Nat):=
 match P.underlying t,P.info? t with
 |some (.struct _),some i|some (.array _ _),some i=>some (some i.size)
 |some _,some _=>some none
 |_,_=>none
def Hj (P:Program) (t:TypeId):Option (List Aa):=
 match P.info? t with
 |some i=>i.zero.bind fun v=>(GK v).cells.bind fun cs=>if cs.all (·.single)then some cs else none
 |none=>none
def DG {α:Type}:List (Option (List α))→Option (List α)
 |[]=>some []
 |some a::r=>(DG r).map (a++·)
 |none::_=>none
def LK.no:LK→Nat
 |.bool=>0
 |.int=>1
 |.str=>2
def C7 (k:Nat) (l:List (Nat×LK)):List (Nat×LK):=l.map fun x=>(k+x.1,x.2)
def below (n:Nat) (l:List (Nat×LK)):Bool:=l.all fun x=>Nat.blt x.1 n
def leaves (P:Program):Nat→TypeId→Option (List (Nat×LK))
 |0,_=>none
 |d+1,t=>match P.underlying t with
  |some .bool=>some [(0,.bool)]
  |some (.int _)=>some [(0,.int)]
  |some .string=>some [(0,.str)]
  |some (.struct fs)=>if P.stoodInHeld t then none else DG (fs.toList.map fun f=>if f.name= "_" then none else
    match leaves P d f.type,Bj P f.type with
    |some l,some n=>if below n l&&Nat.ble (f.offset+n) (P.cellsOf t)then some (C7 f.offset l)else none
    |_,_=>none)
  |some (.array k e)=>match leaves P d e,Bj P e with
   |some l,some n=>if below n l&&Nat.ble (k*n) (P.cellsOf t)then some ((List.range k).flatMap fun i=>C7 (i*n) l)else none
   |_,_=>none
  |_=>none
def Ep:List (Nat×LK)→List (Nat×LK)→Bool
 |[],[]=>true
 |a::x,b::y=>Nat.beq a.1 b.1&&Nat.beq a.2.no b.2.no&&Ep x y
 |_,_=>false
def K3 (P:Program) (t:TypeId):Bool:=
 match Ee P t with
 |some (some _)=>true
 |_=>false
def Q6 (P:Program) (pl:List C3):Bool:=
 pl.all fun x=>(match leaves P 6 x.t with|some l=>Ep l x.Sg|none=>false)&&((P.info? x.t).map (·.comparable)).getD false&&beq (K3 P x.t) x.agg
def XK (P:Program) (t:TypeId):Option LK:=
 match P.underlying t with
 |some .bool=>some .bool
 |some (.int _)=>some .int
 |some .string=>some .str
 |_=>none
def Ev:Operand→Bool
 |.const .nilIface=>true
 |_=>false
def partsOf (c:Nat→Option (Nat×Nat)):List (Nat×Operand)→Option (List (Nat×Nat×C9))
 |[]=>some []
 |(i,x)::r=>match c i,partsOf c r with
  |some (off,size),some ps=>some ((off,size,AJ x)::ps)
  |_,_=>none
def Rc (P:Program) (pl:List C3) (c:Bool) (t:TypeId) (x y:Operand):Option POp:=
 match P.underlying t with
 |some .bool=>some (.eqs c .bool (AJ x) (AJ y))
 |some (.pointer e)=>(Bj P e).bind fun _=>some (.eqs c .ptr (AJ x) (AJ y))
 |some (.slice _)=>some (.eqs c .slice (AJ x) (AJ y))
 |some (.map _ _)=>some (.eqs c .map (AJ x) (AJ y))
 |some (.func _ _ _)=>some (.eqs c .func (AJ x) (AJ y))
 |some (.struct _) |some (.array _ _)=>match leaves P 6 t with
  |some l=>if P.eqGuardType P.depth t then none else some (.eqs c (.plain l) (AJ x) (AJ y))
  |none=>none
 |some (.interface ms)=>if Q6 P pl then some (.eqs c (.iface (ms.isEmpty||Ev x||Ev y) pl) (AJ x) (AJ y))else none
 |_=>none
def WV (P:Program) (pl:List C3) (op:BinOp) (t:TypeId) (x y:Operand):Option POp:=
 match P.underlying t,op with
 |some (.int _),_=>some (.bin op (AJ x) (AJ y))
 |some .string,_=>some (.bin op (AJ x) (AJ y))
 |some _,.eql=>Rc P pl false t x y
 |some _,.neq=>Rc P pl true t x y
 |_,_=>none
def u8T (P:Program) (e:TypeId) (size:Nat):Option Nat:=
 match P.underlying e,P.info? e with
 |some (.int .u8),some i=>(match i.zero with|some (.int .u8 (.ofNat 0))=>if Nat.beq size 1 then some e else none|_=>none)
 |_,_=>none
def EU (P:Program) (e:TypeId) (bytes:Bool) (x y:Operand):Option DQ:=
 match P.info? e with
 |some i=>if i.bytes≤1048576&&(i.zero.map fun v=>Nat.beq v.cells.size i.size).getD false then some (.m (.append i.size (u8T P e i.size) bytes (AJ x) (AJ y)))else none
 |none=>none
def fieldsOf (P:Program) (t:TypeId):List Field:=
 match P.underlying t with
 |some (.struct fs)=>fs.toList
 |_=>[]
def ZP (P:Program) (t:TypeId):Bool:=
 match fieldsOf P t with
 |f::_=>(match P.underlying f.type with|some (.pointer u)=>Nat.beq u t|_=>false)
 |[]=>false
def ZT (P:Program) (t:TypeId):Bool:=
 ZP P t||(match fieldsOf P t with|f::_=>ZP P f.type|[]=>false)
def Rx (P:Program) (t:TypeId):Option Nat:=if ZT P t then some t else none
def Hq (P:Program) (p:TypeId→Nat→Bool):List (Nat×Nat):=
 (List.range P.types.size).filterMap fun e=>if ZT P e then (match P.info? e with|some i=>if Nat.ble 1 i.size&&p e i.size then some (e,i.size)else none|none=>none)else none
def Nu (P:Program) (s d:TypeId) (x:Operand):Option DQ:=
 match P.underlying s,P.underlying d with
 |some (.int _),some (.int k)=>some (.p (.conv k (AJ x)))
 |some .string,some .string=>some (.p (.same (AJ x)))
 |some (.slice e),some .string=>(match P.underlying e with|some (.int .u8)=>some (.r (.bstr (AJ x))) |_=>none)
 |some (.pointer t),some .unsafePointer=>(match Bj P t with|some (_+1)=>some (.r (.uptr (Hq P fun _ _=>true) (AJ x))) |_=>none)
 |some .unsafePointer,some (.pointer u)=>(Bj P u).map fun _=>.r (.uptr (Hq P fun e n=>liesAt P P.depth e (n/P.cellsOf e) 0 u 1) (AJ x))
 |_,_=>none
def Jg (P:Program) (t:TypeId) (ok:Bool) (x:Operand):Option DQ:=
 match P.underlying t,P.info? t with
 |some (.interface _),_=>none
 |some _,some i=>if ok then i.zero.map fun z=>.p (.assert t (some (GK z)) (AJ x))else some (.p (.assert t none (AJ x)))
 |_,_=>none
def Fm (P:Program) (c:Call):Option DQ:=
 match c.callee with
 |.value (.func f)=>match P.funcs[f]? with
  |some fn=>if fn.body.isSome then some (.m (.call (AJ (.func f)) (Ch c.args.toList)))
   else if fn.name== "maps.clone" &&fn.origin== "" then (match c.args.toList with|[x]=>some (.m (.clone (AJ x))) |_=>none)
   else if fn.name== "internal/abi.NoEscape" &&fn.origin== "" then (match c.args.toList with|[x]=>some (.m (.ZR (AJ x))) |_=>none)
   else none
  |none=>none
 |.value f=>some (.m (.call (AJ f) (Ch c.args.toList)))
 |.invoke _ _=>none
 |.builtin b=>match b,c.args.toList,c.argTypes.toList with
  |.len,[x],[t]=>match P.underlying t with
   |some .string=>some (.p (.Afc (AJ x)))
   |some (.slice _)=>some (.p (.Afd (AJ x)))
   |some (.array n _)=>some (.p (.mv (.con (lit .i64 (.ofNat n)))))
   |some (.map _ _)=>some (.r (.lenM (AJ x)))
   |_=>none
  |.append,[x,y],[t,u]=>match P.underlying t,P.underlying u with
   |some (.slice e),some (.slice _)=>EU P e false x y
   |some (.slice e),some .string=>EU P e true x y
   |_,_=>none
  |.copy,[x,y],[t,u]=>match P.underlying t,P.underlying u with
   |some (.slice e),some (.slice _)=>(Bj P e).map fun n=>.m (.copy n false (AJ x) (AJ y))
   |some (.slice e),some .string=>(Bj P e).map fun n=>.m (.copy n true (AJ x) (AJ y))
   |_,_=>none
  |.max,xs,_=>some (.p (.big true (Ch xs)))
  |.min,xs,_=>some (.p (.big false (Ch xs)))
  |.recover,[],_=>some (.m .recover)
  |.unsafeSliceData,[x],_=>some (.p (.Z5 (AJ x)))
  |.unsafeString,[p,n],[pt,_]=>match P.underlying pt with
   |some (.pointer e)=>if Nat.beq (P.cellsOf e) 1 then some (.m (.AdS e (AJ p) (AJ n)))else none
   |_=>none
  |_,_,_=>none
def D9 (P:Program) (pl:List C3) (o:Oper):Option DQ:=
 match o.op with
 |.move x|.assign x=>some (.p (.mv (AJ x)))
 |.pick c a b=>some (.p (.pick (AJ c) (AJ a) (AJ b)))
 |.alloc t=>(Hj P t).map fun z=>.a (.zero (Rx P t) z)
 |.box t x=>some (.a (.box (Rx P t) (AJ x)))
 |.build t parts=>match P.underlying t,Hj P t with
  |some (.struct fs),some z=>if fs.all fun f=>(P.info? f.type).isSome then (partsOf (fun i=>(fs[i]?).bind fun f=>(Bj P f.type).map fun n=>(f.offset,n)) parts.toList).map fun j=>.p (.build z j)else none
  |some (.array _ e),some z=>(Bj P e).bind fun n=>(partsOf (fun i=>some (i*n,n)) parts.toList).map fun j=>.p (.build z j)
  |_,_=>none
 |.buildSlice t len parts=>match P.underlying t with
  |some (.slice e)=>match Bj P e,Hj P e with
   |some n,some z=>if len*n≤65536&&z.length==n then (partsOf (fun i=>some (i*n,n)) parts.toList).map fun j=>.a (.bslice len (List.replicate len z).flatten j)else none
   |_,_=>none
  |_=>none
 |.insert t m k v|.mapUpdate t m k v=>match P.underlying t with
  |some (.map kt _)=>(XK P kt).map fun kk=>.m (.mapUp kk (AJ m) (AJ k) (AJ v))
  |_=>none
 |.load t x=>(Ee P t).map fun n=>.r (.load n (AJ x))
 |.store t a x=>(Bj P t).map fun n=>.m (.store n (AJ a) (AJ x))
 |.nilCheck x=>some (.p (.AeW (AJ x)))
 |.binOp op t x y _=>(WV P pl op t x y).map .p
 |.unOp op _ x=>some (.p (.un op (AJ x)))
 |.convert s d x=>Nu P s d x
 |.typeAssert x _ t ok=>Jg P t ok x
 |.makeInterface t x=>match P.underlying t with
  |some (.interface _)=>none
  |some _=>some (.p (.iface t (AJ x)))
  |none=>none
 |.makeFunc (.func f) a c=>some (.p (.func f (Ch a.toList) (Ch c.toList)))
 |.makeMap t r=>match P.underlying t,r with
  |some (.map _ _),none|some (.map _ _),some (.const (.int _ _))=>some (.a .mkMap)
  |_,_=>none
 |.makeSlice t l c=>match P.underlying t with
  |some (.slice e)=>match P.info? e,Hj P e with
   |some i,some z=>if i.bytes≤1048576&&z.length==i.size then some (.a (.mkSlice z (AJ l) (AJ c)))else none
   |_,_=>none
  |_=>none
 |.slice t x lo hi mx=>match P.underlying t,mx with
  |some .string,none=>some (.p (.subs (AJ x) (lo.map AJ) (hi.map AJ)))
  |some (.slice e),none=>(Bj P e).map fun n=>.p (.reslice n (AJ x) (lo.map AJ) (hi.map AJ) none)
  |some (.slice e),some m=>if hi.isSome then (Bj P e).map fun n=>.p (.reslice n (AJ x) (lo.map AJ) (hi.map AJ) (some (AJ m)))else none
  |_,_=>none
 |.fieldAddr t x f=>match P.underlying t with
  |some (.struct fs)=>(fs[f]?).bind fun g=>match Bj P g.type with
   |some (_+1)=>some (.p (.U8 g.offset (AJ x)))
   |_=>none
  |_=>none
 |.field t x f=>match P.underlying t with
  |some (.struct fs)=>(fs[f]?).bind fun g=>(Ee P g.type).map fun n=>.p (.field g.offset n (AJ x))
  |_=>none
 |.indexAddr t x i=>match P.underlying t with
  |some (.slice e)=>(Bj P e).map fun n=>.p (.Afi n (AJ x) (AJ i))
  |some (.array len e)=>(Bj P e).map fun n=>.p (.Up len n (AJ x) (AJ i))
  |_=>none
 |.index t x i=>match P.underlying t with
  |some (.array len e)=>match Bj P e,Ee P e with
   |some n,some a=>some (.p (.idx len n a (AJ x) (AJ i)))
   |_,_=>none
  |some .string=>some (.p (.Afh (AJ x) (AJ i)))
  |_=>none
 |.lookup t x k ok=>match P.underlying t with
  |some (.map kt e)=>match P.info? e,XK P kt with
   |some i,some kk=>i.zero.map fun z=>.r (.lookup kk (GK z) ok (AJ x) (AJ k))
   |_,_=>none
  |_=>none
 |.extract x i=>some (.p (.ext (AJ x) i))
 |.panic x=>some (.m (.panic (AJ x)))
 |.call c=>Fm P c
 |.defer {callee:=.value f,args,.. }=>some (.m (.defer (AJ f) (Ch args.toList)))
 |_=>none
def guardOf (c:Array Oper):Option (Nat×Bool)→Option (Option (Nat×Bool))
 |none=>some none
 |some (j,want)=>match (c[j]?).bind (·.dst)with
  |some d=>some (some (d,want))
  |none=>none
def stepOf (P:Program) (pl:List C3) (nt:Nat) (c:Array Oper) (o:Oper) (back:Nat):Option Step:=
 match D9 P pl o,guardOf c o.guard with
 |some op,some g=>if (o.dst.all fun d=>Nat.blt d nt)&&(g.all fun x=>Nat.blt x.1 nt)then some ⟨o.dst,g,op,back⟩else none
 |_,_=>none
def BE {α:Type}:List (Option α)→Option (List α)
 |[]=>some []
 |some a::r=>(BE r).map (a::·)
 |none::_=>none
def Qi (before:Array Nat) (n:Nat):List Nat→List Nat→List Nat
 |[],done=>done++(List.range n).filter fun i=>!done.contains i
 |m::ms,done=>Qi before n ms (done++(List.range n).filter fun i=>!done.contains i&&(i==m||(before.getD m 0).testBit i))
def C9.names:C9→List Nat
 |.tmp t=>[t]
 |.con _=>[]
def POp.Ch:POp→List C9
 |.mv x|.AeW x|.un _ x|.conv _ x|.same x|.iface _ x|.U8 _ x|.field _ _ x|.ext x _|.Afc x|.Afd x|.assert _ _ x|.Z5 x=>[x]
 |.pick c a b=>[c,a,b]
 |.build _ ps=>ps.map (·.2.2)
 |.bin _ x y|.eqs _ _ x y|.Afi _ x y|.Up _ _ x y|.idx _ _ _ x y|.Afh x y=>[x,y]
 |.func _ a c=>a++c
 |.subs x lo hi=>x::(lo.toList++hi.toList)
 |.reslice _ x lo hi mx=>x::(lo.toList++(hi.toList++mx.toList))
 |.big _ xs=>xs
def NM.Ch:NM→List C9
 |.load _ x|.lenM x|.uptr _ x|.bstr x=>[x]
 |.lookup _ _ _ x k=>[x,k]
def AOp.Ch:AOp→List C9
 |.box _ x=>[x]
 |.zero _ _|.mkMap=>[]
 |.bslice _ _ ps=>ps.map (·.2.2)
 |.mkSlice _ l c=>[l,c]
def MOp.Ch:MOp→List C9
 |.store _ a x|.append _ _ _ a x|.copy _ _ a x|.AdS _ a x=>[a,x]
 |.call f args|.defer f args=>f::args
 |.mapUp _ m k v=>[m,k,v]
 |.clone x|.panic x|.ZR x=>[x]
 |.recover=>[]
def DQ.Ch:DQ→List C9
 |.p o=>o.Ch
 |.r o=>o.Ch
 |.a o=>o.Ch
 |.m o=>o.Ch
def Step.names (s:Step):List Nat:=
 match s.guard with
 |some g=>g.1::s.op.Ch.flatMap C9.names
 |none=>s.op.Ch.flatMap C9.names
def UX (W:Nat→Nat→Bool) (x y:Nat×Step):Bool:=
 !(Nat.beq x.1 y.1)&&(!BZ y.2.op||W x.1 y.1)&&
 (match x.2.dst with
  |some d=>(match y.2.dst with|some e=>!(Nat.beq e d) |none=>true)&&(!(y.2.names.any (Nat.beq d)) ||W x.1 y.1)
  |none=>true)&&
 (match y.2.dst with
  |some d=>!(x.2.names.any (Nat.beq d)) ||W x.1 y.1
  |none=>true)
def N6 (W:Nat→Nat→Bool) (x:Nat):List (Nat×Step)→Nat→Bool
 |[],_=>true
 |y::r,k=>if BZ y.2.op then N6 W x r (k+1)else (Nat.blt k y.2.back||W x y.1)&&N6 W x r k
def Adt (s:Step):Bool:=
 match s.dst with
 |some d=>!(s.names.any (Nat.beq d))
 |none=>true
def okD (W:Nat→Nat→Bool):List (Nat×Step)→Bool
 |[]=>true
 |x::r=>Adt x.2&&(r.all (UX W x)&&((!BZ x.2.op||N6 W x.1 r 0)&&okD W r))
def Dc (c:Array Oper) (i:Nat):List Nat:=
 match c[i]? with
 |some o=>(o.after.toList.filter (Region.binds .any)).map (·.on)
 |none=>[]
def XJ (c:Array Oper):List Nat→Bool
 |[]=>true
 |i::r=>(Dc c i).all (fun e=>Nat.blt e i&&!(r.any (Nat.beq e)))&&XJ c r
def waits (before:List Nat) (i j:Nat):Bool:=(before.getD j 0).testBit i
def IE (c:Array Oper) (before:List Nat):Bool:=
 (List.range c.size).all fun j=>(List.range c.size).all fun i=>!(waits before i j) ||
  (Dc c j).any fun e=>Nat.blt e j&&(Nat.beq e i||waits before i e)
def AaR (before:Array Nat) (muts c:List Nat) (i:Nat):Nat:=
 let seen:=(c.takeWhile (·!=i)).filter muts.contains
 (seen.filter fun m=>!(before.getD i 0).testBit m).length
def AaC (d:Array Oper) (before c:List Nat) (g:List Step):Bool:=
 Nat.beq c.length g.length&&Nat.beq c.length d.size&&((List.range d.size).all (fun i=>c.any (Nat.beq i))&&(c.all (fun i=>Nat.blt i d.size)&&(XJ d c&&(IE d before&&okD (waits before) (c.zip g)))))
def Nt (P:Program) (pl:List C3) (nt:Nat) (c:Array Oper):Option (List Step):=
 let before:=Region.before c
 match BE (c.toList.map (D9 P pl))with
 |none=>none
 |some iops=>
  let muts:=(List.range c.size).filter fun i=>(iops[i]?.map BZ).getD false
  let d:=Qi before c.size muts []
  match BE (d.map fun i=>(c[i]?).bind fun o=>stepOf P pl nt c o (AaR before muts d i))with
  |some steps=>if AaC c before.toList d steps then some steps else none
  |none=>none
def GF (P:Program) (pl:List C3) (nt:Nat) (c:Array Oper) (d:Bool):Option (List Step):=
 if d then Nt P pl nt c else BE (c.toList.map fun o=>stepOf P pl nt c o 0)
def Bd (P:Program) (pl:List C3) (nt:Nat):Code→Option IC
 |.skip=>some .skip
 |.region _ ops draw=>(GF P pl nt ops draw).map (.region draw)
 |.seq a b=>match Bd P pl nt a,Bd P pl nt b with
  |some a,some b=>some (.seq a b)
  |_,_=>none
 |.cond c a b=>match Bd P pl nt a,Bd P pl nt b with
  |some a,some b=>some (.cond (AJ c) a b)
  |_,_=>none
 |.block id b=>(Bd P pl nt b).map (.block id)
 |.loop b=>(Bd P pl nt b).map .loop
 |.exit id=>some (.exit id)
 |.ret=>some .ret
 |.refuse _=>some (.cond (.con .any) .skip .skip)
 |_=>none
def GD (P:Program):ResultVar→Option Ro
 |.tmp t=>some (.tmp t)
 |.cell a t=>(Ee P t).map (.cell a)
def AcS (n:Nat):Nat:=Nat.log2 (n+1)+1
def ET (P:Program) (pl:List C3) (fn:Func):Option EF:=
 match fn.body with
 |none=>none
 |some c=>match Bd P pl fn.ntmps c,BE (fn.results.toList.map (GD P))with
  |some body,some results=>some {depth:=AcS fn.ntmps,results,body}
  |_,_=>none
end Go.AM
end
section
namespace Go.AM
inductive PV where
 |bool (b:Bool)
 |int (k:IntKind) (n:Int)
 |str (s:List Nat)
 |list (es:Nat) (l:List (List PV))
 |nilp
structure Env where
 val:Nat→Int
 AY:Nat→Option Obj:=fun _=>none
 str:Nat→List Nat:=fun _=>[]
 lst:Nat→List (List PV):=fun _=>[]
 map:Nat→List (List Nat×List PV):=fun _=>[]
instance:Coe Env (Nat→Int):=⟨Env.val⟩
theorem Q1 (a b:Int):ile a b=decide (a≤b):=by
 rw [Bool.eq_iff_iff]
 cases a<;>cases b<;>simp [ile]<;>omega
theorem Q3 (a b:Int):Yu a b=(a==b):=by
 rw [Bool.eq_iff_iff]
 cases a<;>cases b<;>simp [Yu]<;>omega
theorem Q2 {a b:Int}:Yu a b=true↔a=b:=by rw [Q3];simp
theorem Aff (a b:Int):ilt a b=decide (a<b):=by
 unfold ilt;rw [Q1,Bool.eq_iff_iff];simp
theorem Dt {a b:IntKind}:Un a b=true↔a=b:=by
 cases a<;>cases b<;>simp [Un,Um]
theorem H7 {a b:BinOp}:NU a b=true↔a=b:=by
 cases a<;>cases b<;>simp [NU,XD]
theorem beq_eq (a b:Bool):beq a b=(a==b):=by cases a<;>cases b<;>rfl
theorem W8 (n:Int) (m:Nat) (c:0<m):(Qo n m:Int)=n%(m:Int):=by
 cases n with
 |ofNat a=>simp [Qo]
 |negSucc a=>
  have h:=Nat.mod_lt a c
  simp only [Qo]
  rw [Int.negSucc_emod a (by omega:(0:Int)<(m:Int))]
  omega
theorem AcE (n:Int) (m:Nat) (c:0<m):Qo n m<m:=by
 cases n with
 |ofNat a=>exact Nat.mod_lt _ c
 |negSucc a=>simp only [Qo];have h:=Nat.mod_lt a c;omega
theorem H8 (k:IntKind):0<modulus k:=by cases k<;>decide
theorem IT (k:IntKind):(2:Int)^k.bits=(modulus k:Int):=by cases k<;>rfl
theorem Qp (k:IntKind):(2:Int)^(k.bits-1)*2=(modulus k:Int):=by cases k<;>rfl
theorem TI (k:IntKind):Ih k=k.signed:=by cases k<;>rfl
theorem Jr (k:IntKind) (n:Int) (m:Nat) (h:n%(2^k.bits:Int)=(m:Int)) (g:m<modulus k):k.wrap n=back k m:=by
 have j:=Qp k
 unfold IntKind.wrap back
 simp only [h]
 rw [IT,TI]
 cases hs:k.signed with
 |false=>simp
 |true=>
  simp only [Bool.true_and]
  by_cases hc:modulus k≤m+m
  ·have d:Nat.ble (modulus k) (m+m)=true:=by simpa using hc
   have c:decide ((m:Int)≥2^(k.bits-1))=true:=by simp;omega
   rw [if_pos (by simpa using c),d]
   simp only [cond_true]
   omega
  ·have d:Nat.ble (modulus k) (m+m)=false:=by
    cases h':Nat.ble (modulus k) (m+m)with
    |false=>rfl
    |true=>exact absurd (Nat.le_of_ble_eq_true h') hc
   have c:¬((m:Int)≥2^(k.bits-1)):=by omega
   rw [if_neg (by simpa using c),d]
   rfl
theorem Ho (k:IntKind) (n:Int):KO k n=k.wrap n:=by
 unfold KO
 exact (Jr k n _ (by rw [IT,W8 _ _ (H8 k)]) (AcE _ _ (H8 k))).symm
theorem WA (k:IntKind) (x:Int):Qo x (modulus k)=(BitVec.ofInt k.bits x).toNat:=by
 rw [BitVec.toNat_ofInt]
 have h:=W8 x (modulus k) (H8 k)
 have e:((2^k.bits:Nat):Int)=(modulus k:Int):=by cases k<;>rfl
 rw [e,←h]
 exact (Int.toNat_natCast _).symm
theorem Ju (k:IntKind):2^k.bits=modulus k:=by cases k<;>rfl
theorem AaP (op:BinOp) (k:IntKind) (x y:Int) (h:op=.and∨op=.or∨op=.xor∨op=.andNot):Pv op k x y=bits op k x y:=by
 unfold Pv bits
 rw [WA,WA]
 generalize BitVec.ofInt k.bits x=a
 generalize BitVec.ofInt k.bits y=b
 have hb:∀r:BitVec k.bits,back k r.toNat=k.wrap (r.toNat:Int):=fun r=>by
  have c:r.toNat<modulus k:=by rw [←Ju];exact r.isLt
  exact (Jr k _ _ (by rw [IT];exact Int.emod_eq_of_lt (by omega) (by omega)) c).symm
 rcases h with rfl|rfl|rfl|rfl<;>simp only [WB]<;>rw [←hb]
 ·rw [BitVec.toNat_and];rfl
 ·rw [BitVec.toNat_or];rfl
 ·rw [BitVec.toNat_xor];rfl
 ·rw [BitVec.toNat_and,BitVec.toNat_not,Ju];rfl
def DH (op:BinOp) (k:IntKind) (x y:Int):Int:=
 match op with
 |.add=>k.wrap (x+y)
 |.sub=>k.wrap (x-y)
 |.mul=>k.wrap (x*y)
 |.quo=>k.wrap (x.tdiv y)
 |.rem=>x.tmod y
 |.shl=>k.wrap (x*2^min y.toNat k.bits)
 |.shr=>x.fdiv (2^min y.toNat k.bits)
 |op=>bits op k x y
def ED (op:BinOp) (x y:Int):Bool:=
 match op with
 |.eql=>x==y
 |.neq=>x !=y
 |.lss=>decide (x<y)
 |.leq=>decide (x≤y)
 |.gtr=>decide (x>y)
 |_=>decide (x≥y)
def ST.den (ρ:Nat→Int):ST→Int
 |.lit n=>n
 |.var i=>ρ i
 |.bin op k a b=>DH op k (a.den ρ) (b.den ρ)
 |.conv k a=>k.wrap (a.den ρ)
def SB.den (ρ:Nat→Int):SB→Bool
 |.lit b=>b
 |.cmp op a b=>ED op (a.den ρ) (b.den ρ)
 |.no a=>!(a.den ρ)
theorem ST.Bk:∀{a b:ST},a.eq b=true→a=b
 |.lit a,.lit b,h=>by simp only [ST.eq]at h;rw [Q2.1 h]
 |.var i,.var j,h=>by simp only [ST.eq]at h;rw [Nat.eq_of_beq_eq_true h]
 |.bin o k a b,.bin o' k' a' b',h=>by
  simp only [ST.eq,aT]at h
  obtain ⟨⟨⟨c,g⟩,q⟩,d⟩:=h
  rw [H7.1 c,Dt.1 g,ST.Bk q,ST.Bk d]
 |.conv k a,.conv k' a',h=>by
  simp only [ST.eq,aT]at h
  rw [Dt.1 h.1,ST.Bk h.2]
 |.lit _,.var _,h|.lit _,.bin ..,h|.lit _,.conv ..,h|.var _,.lit _,h|.var _,.bin ..,h|.var _,.conv ..,h
 |.bin ..,.lit _,h|.bin ..,.var _,h|.bin ..,.conv ..,h|.conv ..,.lit _,h|.conv ..,.var _,h|.conv ..,.bin ..,h=>by simp [ST.eq]at h
theorem SB.Bk:∀{a b:SB},a.eq b=true→a=b
 |.lit a,.lit b,h=>by simp only [SB.eq,beq_eq]at h;simp at h;rw [h]
 |.cmp o a b,.cmp o' a' b',h=>by
  simp only [SB.eq,aT]at h
  rw [H7.1 h.1.1,ST.Bk h.1.2,ST.Bk h.2]
 |.no a,.no b,h=>by simp only [SB.eq]at h;rw [SB.Bk h]
 |.lit _,.cmp ..,h|.lit _,.no _,h|.cmp ..,.lit _,h|.cmp ..,.no _,h|.no _,.lit _,h|.no _,.cmp ..,h=>by simp [SB.eq]at h
def Eo (ρ:Env):Aa→Option (List Nat)
 |.str s=>some s
 |.svar i=>some (ρ.str i)
 |_=>none
def LF (ρ:Env):Aa→PV→Prop
 |.bool b,p=>p=.bool (b.den ρ)
 |.int k n,p=>p=.int k (n.den ρ)
 |.str s,p=>p=.str s
 |.svar i,p=>p=.str (ρ.str i)
 |.lst f i es n,p=>f=false∧p=.list es (ρ.lst i)∧n.den ρ=((ρ.lst i).length:Int)
 |.nilPtr,p=>p=.nilp
 |_,_=>False
def FI (ρ:Env):List Aa→List PV→Prop
 |[],ps=>ps=[]
 |a::as,ps=>∃p rest,ps=p::rest∧LF ρ a p∧FI ρ as rest
def Vh (ρ:Env) (a:Aa) (p:PV):Prop:=
 match a with
 |.nilSlice=>∃c,p=.list c []
 |a=>LF ρ a p
def CR (ρ:Env):List Aa→List PV→Prop
 |[],ps=>ps=[]
 |a::as,ps=>∃p rest,ps=p::rest∧Vh ρ a p∧CR ρ as rest
def Eh (ρ:Env):List (List Aa)→List (List PV)→Prop
 |[],ps=>ps=[]
 |a::as,ps=>∃p rest,ps=p::rest∧CR ρ a p∧Eh ρ as rest
def FG (ρ:Env):AQ→List (List PV)→Prop
 |.els es,l=>Eh ρ es l
 |.all i,l=>l=ρ.lst i
 |.take i n,l=>0≤n.den ρ∧n.den ρ≤((ρ.lst i).length:Int)∧l=(ρ.lst i).take (n.den ρ).toNat
 |.drop i n,l=>0≤n.den ρ∧n.den ρ≤((ρ.lst i).length:Int)∧l=(ρ.lst i).drop (n.den ρ).toNat
def B9 (ρ:Env):List AQ→List (List PV)→Prop
 |[],l=>l=[]
 |p::ps,l=>∃a b,l=a++b∧FG ρ p a∧B9 ρ ps b
def Abl (ρ:Env):List (Aa×List Aa)→List (List Nat×List PV)→Prop
 |[],l=>l=[]
 |x::r,l=>∃s c rest,l=(s,c)::rest∧Eo ρ x.1=some s∧CR ρ x.2 c∧Abl ρ r rest
def BO:List (List Nat×List PV)→List Nat→Option (List PV)
 |[],_=>none
 |e::r,k=>if e.1=k then some e.2 else BO r k
def Bn:List (List Nat×List PV)→List Nat→List PV→List (List Nat×List PV)
 |[],k,v=>[(k,v)]
 |e::r,k,v=>if e.1=k then (k,v)::r else e::Bn r k v
structure Ao.AL (Γ:Ao) (ρ:Env):Prop where
 DZ:∀x∈Γ.DZ,x.1.den ρ=x.2
 tests:∀x∈Γ.tests,ED x.1 (x.2.1.den ρ) (x.2.2.1.den ρ)=x.2.2.2
 strs:∀x∈Γ.strs,∃s t,Eo ρ x.1=some s∧Eo ρ x.2.1=some t∧x.2.2=decide (s=t):=by intro _ h;cases h
 EK:∀x∈Γ.EK,∃s t,Eo ρ x.1=some s∧Eo ρ x.2.1=some t∧Eo ρ x.2.2=some (s++t)∧s.length+t.length≤1048576:=by intro _ h;cases h
 BA:∀x∈Γ.BA,x.2.1.den ρ=((ρ.str x.1).length:Int)∧x.2.2.1≤(ρ.str x.1).length∧(ρ.str x.1).length≤x.2.2.2:=by intro _ h;cases h
 Ad:∀x∈Γ.Ad,x.2.den ρ=((ρ.lst x.1).length:Int):=by intro _ h;cases h
 elems:∀x∈Γ.elems,∃ps,0≤x.2.1.den ρ∧(ρ.lst x.1)[(x.2.1.den ρ).toNat]?=some ps∧FI ρ x.2.2 ps:=by intro _ h;cases h
 defs:∀x∈Γ.defs,B9 ρ x.2 (ρ.lst x.1):=by intro _ h;cases h
 looks:∀x∈Γ.looks,∃s,Eo ρ x.2.1=some s∧(match x.2.2 with
  |some cs=>∃ps,BO (ρ.map x.1) s=some ps∧FI ρ cs ps
  |none=>BO (ρ.map x.1) s=none):=by intro _ h;cases h
 Lx:∀x∈Γ.Lx,∃s ps,Eo ρ x.2.1=some s∧CR ρ x.2.2.1 ps∧ρ.map x.2.2.2=Bn (ρ.map x.1) s ps:=by intro _ h;cases h
 CQ:∀x∈Γ.CQ,x.1.den ρ+x.2.1≤x.2.2.den ρ∧x.2.2.den ρ≤1048576:=by intro _ h;cases h
 CO:∀x∈Γ.CO,Abl ρ x.2 (ρ.map x.1):=by intro _ h;cases h
theorem Ao.AL.none (ρ:Env):({}:Ao).AL ρ where
 DZ:=fun _ h=>(by cases h)
 tests:=fun _ h=>(by cases h)
theorem Le:∀{l:List (ST×Int)} {t:ST} {n:Int},JE l t=some n→(t,n)∈l
 |[],_,_,h=>by simp [JE]at h
 |(s,m)::r,t,n,h=>by
  simp only [JE]at h
  cases e:s.eq t with
  |true=>
   rw [e]at h
   simp only [cond_true,oI]at h
   rw [ST.Bk e,h]
   exact List.mem_cons_self
  |false=>rw [e]at h;exact List.mem_cons_of_mem _ (Le h)
theorem Ds:∀{l:List (BinOp×ST×ST×Bool)} {op:BinOp} {a b:ST} {v:Bool},Cg l op a b=some v→(op,a,b,v)∈l
 |[],_,_,_,_,h=>by simp [Cg]at h
 |(o,s,t,u)::r,op,a,b,v,h=>by
  simp only [Cg]at h
  cases e:NU o op&&s.eq a&&t.eq b with
  |true=>
   rw [e]at h
   simp only [cond_true,oI]at h
   simp only [aT]at e
   rw [H7.1 e.1.1,ST.Bk e.1.2,ST.Bk e.2,h]
   exact List.mem_cons_self
  |false=>rw [e]at h;exact List.mem_cons_of_mem _ (Ds h)
section
variable {Γ:Ao} {ρ:Env} (hΓ:Γ.AL ρ)
include hΓ
theorem Ku (t:ST):(numOf Γ t).den ρ=t.den ρ:=by
 unfold numOf
 split
 ·rename_i n h;exact (hΓ.DZ _ (Le h)).symm
 ·rfl
omit hΓ in
theorem Ri {op:BinOp} {k:IntKind} {a b n:Int} (h:Rj op k a b=some n):
  n=DH op k a b∧(op=.quo∨op=.rem→b≠0)∧FA op=false∧Ea op=false:=by
 cases op<;>simp only [Rj,oI,reduceCtorEq]at h
 case add|sub|mul=>exact ⟨by rw [←h,Ho];rfl,by simp,rfl,rfl⟩
 case quo|rem=>
  cases e:Yu b 0 with
  |true=>rw [e]at h;simp at h
  |false=>
   rw [e]at h
   simp only [cond_false,oI]at h
   refine ⟨by rw [←h];first|(rw [Ho];rfl) |rfl,fun _ hb=>?_,rfl,rfl⟩
   rw [Q2.2 hb]at e;cases e
 case and|or|xor|andNot=>exact ⟨by rw [←h,AaP _ _ _ _ (by simp)];rfl,by simp,rfl,rfl⟩
theorem HW {op:BinOp} {k:IntKind} {a b t:ST} (h:arith Γ op k a b=some t):
  t.den ρ=DH op k (a.den ρ) (b.den ρ)∧(op=.quo∨op=.rem→b.den ρ≠0)∧FA op=false∧Ea op=false:=by
 have g:∀{t},UW Γ op k a b=some t→t.den ρ=DH op k (a.den ρ) (b.den ρ)∧(op=.quo∨op=.rem→b.den ρ≠0)∧FA op=false∧Ea op=false:=fun {t} h=>by
  unfold UW at h
  cases e:total op b||WS Γ op b with
  |false=>rw [e]at h;simp at h
  |true=>
   rw [e]at h
   simp only [cond_true,oI]at h
   rw [Bool.or_eq_true]at e
   refine ⟨by rw [←h,Ku hΓ];rfl,fun d=>?_,?_,?_⟩
   ·rcases e with e|e
    ·rcases d with rfl|rfl<;>cases b<;>simp [total,Q3]at e<;>simpa [ST.den]using e
    ·have key:Cg Γ.tests .eql b (.lit 0)=some false:=by
      have c:(match Cg Γ.tests .eql b (.lit 0)with|some v=>!v|none=>false)=true:=by rcases d with rfl|rfl<;>exact e
      cases hv:Cg Γ.tests .eql b (.lit 0)with
      |none=>rw [hv]at c;cases c
      |some v=>
       rw [hv]at c
       cases v with
       |false=>rfl
       |true=>cases c
     have j:ED .eql (b.den ρ) ((ST.lit 0).den ρ)=false:=hΓ.tests _ (Ds key)
     simpa [ED,ST.den]using j
   ·rcases e with e|e<;>cases op<;>first|rfl|(simp [total]at e) |(simp [WS]at e)
   ·rcases e with e|e<;>cases op<;>first|rfl|(simp [total]at e) |(simp [WS]at e)
 unfold arith at h
 split at h
 ·rename_i x y
  cases e:Rj op k x y with
  |none=>rw [e]at h;simp [AG]at h
  |some n=>
   rw [e]at h
   simp only [AG,oI]at h
   rw [←h]
   exact Ri e
 ·exact g h
omit hΓ in
theorem Nv {op:BinOp} {a b:Int} {v:Bool} (h:AaH op a b=some v):v=ED op a b∧FA op=true:=by
 cases op<;>simp only [AaH,oI,reduceCtorEq]at h<;>subst h<;>refine ⟨?_,rfl⟩<;>simp [ED,Q3,Q1,Aff,bne]<;>rfl
theorem CU {op:BinOp} {a b:ST} {s:SB} (h:compare Γ op a b=some s):s.den ρ=ED op (a.den ρ) (b.den ρ)∧FA op=true:=by
 have c:∀{s},Ns Γ op a b=some s→s.den ρ=ED op (a.den ρ) (b.den ρ)∧FA op=true:=fun {s} h=>by
  unfold Ns at h
  cases e:FA op with
  |false=>rw [e]at h;simp at h
  |true=>
   rw [e]at h
   simp only [cond_true]at h
   split at h
   ·rename_i v d
    simp only [oI]at h
    subst h
    exact ⟨(hΓ.tests _ (Ds d)).symm,rfl⟩
   ·simp only [oI]at h
    subst h
    exact ⟨rfl,rfl⟩
 unfold compare at h
 split at h
 ·rename_i x y
  cases e:AaH op x y with
  |none=>rw [e]at h;simp [AG]at h
  |some v=>
   rw [e]at h
   simp only [AG,oI]at h
   rw [←h]
   exact Nv e
 ·exact c h
theorem Oq (k:IntKind) (a:ST):(convert Γ k a).den ρ=k.wrap (a.den ρ):=by
 unfold convert
 split
 ·simp [ST.den,Ho]
 ·rw [Ku hΓ];rfl
theorem NV {b:ST} (h:natural Γ b=true):0≤b.den ρ:=by
 unfold natural at h
 split at h
 ·rw [Q1]at h;simpa [ST.den]using h
 ·rename_i hb
  cases e:Cg Γ.tests .geq b (.lit (.ofNat 0))with
  |none=>rw [e]at h;cases h
  |some v=>
   rw [e]at h
   cases v with
   |false=>cases h
   |true=>
    have:=hΓ.tests _ (Ds e)
    simpa [ED,ST.den]using this
end
theorem J2 {op:BinOp} {k yk:IntKind} {x y n:Int} (h:PX op k x y=some n):Op.shift op k x yk y=pure (.int k n):=by
 cases y with
 |negSucc y=>simp [PX]at h
 |ofNat y=>
  simp only [PX]at h
  have d:(bif Nat.ble y k.bits then y else k.bits)=min y k.bits:=by
   cases e:Nat.ble y k.bits with
   |true=>simp only [cond_true];have:=Nat.le_of_ble_eq_true e;omega
   |false=>
         simp only [cond_false];have:¬y≤k.bits:=fun h=>by rw [Nat.ble_eq_true_of_le h]at e;cases e
         omega
  rw [d]at h
  have c:Int.ofNat (2^min y k.bits)=(2:Int)^min y k.bits:=by simp
  unfold Op.shift
  rw [if_neg (by simp)]
  cases op<;>simp only [Mh,oI,reduceCtorEq]at h
  ·rw [←h,Ho,c];rfl
  ·rw [←h,c];rfl
theorem RM {op:BinOp} {k yk:IntKind} {x y:Int} (hs:Ea op=true) (d:0≤y):Op.shift op k x yk y=pure (.int k (DH op k x y)):=by
 obtain ⟨n,rfl⟩:=Int.eq_ofNat_of_zero_le d
 refine J2 ?_
 have g:(bif Nat.ble n k.bits then n else k.bits)=min n k.bits:=by
  cases e:Nat.ble n k.bits with
  |true=>simp only [cond_true];have:=Nat.le_of_ble_eq_true e;omega
  |false=>
        simp only [cond_false];have:¬n≤k.bits:=fun h=>by rw [Nat.ble_eq_true_of_le h]at e;cases e
        omega
 have c:Int.ofNat (2^min n k.bits)=(2:Int)^min n k.bits:=by simp
 show Mh op k x (bif Nat.ble n k.bits then n else k.bits)=_
 rw [g]
 cases op<;>simp only [Ea,Bool.false_eq_true]at hs
 ·simp only [Mh,DH,Ho,c,Int.toNat_natCast]
 ·simp only [Mh,DH,c,Int.toNat_natCast]
theorem SY {op:BinOp} {t:TypeId} {k:IntKind} {x y:Int} (h:op=.quo∨op=.rem→y≠0) (hc:FA op=false) (hs:Ea op=false):
  binOp op t (.int k x) (.int k y)=pure (.int k (DH op k x y)):=by
 cases op<;>first|(simp [FA,XD]at hc;done) |(simp [Ea]at hs;done) |skip
 case add|sub|mul=>simp [binOp,Op.intArith,DH]
 case quo|rem=>have:=h (by simp);simp [binOp,Op.intDiv,DH,this]
 case and|or|xor|andNot=>simp [binOp,DH];rfl
theorem Yh {op:BinOp} {t:TypeId} {k:IntKind} {x y:Int} (hc:FA op=true):binOp op t (.int k x) (.int k y)=pure (.bool (ED op x y)):=by
 cases op<;>first|(simp [FA,XD]at hc;done) |skip
 all_goals (simp [binOp,Op.intCmp,ED])
end Go.AM
end
section
namespace Go.AM
section
variable {α:Type}
theorem Tr.Eb (v:Option α) (l r:Tr α) (n:Nat):
  (Tr.node v l r).get n=bif Nat.beq n 0 then v else bif Nat.beq (n%2) 1 then l.get (n/2)else r.get (n/2-1):=rfl
theorem Tr.Fj (m:Nat) (v:Option α) (t:Tr α) (n:Nat):(Tr.over m v t).get n=bif Nat.beq n m then v else t.get n:=rfl
theorem Tr.set_nil (n:Nat) (x:Option α):(Tr.nil:Tr α).set n x=.over n x .nil:=rfl
theorem Tr.Z2 (v:Option α) (l r:Tr α) (n:Nat) (x:Option α):
  (Tr.node v l r).set n x=bif Nat.beq n 0 then .node x l r else bif Nat.beq (n%2) 1 then .node v (l.set (n/2) x) r else .node v l (r.set (n/2-1) x):=rfl
theorem Tr.Zz (m:Nat) (v:Option α) (t:Tr α) (n:Nat) (x:Option α):
  (Tr.over m v t).set n x=bif Nat.beq n m then .over m x t else .over m v (t.set n x):=rfl
theorem AP {β:Type} (m n:Nat) (a b:β):(bif Nat.beq m n then a else b)=if m=n then a else b:=by
 by_cases h:m=n
 ·subst h;simp
 ·have:Nat.beq m n=false:=by
   cases e:Nat.beq m n with
   |false=>rfl
   |true=>exact absurd (Nat.eq_of_beq_eq_true e) h
  rw [this,if_neg h];rfl
theorem Tr.Bq:∀(t:Tr α) (n m:Nat) (x:Option α),(t.set n x).get m=if m=n then x else t.get m
 |.nil,n,m,x=>by rw [Tr.set_nil,Tr.Fj,AP]
 |.over k v t,n,m,x=>by
  rw [Tr.Zz,AP]
  by_cases h:n=k
  ·subst h
   rw [if_pos rfl,Tr.Fj,Tr.Fj,AP,AP]
   by_cases h2:m=n<;>simp [h2]
  ·rw [if_neg h,Tr.Fj,Tr.Fj,AP,AP,Tr.Bq t n m x]
   by_cases h2:m=k
   ·subst h2;rw [if_pos rfl,if_neg (Ne.symm h),if_pos rfl]
   ·rw [if_neg h2,if_neg h2]
 |.node v l r,n,m,x=>by
  rw [Tr.Z2,AP,AP]
  by_cases h0:n=0
  ·rw [if_pos h0,Tr.Eb,Tr.Eb]
   simp only [AP]
   by_cases h2:m=0
   ·rw [if_pos h2,if_pos (by omega)]
   ·rw [if_neg h2,if_neg (by omega:¬m=n),if_neg h2]
  ·rw [if_neg h0]
   by_cases h1:n%2=1
   ·rw [if_pos h1,Tr.Eb,Tr.Eb]
    simp only [AP]
    rw [Tr.Bq l]
    by_cases h2:m=0
    ·rw [if_pos h2,if_neg (by omega),if_pos h2]
    ·rw [if_neg h2,if_neg h2]
     by_cases h3:m%2=1
     ·rw [if_pos h3,if_pos h3]
      by_cases h4:m=n
      ·rw [if_pos h4,if_pos (by omega)]
      ·rw [if_neg h4,if_neg (by omega)]
     ·rw [if_neg h3,if_neg h3,if_neg (by intro e;subst e;exact h3 h1)]
   ·rw [if_neg h1,Tr.Eb,Tr.Eb]
    simp only [AP]
    rw [Tr.Bq r]
    by_cases h2:m=0
    ·rw [if_pos h2,if_neg (by omega),if_pos h2]
    ·rw [if_neg h2,if_neg h2]
     by_cases h3:m%2=1
     ·rw [if_pos h3,if_pos h3,if_neg (by intro e;subst e;exact h1 h3)]
     ·rw [if_neg h3,if_neg h3]
      by_cases h4:m=n
      ·rw [if_pos h4,if_pos (by omega)]
      ·rw [if_neg h4,if_neg (by omega)]
theorem Tr.JL:∀(n m:Nat),(Tr.full α n).get m=none
 |0,m=>rfl
 |n+1,m=>by
  show (Tr.node none (Tr.full α n) (Tr.full α n)).get m=none
  rw [Tr.Eb,AP,AP,Tr.JL,Tr.JL]
  split<;>first|rfl|(split<;>rfl)
end
def BR (m:Nat):Nat:=m%1048577
def Ca (m:Nat):Nat:=m/1048577
def Ob (len cap:Nat):Nat:=len+1048577*cap
theorem B7 {len cap:Nat} (h:len≤1048576):BR (Ob len cap)=len:=by unfold BR Ob;omega
theorem BS {len cap:Nat} (h:len≤1048576):Ca (Ob len cap)=cap:=by unfold Ca Ob;omega
abbrev Yl:=Nat×Nat×Nat
structure Aq where
 spot:Nat→Option Yl
 Bf:Nat→Option Obj
instance:CoeFun Aq fun _=>Nat→Option Yl:=⟨Aq.spot⟩
def Aq.none:Aq:=⟨fun _=>Option.none,fun _=>Option.none⟩
def IA (Bf:Nat→Option Obj) (r:Nat) (a:Array Value) (e:TypeId):Prop:=∃fr:Nat×Nat,Bf r=some (.cells a e fr)
theorem IA.mono {Bf ice':Nat→Option Obj} (c:∀g o,Bf g=some o→ice' g=some o) {r:Nat} {a:Array Value} {e:TypeId} (h:IA Bf r a e):IA ice' r a e:=by obtain ⟨fr,h⟩:=h;exact ⟨fr,c _ _ h⟩
section
variable (Bf:Nat→Option Obj)
mutual
def Ix:PV→Value→Prop
 |.bool b,v=>v=.bool b
 |.int k n,v=>v=.int k n
 |.str s,v=>∃b:ByteArray,v=.string b∧strOf b=s
 |.list es l,v=>∃c,l.length≤c∧((l=[]∧∃p,v=.slice p 0 c)∨∃r δ a e,v=.slice (some ⟨r,δ,none⟩) l.length c∧IA Bf r a e∧BU es a δ l)
 |.nilp,v=>v=.pointer none
def AW (a:Array Value) (δ:Nat):List PV→Prop
 |[]=>True
 |p::ps=>(∃u,a[δ]?=some u∧Ix p u)∧AW a (δ+1) ps
def BU (c:Nat) (a:Array Value) (δ:Nat):List (List PV)→Prop
 |[]=>True
 |ps::r=>ps.length=c∧AW a δ ps∧BU c a (δ+c) r
end
def Jm:List (List Nat×List PV)→List MapEntry→Prop
 |[],ms=>ms=[]
 |e::es,ms=>∃m rest,ms=m::rest∧(∃b:ByteArray,m.key=.string b∧strOf b=e.1)∧(∃a:Array Value,m.val=.agg a∧a.size=e.2.length∧AW Bf a 0 e.2)∧Jm es rest
end
section
variable (ρ:Env) (μ:Aq)
mutual
def Ae:Aa→Value→Prop
 |.any,_=>True
 |.bool b,v=>v=.bool (b.den ρ)
 |.int k n,v=>v=.int k (n.den ρ)
 |.str s,v=>∃b:ByteArray,v=.string b∧strOf b=s
 |.ptr b off,v=>∃r δ m,μ b=some (r,δ,m)∧v=.pointer (some ⟨r,δ+off,none⟩)
 |.nilPtr,v=>v=.pointer none
 |.slice b off len c,v=>∃r δ m,μ b=some (r,δ,m)∧v=.slice (some ⟨r,δ+off,none⟩) len c∧len≤c
 |.gslice b off len es,v=>∃r δ m c,μ b=some (r,δ,m)∧v=.slice (some ⟨r,δ+off,none⟩) len c∧len≤c∧off+c*es≤m
 |.nilSlice,v=>v=.slice none 0 0
 |.map b,v=>∃r,μ b=some (r,0,0)∧v=.map (some r)
 |.nilMap,v=>v=.map none
 |.func f a c,v=>∃d o:Array Value,v=.func (.func f) d o∧A9 a d.toList∧A9 c o.toList
 |.nilFunc,v=>v=.nilFunc
 |.iface t x,v=>∃u,v=.iface t u∧Ae x u
 |.nilIface,v=>v=.nilIface
 |.agg cs,v=>∃a:Array Value,v=.agg a∧Ax cs a.toList
 |.tuple vs,v=>∃a:Array Value,v=.tuple a∧A9 vs a.toList
 |.anyStr n,v=>∃b:ByteArray,v=.string b∧1≤b.size∧b.size≤n
 |.gbytes b,v=>∃r m,μ b=some (r,0,m)∧v=.slice (some ⟨r,0,none⟩) (BR m) (Ca m)∧1≤BR m∧BR m≤Ca m
 |.glen b,v=>∃r m,μ b=some (r,0,m)∧v=.int .i64 (BR m:Nat)
 |.svar i,v=>∃b:ByteArray,v=.string b∧strOf b=ρ.str i
 |.lst full i es n,v=>Ix μ.Bf (.list es (ρ.lst i)) v∧n.den ρ=((ρ.lst i).length:Int)∧(full=true→∃p,v=.slice p (ρ.lst i).length (ρ.lst i).length)
 |.lptr i j off,v=>∃r δ a e g,v=.pointer (some ⟨r,δ+off,none⟩)∧IA μ.Bf r a e∧0≤j.den ρ∧(ρ.lst i)[(j.den ρ).toNat]?=some g∧AW μ.Bf a δ g
 |.vec b _ n,v=>∃r m k,μ b=some (r,0,m)∧v=.slice (some ⟨r,0,none⟩) k (Ca m)∧n.den ρ=(k:Int)∧k≤BR m∧BR m≤Ca m
 |.vptr b es j off,v=>∃r m,μ b=some (r,0,m)∧v=.pointer (some ⟨r,(j.den ρ).toNat*es+off,none⟩)∧0≤j.den ρ
def A9:List Aa→List Value→Prop
 |[],vs=>vs=[]
 |a::as,vs=>∃v rest,vs=v::rest∧Ae a v∧A9 as rest
def Ax:List Aa→List Value→Prop
 |[],vs=>vs=[]
 |a::as,vs=>∃v rest,vs=v::rest∧(a.single=true∧Ae a v)∧Ax as rest
end
end
structure Aq.le (μ μ':Aq):Prop where
 to:∀b x,μ b=some x→μ' b=some x
 Bf:∀g o,μ.Bf g=some o→μ'.Bf g=some o
theorem Aq.le_refl (μ:Aq):μ.le μ:=⟨fun _ _ h=>h,fun _ _ h=>h⟩
theorem Aq.le_trans {μ μ' c:Aq} (h:μ.le μ') (d:μ'.le c):μ.le c:=⟨fun _ _ e=>d.to _ _ (h.to _ _ e),fun _ _ e=>d.Bf _ _ (h.Bf _ _ e)⟩
section
variable {Bf ice':Nat→Option Obj} (h:∀g o,Bf g=some o→ice' g=some o)
include h
mutual
theorem Ix.mono:∀{p:PV} {v:Value},Ix Bf p v→Ix ice' p v
 |.bool _,_,e=>e
 |.int _ _,_,e=>e
 |.str _,_,e=>e
 |.nilp,_,e=>e
 |.list es l,v,e=>by
  simp only [Ix]at e⊢
  obtain ⟨c,hc,e⟩:=e
  refine ⟨c,hc,?_⟩
  rcases e with e|⟨r,δ,a,t,e1,e2,e3⟩
  ·exact .inl e
  ·exact .inr ⟨r,δ,a,t,e1,e2.mono h,BU.mono e3⟩
theorem AW.mono:∀{c:List PV} {a:Array Value} {δ:Nat},AW Bf a δ c→AW ice' a δ c
 |[],_,_,_=>trivial
 |p::c,a,δ,e=>by
  simp only [AW]at e⊢
  obtain ⟨⟨u,d,j⟩,g⟩:=e
  exact ⟨⟨u,d,Ix.mono j⟩,AW.mono g⟩
theorem BU.mono:∀{l:List (List PV)} {c:Nat} {a:Array Value} {δ:Nat},BU Bf c a δ l→BU ice' c a δ l
 |[],_,_,_,_=>trivial
 |ps::r,c,a,δ,e=>by
  simp only [BU]at e⊢
  obtain ⟨g,d,j⟩:=e
  exact ⟨g,AW.mono d,BU.mono j⟩
end
theorem Jm.mono:∀{l:List (List Nat×List PV)} {ms:List MapEntry},Jm Bf l ms→Jm ice' l ms
 |[],_,e=>e
 |_::_,_,e=>let ⟨m,rest,e1,e2,⟨a,e3,e4,e5⟩,e6⟩:=e;⟨m,rest,e1,e2,⟨a,e3,e4,AW.mono h e5⟩,Jm.mono e6⟩
end
section
variable {ρ:Env} {μ μ':Aq} (h:μ.le μ')
include h
mutual
theorem Ae.mono:∀{a:Aa} {v:Value},Ae ρ μ a v→Ae ρ μ' a v
 |.any,_,_=>trivial
 |.bool _,_,e=>e
 |.int _ _,_,e=>e
 |.str _,_,e=>e
 |.ptr b off,_,e=>let ⟨r,δ,m,e1,e2⟩:=e;⟨r,δ,m,h.to _ _ e1,e2⟩
 |.nilPtr,_,e=>e
 |.slice b off len cap,_,e=>let ⟨r,δ,m,e1,e2⟩:=e;⟨r,δ,m,h.to _ _ e1,e2⟩
 |.gslice b off len es,_,e=>let ⟨r,δ,m,c,e1,e2⟩:=e;⟨r,δ,m,c,h.to _ _ e1,e2⟩
 |.nilSlice,_,e=>e
 |.map b,_,e=>let ⟨r,e1,e2⟩:=e;⟨r,h.to _ _ e1,e2⟩
 |.nilMap,_,e=>e
 |.func f a c,_,e=>let ⟨a',c',e1,e2,e3⟩:=e;⟨a',c',e1,A9.mono e2,A9.mono e3⟩
 |.nilFunc,_,e=>e
 |.iface t x,_,e=>let ⟨u,e1,e2⟩:=e;⟨u,e1,Ae.mono e2⟩
 |.nilIface,_,e=>e
 |.agg cs,_,e=>let ⟨a,e1,e2⟩:=e;⟨a,e1,Ax.mono e2⟩
 |.tuple vs,_,e=>let ⟨a,e1,e2⟩:=e;⟨a,e1,A9.mono e2⟩
 |.anyStr _,_,e=>e
 |.gbytes _,_,e=>let ⟨r,m,e1,e2⟩:=e;⟨r,m,h.to _ _ e1,e2⟩
 |.glen _,_,e=>let ⟨r,m,e1,e2⟩:=e;⟨r,m,h.to _ _ e1,e2⟩
 |.svar _,_,e=>e
 |.lst _ _ _ _,_,e=>⟨Ix.mono h.Bf e.1,e.2⟩
 |.lptr _ _ _,_,e=>let ⟨r,δ,a,t,ps,e1,e2,e3,e4,e5⟩:=e;⟨r,δ,a,t,ps,e1,(e2.mono h.Bf),e3,e4,AW.mono h.Bf e5⟩
 |.vec _ _ _,_,e=>let ⟨r,m,k,e1,e2⟩:=e;⟨r,m,k,h.to _ _ e1,e2⟩
 |.vptr _ _ _ _,_,e=>let ⟨r,m,e1,e2⟩:=e;⟨r,m,h.to _ _ e1,e2⟩
theorem A9.mono:∀{as:List Aa} {vs:List Value},A9 ρ μ as vs→A9 ρ μ' as vs
 |[],_,e=>e
 |_::_,_,e=>let ⟨v,rest,e1,e2,e3⟩:=e;⟨v,rest,e1,Ae.mono e2,A9.mono e3⟩
theorem Ax.mono:∀{as:List Aa} {vs:List Value},Ax ρ μ as vs→Ax ρ μ' as vs
 |[],_,e=>e
 |_::_,_,e=>let ⟨v,rest,e1,⟨e2,e2'⟩,e3⟩:=e;⟨v,rest,e1,⟨e2,Ae.mono e2'⟩,Ax.mono e3⟩
end
end
section
variable {ρ:Env} {μ:Aq}
theorem Ax.length:∀{as:List Aa} {vs:List Value},Ax ρ μ as vs→as.length=vs.length
 |[],_,e=>by simp only [Ax]at e;rw [e];rfl
 |_::_,_,e=>by
  simp only [Ax]at e
  obtain ⟨v,rest,rfl,_,h⟩:=e
  simp [Ax.length h]
theorem Ax.get:∀{as:List Aa} {vs:List Value} {i:Nat} {a:Aa},Ax ρ μ as vs→as[i]?=some a→∃v,vs[i]?=some v∧a.single=true∧Ae ρ μ a v
 |[],_,i,_,_,h=>by simp at h
 |b::as,_,i,a,e,h=>by
  simp only [Ax]at e
  obtain ⟨v,rest,rfl,hb,c⟩:=e
  cases i with
  |zero=>simp only [List.getElem?_cons_zero,oI]at h;subst h;exact ⟨v,rfl,hb⟩
  |succ i=>simpa using Ax.get c (by simpa using h)
theorem Ax.Kt:∀{as:List Aa} {vs:List Value},as.length=vs.length→(∀(i:Nat) (a:Aa),as[i]?=some a→∃v,vs[i]?=some v∧a.single=true∧Ae ρ μ a v)→Ax ρ μ as vs
 |[],vs,hl,_=>by simp only [Ax];exact List.eq_nil_of_length_eq_zero (by simpa using hl.symm)
 |a::as,[],hl,_=>by simp at hl
 |a::as,v::vs,hl,h=>by
  simp only [Ax]
  obtain ⟨u,c,d⟩:=h 0 a rfl
  simp only [List.getElem?_cons_zero,oI]at c
  subst c
  exact ⟨v,vs,rfl,d,Ax.Kt (by simpa using hl) fun i b hb=>by simpa using h (i+1) b (by simpa using hb)⟩
theorem Ax.append:∀{as bs:List Aa} {vs us:List Value},Ax ρ μ as vs→Ax ρ μ bs us→Ax ρ μ (as++bs) (vs++us)
 |[],_,_,_,h,h'=>by simp only [Ax]at h;subst h;exact h'
 |_::_,_,_,_,h,h'=>by
  simp only [Ax]at h
  obtain ⟨v,rest,rfl,c,d⟩:=h
  simp only [List.cons_append,Ax]
  exact ⟨v,_,rfl,c,Ax.append d h'⟩
theorem A9.append:∀{as bs:List Aa} {vs us:List Value},A9 ρ μ as vs→A9 ρ μ bs us→A9 ρ μ (as++bs) (vs++us)
 |[],_,_,_,h,h'=>by simp only [A9]at h;subst h;exact h'
 |_::_,_,_,_,h,h'=>by
  simp only [A9]at h
  obtain ⟨v,rest,rfl,c,d⟩:=h
  simp only [List.cons_append,A9]
  exact ⟨v,_,rfl,c,A9.append d h'⟩
theorem A9.get:∀{as:List Aa} {vs:List Value} {i:Nat} {a:Aa},A9 ρ μ as vs→as[i]?=some a→∃v,vs[i]?=some v∧Ae ρ μ a v
 |[],_,i,_,_,h=>by simp at h
 |b::as,_,i,a,e,h=>by
  simp only [A9]at e
  obtain ⟨v,rest,rfl,hb,c⟩:=e
  cases i with
  |zero=>simp only [List.getElem?_cons_zero,oI]at h;subst h;exact ⟨v,rfl,hb⟩
  |succ i=>simpa using A9.get c (by simpa using h)
theorem Ae.Qk {a:Aa} {v:Value} (h:Ae ρ μ a v) (hs:a.single=true):v.oneCell'=true:=by
 cases a<;>simp only [Aa.single,Bool.false_eq_true]at hs<;>simp only [Ae]at h
 case bool|int|nilPtr|nilSlice|nilMap|nilFunc|nilIface=>subst h;rfl
 case str=>obtain ⟨_,rfl,_⟩:=h;rfl
 case ptr=>obtain ⟨_,_,_,_,rfl⟩:=h;rfl
 case slice=>obtain ⟨_,_,_,_,rfl,_⟩:=h;rfl
 case gslice=>obtain ⟨_,_,_,_,_,rfl,_⟩:=h;rfl
 case map=>obtain ⟨_,_,rfl⟩:=h;rfl
 case func=>obtain ⟨_,_,rfl,_⟩:=h;rfl
 case iface=>obtain ⟨_,rfl,_⟩:=h;rfl
 case anyStr=>obtain ⟨_,rfl,_⟩:=h;rfl
 case gbytes=>obtain ⟨_,_,_,rfl,_⟩:=h;rfl
 case glen=>obtain ⟨_,_,_,rfl⟩:=h;rfl
 case svar=>obtain ⟨_,rfl,_⟩:=h;rfl
 case lst=>
  simp only [Ix]at h
  obtain ⟨⟨_,_,⟨_,_,rfl⟩|⟨_,_,_,_,rfl,_⟩⟩,_⟩:=h<;>rfl
 case lptr=>obtain ⟨_,_,_,_,_,rfl,_⟩:=h;rfl
 case vec=>obtain ⟨_,_,_,_,rfl,_⟩:=h;rfl
 case vptr=>obtain ⟨_,_,_,rfl,_⟩:=h;rfl
theorem Ae.cells {a:Aa} {v:Value} {cs:List Aa} (h:Ae ρ μ a v) (hc:a.cells=some cs):Ax ρ μ cs v.cells.toList:=by
 cases a<;>simp only [Aa.cells,oI,reduceCtorEq]at hc
 case agg=>
  subst hc
  simp only [Ae]at h
  obtain ⟨a,rfl,h⟩:=h
  exact h
 all_goals
  subst hc
  have d:v.cells.toList=[v]:=by
   have c:=h.Qk (by rfl)
   cases v<;>first|rfl|(simp [Value.oneCell']at c)
  rw [d]
  simp only [Ax]
  exact ⟨v,[],rfl,⟨by rfl,h⟩,rfl⟩
end
section
variable (ρ:Env) (μ:Aq)
def Abw (e:Entry) (m:MapEntry):Prop:=e.key.single=true∧Ae ρ μ e.key m.key∧Ae ρ μ e.val m.val∧m.born=e.born
def Cb:List Entry→List MapEntry→Prop
 |[],ms=>ms=[]
 |e::es,ms=>∃m rest,ms=m::rest∧Abw ρ μ e m∧Cb es rest
def CL:Block→Option Obj→Nat×Nat→Prop
 |.cells vs,o,(δ,m)=>∃c e,o=some (.cells c e (0,0))∧δ+m≤c.size∧∀(i:Nat) (a:Aa),vs[i]?=some a→∃v,c[δ+i]?=some v∧a.single=true∧Ae ρ μ a v
 |.map es d,o,δ=>δ=(0,0)∧∃ms:Array MapEntry,o=some (.map ms d)∧Cb ρ μ es ms.toList
 |.typed e vs,o,(δ,m)=>∃c,o=some (.cells c e (0,0))∧(δ=0∧c.size=vs.length)∧δ+m≤c.size∧∀(i:Nat) (a:Aa),vs[i]?=some a→∃v,c[δ+i]?=some v∧a.single=true∧Ae ρ μ a v
 |.bytes n e,o,(δ,m)=>∃c,o=some (.cells c e (0,0))∧δ=0∧1≤BR m∧BR m≤n∧n≤1048576∧BR m≤Ca m∧Ca m≤c.size∧∀i,i<Ca m→∃x:UInt8,c[i]?=some (.int .u8 x.toNat)
 |.sbytes t e,o,(δ,m)=>∃c,o=some (.cells c e (0,0))∧δ=0∧1≤BR m∧(BR m:Int)≤t.den ρ∧t.den ρ≤1048576∧BR m≤Ca m∧Ca m≤c.size∧∀i,i<Ca m→∃x:UInt8,c[i]?=some (.int .u8 x.toNat)
 |.list i es,o,(δ,m)=>∃c e,o=some (.cells c e (0,0))∧δ=0∧(ρ.lst i).length≤BR m∧BR m≤1048576∧BR m≤Ca m∧Ca m*es≤c.size∧BU μ.Bf es c 0 (ρ.lst i)
 |.smap i,o,δ=>δ=(0,0)∧∃(ms:Array MapEntry) (d:Nat),o=some (.map ms d)∧Jm μ.Bf (ρ.map i) ms.toList
def AU (h:Al) (r:Nat):Prop:=∃b B δ,h.get b=some B∧μ b=some (r,δ)
structure Ys (h:Al) (w:World):Prop where
 AY:∀g o,ρ.AY g=some o→w.heap[g]?=some o∧¬AU μ h g
 Bf:∀g o,μ.Bf g=some o→w.heap[g]?=some o∧¬AU μ h g
 facts:h.fx.AL ρ
structure AO (h:Al) (w:World):Prop where
 fresh:∀b,h.next≤b→μ b=none
 blk:∀b B,h.get b=some B→∃r δ,μ b=some (r,δ)∧CL ρ μ B w.heap[r]? δ
 inj:∀b b' B B' r δ δ',h.get b=some B→h.get b'=some B'→μ b=some (r,δ)→μ b'=some (r,δ')→b=b'
 AY:Ys ρ μ h w
end
section
variable {ρ:Env} {μ μ':Aq}
theorem Abw.mono (h:μ.le μ') {e:Entry} {m:MapEntry} (x:Abw ρ μ e m):Abw ρ μ' e m:=⟨x.1,x.2.1.mono h,x.2.2.1.mono h,x.2.2.2⟩
theorem Cb.mono (h:μ.le μ'):∀{c:List Entry} {ms:List MapEntry},Cb ρ μ c ms→Cb ρ μ' c ms
 |[],_,e=>e
 |_::_,_,e=>let ⟨m,rest,e1,e2,e3⟩:=e;⟨m,rest,e1,e2.mono h,Cb.mono h e3⟩
theorem CL.mono (h:μ.le μ') {B:Block} {o:Option Obj} {δ:Nat×Nat} (x:CL ρ μ B o δ):CL ρ μ' B o δ:=by
 cases B with
 |cells vs=>
  obtain ⟨c,e,d,q,hc⟩:=x
  exact ⟨c,e,d,q,fun i a ha=>let ⟨v,h1,h2,h3⟩:=hc i a ha;⟨v,h1,h2,h3.mono h⟩⟩
 |map es clock=>
  obtain ⟨j,ms,d,z⟩:=x
  exact ⟨j,ms,d,z.mono h⟩
 |typed t vs=>
  obtain ⟨c,d,hs,q,hc⟩:=x
  exact ⟨c,d,hs,q,fun i a ha=>let ⟨v,h1,h2,h3⟩:=hc i a ha;⟨v,h1,h2,h3.mono h⟩⟩
 |bytes n t=>exact x
 |sbytes n t=>exact x
 |list i es=>obtain ⟨c,e,g,k,y,A,D,C,u⟩:=x;exact ⟨c,e,g,k,y,A,D,C,BU.mono h.Bf u⟩
 |smap i=>obtain ⟨j,ms,c,g,k⟩:=x;exact ⟨j,ms,c,g,Jm.mono h.Bf k⟩
theorem CL.some {B:Block} {o:Option Obj} {δ:Nat×Nat} (x:CL ρ μ B o δ):∃x,o=some x:=by
 cases B with
 |cells vs=>obtain ⟨c,e,d,_⟩:=x;exact ⟨_,d⟩
 |map es clock=>obtain ⟨_,ms,d,_⟩:=x;exact ⟨_,d⟩
 |typed t vs=>obtain ⟨c,d,_⟩:=x;exact ⟨_,d⟩
 |bytes n t=>obtain ⟨c,d,_⟩:=x;exact ⟨_,d⟩
 |sbytes n t=>obtain ⟨c,d,_⟩:=x;exact ⟨_,d⟩
 |list i es=>obtain ⟨c,e,d,_⟩:=x;exact ⟨_,d⟩
 |smap i=>obtain ⟨_,ms,c,d,_⟩:=x;exact ⟨_,d⟩
theorem AO.lt {h:Al} {w:World} (H:AO ρ μ h w) {b:Nat} {B:Block} {r:Nat} {δ:Nat×Nat} (hb:h.get b=some B) (d:μ b=some (r,δ)):r<w.heap.size:=by
 obtain ⟨k,j,c,hB⟩:=H.blk b B hb
 rw [d]at c
 simp only [oI,Prod.mk.injEq]at c
 obtain ⟨rfl,rfl⟩:=c
 obtain ⟨x,g⟩:=hB.some
 rcases Nat.lt_or_ge r w.heap.size with h'|h'
 ·exact h'
 ·simp [Array.getElem?_eq_none h']at g
theorem AO.F7 {h:Al} {w:World} (H:AO ρ μ h w) {b:Nat} {B:Block} (hb:h.get b=some B):b<h.next:=by
 obtain ⟨r,δ,c,_⟩:=H.blk b B hb
 rcases Nat.lt_or_ge b h.next with h'|h'
 ·exact h'
 ·rw [H.fresh b h']at c;cases c
end
structure Aw (ρ:Env) (μ:Aq) (h:Al) (w:World) (μ':Aq) (h':Al) (w':World):Prop where
 le:μ.le μ'
 rel:AO ρ μ' h' w'
 size:w.heap.size≤w'.heap.size
 kept:∀r,r<w.heap.size→¬AU μ h r→w'.heap[r]?=w.heap[r]?∧¬AU μ' h' r
 os:w'.os=w.os
 output:w'.output=w.output
 next:h.next≤h'.next
 old:∀b,b<h.next→μ' b=μ b
 icy:∀g o,μ'.Bf g=some o→μ.Bf g=some o∨AU μ h g∨w.heap.size≤g
 fx:h'.fx=h.fx
theorem Aw.refl {ρ:Env} {μ:Aq} {h:Al} {w:World} (H:AO ρ μ h w):Aw ρ μ h w μ h w:=
 ⟨μ.le_refl,H,Nat.le_refl _,fun _ _ h=>⟨rfl,h⟩,rfl,rfl,Nat.le_refl _,fun _ _=>rfl,fun _ _ h=>.inl h,rfl⟩
theorem Aw.trans {ρ:Env} {μ μ' j:Aq} {h y u:Al} {w w' q:World} (g:Aw ρ μ h w μ' y w') (c:Aw ρ μ' y w' j u q):
  Aw ρ μ h w j u q where
 le:=Aq.le_trans g.le c.le
 rel:=c.rel
 size:=Nat.le_trans g.size c.size
 kept:=fun r z d=>by
  obtain ⟨e,x⟩:=g.kept r z d
  obtain ⟨A,v⟩:=c.kept r (Nat.lt_of_lt_of_le z g.size) x
  exact ⟨A.trans e,v⟩
 os:=c.os.trans g.os
 output:=c.output.trans g.output
 next:=Nat.le_trans g.next c.next
 old:=fun b hb=>(c.old b (Nat.lt_of_lt_of_le hb g.next)).trans (g.old b hb)
 icy:=fun k o C=>by
  rcases c.icy k o C with h1|h1|h1
  ·exact g.icy k o h1
  ·rcases Nat.lt_or_ge k w.heap.size with hlt|hge
   ·by_cases d:AU μ h k
    ·exact .inr (.inl d)
    ·exact absurd h1 (g.kept k hlt d).2
   ·exact .inr (.inr hge)
  ·exact .inr (.inr (Nat.le_trans g.size h1))
 fx:=c.fx.trans g.fx
theorem AO.drew {ρ:Env} {μ:Aq} {h:Al} {w:World} (H:AO ρ μ h w):AO ρ μ h {w with drawn:=w.drawn+1}:=⟨H.fresh,H.blk,H.inj,⟨H.AY.AY,H.AY.Bf,H.AY.facts⟩⟩
theorem Ys.of {ρ:Env} {μ μ':Aq} {h c:Al} {w w':World} (F:Ys ρ μ h w) (j:∀r,r<w.heap.size→¬AU μ h r→w'.heap[r]?=w.heap[r]?∧¬AU μ' c r) (q:μ'.Bf=μ.Bf) (v:c.fx=h.fx):Ys ρ μ' c w':=by
 have key:∀g (o:Obj),w.heap[g]?=some o∧¬AU μ h g→w'.heap[g]?=some o∧¬AU μ' c g:=fun g o ⟨h1,h2⟩=>by
  obtain ⟨k,u⟩:=j g (Array.getElem?_eq_some_iff.1 h1).1 h2
  exact ⟨k.trans h1,u⟩
 exact ⟨fun g o d=>key g o (F.AY g o d),fun g o d=>key g o (F.Bf g o (q▸d)),v▸F.facts⟩
theorem AO.Gl {ρ:Env} {μ μ':Aq} {h c:Al} {w w':World} (H:AO ρ μ h w) (d:∀r,r<w.heap.size→¬AU μ h r→w'.heap[r]?=w.heap[r]?∧¬AU μ' c r) (g:μ'.Bf=μ.Bf:=by rfl) (j:c.fx=h.fx:=by rfl):
  Ys ρ μ' c w':=H.AY.of d g j
theorem Aw.drew {ρ:Env} {μ:Aq} {h:Al} {w:World} (H:AO ρ μ h w):Aw ρ μ h w μ h {w with drawn:=w.drawn+1}:=
 ⟨μ.le_refl,H.drew,Nat.le_refl _,fun _ _ h=>⟨rfl,h⟩,rfl,rfl,Nat.le_refl _,fun _ _=>rfl,fun _ _ h=>.inl h,rfl⟩
def Aq.put (μ:Aq) (b:Nat) (x:Yl):Aq:=⟨fun c=>if c=b then some x else μ c,μ.Bf⟩
theorem Aq.Qx {μ:Aq} {b:Nat} {x:Yl} (h:μ b=Option.none):μ.le (μ.put b x):=⟨fun c y e=>by
 simp only [Aq.put]
 by_cases hc:c=b
 ·subst hc;rw [h]at e;cases e
 ·rw [if_neg hc];exact e,fun _ _ e=>e⟩
theorem Aq.BQ (μ:Aq) (b:Nat) (x:Yl):μ.put b x b=some x:=by simp [Aq.put]
theorem Aq.Cm (μ:Aq) {b c:Nat} (x:Yl) (h:c≠b):μ.put b x c=μ c:=by simp [Aq.put,h]
theorem Al.Bq (h:Al) (b c:Nat) (o:Option Block):(h.set b o).get c=if c=b then o else h.get c:=Tr.Bq _ _ _ _
theorem Al.JM (h:Al) (c:Nat) (B:Block):(h.add B).get c=if c=h.next then some B else h.get c:=Tr.Bq _ _ _ _
theorem Al.JC (h:Al) (b:Nat) (o:Option Block):(h.set b o).next=h.next:=rfl
theorem Al.JD (h:Al) (B:Block):(h.add B).next=h.next+1:=rfl
theorem World.DC (w:World) (o:Obj) {r:Nat} (c:r<w.heap.size):(w.alloc o).heap[r]?=w.heap[r]?:=by
 show (w.heap.push o)[r]?=_
 rw [Array.getElem?_push,if_neg (by omega)]
theorem World.heap_alloc_new (w:World) (o:Obj):(w.alloc o).heap[w.heap.size]?=some o:=by
 show (w.heap.push o)[w.heap.size]?=_
 simp
theorem Aw.add {ρ:Env} {μ:Aq} {h:Al} {w:World} (H:AO ρ μ h w) (B:Block) (o:Obj) (δ:Nat×Nat)
  (hB:∀μ':Aq,μ.le μ'→CL ρ μ' B (some o) δ):Aw ρ μ h w (μ.put h.next (w.heap.size,δ)) (h.add B) (w.alloc o):=by
 have u:μ.le (μ.put h.next (w.heap.size,δ)):=Aq.Qx (H.fresh _ (Nat.le_refl _))
 have q:∀b d r j,(h.add B).get b=some d→μ.put h.next (w.heap.size,δ) b=some (r,j)→(b=h.next∧r=w.heap.size)∨(h.get b=some d∧μ b=some (r,j)∧r<w.heap.size):=fun b d r j hb c=>by
  rw [Al.JM]at hb
  by_cases e:b=h.next
  ·subst e
   rw [Aq.BQ]at c
   simp only [oI,Prod.mk.injEq]at c
   exact .inl ⟨rfl,c.1.symm⟩
  ·rw [if_neg e]at hb
   rw [Aq.Cm _ _ e]at c
   exact .inr ⟨hb,c,H.lt hb c⟩
 have k:∀r,r<w.heap.size→¬AU μ h r→(w.alloc o).heap[r]?=w.heap[r]?∧¬AU (μ.put h.next (w.heap.size,δ)) (h.add B) r:=fun r v y=>⟨World.DC _ _ v,by
  rintro ⟨b,d,j,hb,c⟩
  rcases q _ _ _ _ hb c with ⟨_,e⟩|⟨g,n,_⟩
  ·omega
  ·exact y ⟨b,d,j,g,n⟩⟩
 refine ⟨u,⟨fun b hb=>?_,fun b d hb=>?_,fun b M D O r N J C x A z=>?_,H.Gl k⟩,?_,k,rfl,rfl,Nat.le_succ _,fun b hb=>Aq.Cm _ _ (by omega),fun _ _ h=>.inl h,rfl⟩
 ·rw [Al.JD]at hb
  rw [Aq.Cm _ _ (by omega)]
  exact H.fresh b (by omega)
 ·rw [Al.JM]at hb
  by_cases e:b=h.next
  ·subst e
   rw [if_pos rfl]at hb
   simp only [oI]at hb
   subst hb
   exact ⟨_,_,Aq.BQ _ _ _,by rw [World.heap_alloc_new];exact hB _ u⟩
  ·rw [if_neg e]at hb
   obtain ⟨r,j,c,v⟩:=H.blk b d hb
   exact ⟨r,j,by rw [Aq.Cm _ _ e];exact c,by rw [World.DC _ _ (H.lt hb c)];exact v.mono u⟩
 ·rcases q _ _ _ _ C A with ⟨e1,e2⟩|⟨g1,n1,l1⟩<;>rcases q _ _ _ _ x z with ⟨e3,e4⟩|⟨g2,n2,l2⟩
  ·rw [e1,e3]
  ·omega
  ·omega
  ·exact H.inj _ _ _ _ _ _ _ g1 g2 n1 n2
 ·show w.heap.size≤(w.heap.push o).size;simp
theorem AO.drop {ρ:Env} {μ:Aq} {h:Al} {w:World} (H:AO ρ μ h w) (d:Al) (j:d.next=h.next) (g:d.fx=h.fx) (hs:∀b B,d.get b=some B→h.get b=some B):AO ρ μ d w:=
 ⟨fun b hb=>H.fresh b (j▸hb),fun b B hb=>H.blk b B (hs b B hb),fun _ _ _ _ _ _ _ k q u v=>H.inj _ _ _ _ _ _ _ (hs _ _ k) (hs _ _ q) u v,
  H.Gl (fun _ _ o=>⟨rfl,fun ⟨c,B,δ,hc,hm⟩=>o ⟨c,B,δ,hs c B hc,hm⟩⟩) rfl g⟩
theorem Aw.change {ρ:Env} {μ:Aq} {h:Al} {w w':World} (H:AO ρ μ h w) {b:Nat} {u:Block} {r:Nat} {δ:Nat×Nat} (hb:h.get b=some u) (k:μ b=some (r,δ)) (B:Block)
  (A:∀i,i≠r→w'.heap[i]?=w.heap[i]?) (Q:w'.heap.size=w.heap.size) (x:w'.os=w.os) (q:w'.output=w.output) (hB:CL ρ μ B w'.heap[r]? δ):Aw ρ μ h w μ (h.set b (some B)) w':=by
 have j:∀s,s<w.heap.size→¬AU μ h s→w'.heap[s]?=w.heap[s]?∧¬AU μ (h.set b (some B)) s:=fun s hs C=>by
  have o:s≠r:=fun e=>C ⟨b,u,δ,hb,e▸k⟩
  refine ⟨A s o,?_⟩
  rintro ⟨c,g,v,hc,d⟩
  rw [Al.Bq]at hc
  by_cases e:c=b
  ·subst e
   rw [k]at d
   simp only [oI,Prod.mk.injEq]at d
   exact o d.1.symm
  ·rw [if_neg e]at hc
   exact C ⟨c,g,v,hc,d⟩
 refine ⟨μ.le_refl,⟨fun c hc=>H.fresh c hc,fun c g hc=>?_,fun c U R B2 s δ1 Z P D N M=>?_,H.Gl j⟩,by omega,j,x,q,Nat.le_refl _,fun _ _=>rfl,fun _ _ h=>.inl h,rfl⟩
 ·rw [Al.Bq]at hc
  by_cases e:c=b
  ·subst e
   rw [if_pos rfl]at hc
   simp only [oI]at hc
   subst hc
   exact ⟨r,δ,k,hB⟩
  ·rw [if_neg e]at hc
   obtain ⟨s,v,d,O⟩:=H.blk c g hc
   refine ⟨s,v,d,?_⟩
   rw [A s (fun J=>e (H.inj _ _ _ _ _ _ _ hc hb d (J▸k)))]
   exact O
 ·have y:∀c g,(h.set b (some B)).get c=some g→∃z,h.get c=some z:=fun c g hc=>by
   rw [Al.Bq]at hc
   by_cases e:c=b
   ·exact ⟨u,e▸hb⟩
   ·rw [if_neg e]at hc;exact ⟨g,hc⟩
  obtain ⟨_,g1⟩:=y _ _ P
  obtain ⟨_,g2⟩:=y _ _ D
  exact H.inj _ _ _ _ _ _ _ g1 g2 N M
end Go.AM
end
section
namespace Go.AM
theorem Ab {α β:Type} {o:Option α} {f:α→Option β} {b:β} (h:AG o f=some b):∃a,o=some a∧f a=some b:=by
 cases o with
 |none=>exact absurd h (by simp [AG])
 |some a=>exact ⟨a,rfl,h⟩
theorem Ap {α:Type} {c:Bool} {x:Option α} {b:α} (h:(bif c then x else none)=some b):c=true∧x=some b:=by
 cases c with
 |false=>simp at h
 |true=>exact ⟨rfl,h⟩
theorem AX {a b:Nat}:Nat.ble a b=true↔a≤b:=⟨Nat.le_of_ble_eq_true,Nat.ble_eq_true_of_le⟩
theorem Ip {a b:Nat}:Nat.blt a b=true↔a<b:=AX
theorem An {a b:Nat}:Nat.beq a b=true↔a=b:=⟨Nat.eq_of_beq_eq_true,fun h=>by subst h;simp⟩
theorem JG:∀l:List Aa,Ad l=l.length
 |[]=>rfl
 |_::r=>by show Ad r+1=_;rw [JG r];rfl
theorem Kv:∀(l:List Aa) (n:Nat),nth l n=l[n]?
 |[],n=>by simp;rfl
 |x::r,0=>rfl
 |x::r,n+1=>by show nth r n=_;rw [Kv r n];simp
theorem Jf:∀(n:Nat) (l:List Aa),dropped n l=l.drop n
 |0,l=>rfl
 |n+1,[]=>rfl
 |n+1,x::r=>by show dropped n r=_;rw [Jf n r];rfl
theorem Gk:∀{n:Nat} {l r:List Aa},taken n l=some r→r=l.take n∧n≤l.length
 |0,l,r,h=>by
  have h:some []=some r:=h
  simp only [oI]at h
  subst h;simp
 |n+1,[],r,h=>by have h:none=some r:=h;cases h
 |n+1,x::l,r,h=>by
  have h:(AG (taken n l) fun r=>some (x::r))=some r:=h
  obtain ⟨s,hs,c⟩:=Ab h
  simp only [oI]at c
  subst c
  obtain ⟨rfl,hl⟩:=Gk hs
  exact ⟨rfl,by simp;omega⟩
theorem JX {c r:List Aa} {i n:Nat} (h:cut c i n=some r):r.length=n∧(n=0∨i+n≤c.length)∧∀k,r[k]?=if k<n then c[i+k]? else none:=by
 unfold cut at h
 rw [Jf]at h
 obtain ⟨rfl,hl⟩:=Gk h
 rw [List.length_drop]at hl
 refine ⟨by simp;omega,by omega,fun k=>?_⟩
 rw [List.getElem?_take]
 split
 ·rw [List.getElem?_drop]
 ·rfl
theorem OK:∀{vs c r:List Aa},over vs c=some r→r.length=c.length∧vs.length≤c.length∧∀k,r[k]?=if k<vs.length then vs[k]? else c[k]?
 |[],c,r,h=>by
  have h:some c=some r:=h
  simp only [oI]at h
  subst h;simp
 |v::vs,[],r,h=>by have h:none=some r:=h;cases h
 |v::vs,x::c,r,h=>by
  have h:(AG (over vs c) fun r=>some (v::r))=some r:=h
  obtain ⟨s,hs,d⟩:=Ab h
  simp only [oI]at d
  subst d
  obtain ⟨g,j,o⟩:=OK hs
  refine ⟨by simp [g],by simpa using j,fun k=>?_⟩
  cases k with
  |zero=>simp
  |succ k=>simp [o k]
theorem Hu {vs:List Aa}:∀{i:Nat} {c r:List Aa},splice vs i c=some r→
  r.length=c.length∧i+vs.length≤c.length∧∀k,r[k]?=if i≤k∧k<i+vs.length then vs[k-i]? else c[k]?
 |0,c,r,h=>by
  have h:over vs c=some r:=h
  obtain ⟨d,o,g⟩:=OK h
  exact ⟨d,by omega,fun k=>by rw [g k];simp⟩
 |i+1,[],r,h=>by have h:none=some r:=h;cases h
 |i+1,x::c,r,h=>by
  have h:(AG (splice vs i c) fun r=>some (x::r))=some r:=h
  obtain ⟨s,hs,j⟩:=Ab h
  simp only [oI]at j
  subst j
  obtain ⟨d,o,g⟩:=Hu hs
  refine ⟨by simp [d],by simp;omega,fun k=>?_⟩
  cases k with
  |zero=>rw [if_neg (by omega)];rfl
  |succ k=>
   rw [List.getElem?_cons_succ,List.getElem?_cons_succ,g k]
   by_cases hk:i≤k∧k<i+vs.length
   ·rw [if_pos hk,if_pos (by omega)];congr 1;omega
   ·rw [if_neg hk,if_neg (by omega)]
theorem ZB (z:List Aa):∀n,rep z n=(List.replicate n z).flatten
 |0=>rfl
 |n+1=>by show z++rep z n=_;rw [ZB z n,List.replicate_succ,List.flatten_cons]
theorem IP (z:List Aa):∀n,(rep z n).length=n*z.length
 |0=>by simp [show rep z 0=[]from rfl]
 |n+1=>by
  show (z++rep z n).length=_
  rw [lA,IP z n,Nat.succ_mul];omega
theorem Wt (z:List Aa):∀(n k:Nat),k<n*z.length→(rep z n)[k]?=z[k%z.length]?
 |0,k,h=>by omega
 |n+1,k,h=>by
  show (z++rep z n)[k]?=_
  by_cases hk:k<z.length
  ·rw [List.getElem?_append_left hk,Nat.mod_eq_of_lt hk]
  ·rw [List.getElem?_append_right (by omega),Wt z n _ (by rw [Nat.succ_mul]at h;omega)]
   rw [←Nat.mod_eq_sub_mod (by omega)]
theorem Dq:∀l:List Nat,Iw l=l.length
 |[]=>rfl
 |_::r=>by show Iw r+1=_;rw [Dq r];rfl
theorem F6:∀(l:List Nat) (n:Nat),Cn l n=l[n]?
 |[],n=>by simp;rfl
 |x::r,0=>rfl
 |x::r,n+1=>by show Cn r n=_;rw [F6 r n];simp
theorem La:∀(n:Nat) (l:List Nat),M5 n l=l.drop n
 |0,l=>rfl
 |n+1,[]=>rfl
 |n+1,x::r=>by show M5 n r=_;rw [La n r];rfl
theorem KZ:∀{n:Nat} {l r:List Nat},TX n l=some r→r=l.take n
 |0,l,r,h=>by
  have h:some []=some r:=h
  simp only [oI]at h
  subst h;simp
 |n+1,[],r,h=>by have h:none=some r:=h;cases h
 |n+1,x::l,r,h=>by
  have h:(AG (TX n l) fun r=>some (x::r))=some r:=h
  obtain ⟨s,hs,c⟩:=Ab h
  simp only [oI]at c
  subst c
  rw [KZ hs];rfl
theorem DD:∀{a b:List Nat},Ow a b=true↔a=b
 |[],[]=>by simp;rfl
 |[],b::y=>by constructor<;>intro h<;>(first|cases h|(have h:false=true:=h;cases h))
 |a::x,[]=>by constructor<;>intro h<;>(first|cases h|(have h:false=true:=h;cases h))
 |a::x,b::y=>by
  show (Nat.beq a b&&Ow x y)=true↔_
  rw [aT,An,DD,List.cons.injEq]
theorem WQ:∀l:List Entry,AcR l=l.length
 |[]=>rfl
 |_::r=>by show AcR r+1=_;rw [WQ r];rfl
theorem Kj {a b:ByteArray} (h:strOf a=strOf b):a=b:=by
 unfold strOf at h
 have:a.data.toList=b.data.toList:=by
  generalize a.data.toList=x at h
  generalize b.data.toList=y at h
  induction x generalizing y with
  |nil=>cases y with
   |nil=>rfl
   |cons _ _=>simp at h
  |cons c x ih=>cases y with
   |nil=>simp at h
   |cons d y=>
    simp only [List.map_cons,List.cons.injEq]at h
    rw [UInt8.toNat_inj.1 h.1,ih y h.2]
 cases a;cases b
 simp only at this
 congr 1
 exact Array.toList_inj.1 this
theorem CT (a b:ByteArray):Ow (strOf a) (strOf b)=(a.toList==b.toList):=by
 rw [Bool.eq_iff_iff,DD,ByteArray.toList_eq,ByteArray.toList_eq]
 simp only [beq_iff_eq]
 constructor
 ·intro h;rw [Kj h]
 ·intro h;unfold strOf;rw [h]
theorem YG (a b:ByteArray):ltL (strOf a) (strOf b)=Op.bytesLess a.toList b.toList:=by
 rw [ByteArray.toList_eq,ByteArray.toList_eq]
 unfold strOf
 generalize a.data.toList=x
 generalize b.data.toList=y
 induction x generalizing y with
 |nil=>cases y<;>rfl
 |cons c x ih=>
  cases y with
  |nil=>rfl
  |cons d y=>
   show (Nat.blt c.toNat d.toNat||(Nat.beq c.toNat d.toNat&&ltL (x.map (·.toNat)) (y.map (·.toNat))))=(decide (c<d) ||(c==d&&Op.bytesLess x y))
   rw [ih y]
   congr 1
   ·rw [Bool.eq_iff_iff,Ip];simp [UInt8.lt_iff_toNat_lt]
   ·congr 1
    rw [Bool.eq_iff_iff,An];simp [UInt8.toNat_inj]
theorem BK (a:ByteArray):(strOf a).length=a.size:=by
 unfold strOf;rw [List.length_map];rfl
theorem beq_iff' {a b:Bool}:beq a b=true↔a=b:=by rw [beq_eq];simp
theorem Aa.SM {x y:Aa} (h:x.eqC y=true):x=y:=by
 unfold Aa.eqC at h
 split at h<;>first
  |rfl
  |(cases h;done)
  |(simp only [aT,An]at h;obtain ⟨⟨⟨rfl,rfl⟩,rfl⟩,rfl⟩:=h;rfl)
  |(simp only [aT,An]at h;obtain ⟨rfl,rfl⟩:=h;rfl)
  |(rw [An]at h;rw [h];done)
  |(rw [DD]at h;rw [h];done)
  |(rw [SB.Bk h];done)
  |(rw [aT,Dt]at h;obtain ⟨rfl,h⟩:=h;rw [ST.Bk h];done)
  |(rw [aT,aT,aT,beq_iff',An,An]at h;obtain ⟨rfl,rfl,rfl,h⟩:=h;rw [ST.Bk h];done)
  |(rw [aT,aT,An,An]at h;obtain ⟨rfl,h,rfl⟩:=h;rw [ST.Bk h];done)
  |(rw [aT,aT,An,An]at h;obtain ⟨rfl,rfl,h⟩:=h;rw [ST.Bk h];done)
  |(rw [aT,aT,aT,An,An,An]at h;obtain ⟨rfl,rfl,h,rfl⟩:=h;rw [ST.Bk h];done)
theorem Aa.KA:∀{x y:List Aa},Aa.AcP x y=true→x=y
 |[],[],_=>rfl
 |[],_::_,h=>by cases h
 |_::_,[],h=>by cases h
 |a::x,b::y,h=>by
  have h:(a.eqC b&&Aa.AcP x y)=true:=h
  rw [aT]at h
  rw [Aa.SM h.1,Aa.KA h.2]
theorem Aa.Dw {x y:Aa} (h:x.eq y=true):x=y:=by
 unfold Aa.eq at h
 split at h
 ·rw [aT,aT,An]at h
  obtain ⟨rfl,c,d⟩:=h
  rw [Aa.KA c,Aa.KA d]
 ·exact Aa.SM h
theorem Aa.Dk:∀{x y:List Aa},Aa.Pk x y=true→x=y
 |[],[],_=>rfl
 |[],_::_,h=>by cases h
 |_::_,[],h=>by cases h
 |a::x,b::y,h=>by
  have h:(a.eq b&&Aa.Pk x y)=true:=h
  rw [aT]at h
  rw [Aa.Dw h.1,Aa.Dk h.2]
theorem Pj:∀{x y:List (List Aa)},Afq x y=true→x=y
 |[],[],_=>rfl
 |[],_::_,h=>by cases h
 |_::_,[],h=>by cases h
 |a::x,b::y,h=>by
  have h:(Aa.Pk a b&&Afq x y)=true:=h
  rw [aT]at h
  rw [Aa.Dk h.1,Pj h.2]
theorem AQ.Dw {x y:AQ} (h:x.eq y=true):x=y:=by
 unfold AQ.eq at h
 split at h
 ·rw [Pj h]
 ·rw [Nat.eq_of_beq_eq_true h]
 ·rw [aT]at h;rw [Nat.eq_of_beq_eq_true h.1,ST.Bk h.2]
 ·rw [aT]at h;rw [Nat.eq_of_beq_eq_true h.1,ST.Bk h.2]
 ·cases h
theorem AQ.Dk:∀{x y:List AQ},AQ.Pk x y=true→x=y
 |[],[],_=>rfl
 |[],_::_,h=>by cases h
 |_::_,[],h=>by cases h
 |a::x,b::y,h=>by
  have h:(a.eq b&&AQ.Pk x y)=true:=h
  rw [aT]at h
  rw [AQ.Dw h.1,AQ.Dk h.2]
theorem Gc {x y:Aa} {v:Bool}:∀{l:List (Aa×Aa×Bool)},M9 x y l=some v→(x,y,v)∈l
 |[],h=>by cases h
 |e::r,h=>by
  have h:(bif x.eq e.1&&y.eq e.2.1 then some e.2.2 else M9 x y r)=some v:=h
  cases c:x.eq e.1&&y.eq e.2.1 with
  |true=>
   rw [c]at h
   simp only [cond_true,oI]at h
   rw [aT]at c
   rw [Aa.Dw c.1,Aa.Dw c.2,←h]
   exact List.mem_cons_self
  |false=>rw [c]at h;exact List.mem_cons_of_mem _ (Gc h)
theorem OT {x y v:Aa}:∀{l:List (Aa×Aa×Aa)},Aae x y l=some v→(x,y,v)∈l
 |[],h=>by cases h
 |e::r,h=>by
  have h:(bif x.eq e.1&&y.eq e.2.1 then some e.2.2 else Aae x y r)=some v:=h
  cases c:x.eq e.1&&y.eq e.2.1 with
  |true=>
   rw [c]at h
   simp only [cond_true,oI]at h
   rw [aT]at c
   rw [Aa.Dw c.1,Aa.Dw c.2,←h]
   exact List.mem_cons_self
  |false=>rw [c]at h;exact List.mem_cons_of_mem _ (OT h)
theorem Kx {i:Nat} {v:ST×Nat×Nat}:∀{l:List (Nat×ST×Nat×Nat)},WD i l=some v→(i,v)∈l
 |[],h=>by cases h
 |e::r,h=>by
  have h:(bif Nat.beq e.1 i then some e.2 else WD i r)=some v:=h
  cases c:Nat.beq e.1 i with
  |true=>
   rw [c]at h
   simp only [cond_true,oI]at h
   rw [←h,←Nat.eq_of_beq_eq_true c]
   exact List.mem_cons_self
  |false=>rw [c]at h;exact List.mem_cons_of_mem _ (Kx h)
theorem CG {i:Nat} {v:ST}:∀{l:List (Nat×ST)},ER i l=some v→(i,v)∈l
 |[],h=>by cases h
 |e::r,h=>by
  have h:(bif Nat.beq e.1 i then some e.2 else ER i r)=some v:=h
  cases c:Nat.beq e.1 i with
  |true=>
   rw [c]at h
   simp only [cond_true,oI]at h
   rw [←h,←Nat.eq_of_beq_eq_true c]
   exact List.mem_cons_self
  |false=>rw [c]at h;exact List.mem_cons_of_mem _ (CG h)
theorem Ik {i:Nat} {t:ST} {v:List Aa}:∀{l:List (Nat×ST×List Aa)},OS i t l=some v→(i,t,v)∈l
 |[],h=>by cases h
 |e::r,h=>by
  have h:(bif Nat.beq e.1 i&&e.2.1.eq t then some e.2.2 else OS i t r)=some v:=h
  cases c:Nat.beq e.1 i&&e.2.1.eq t with
  |true=>
   rw [c]at h
   simp only [cond_true,oI]at h
   rw [aT]at c
   rw [←Nat.eq_of_beq_eq_true c.1,←ST.Bk c.2,←h]
   exact List.mem_cons_self
  |false=>rw [c]at h;exact List.mem_cons_of_mem _ (Ik h)
theorem OR {i:Nat} {k:Aa} {v:Option (List Aa)}:∀{l:List (Nat×Aa×Option (List Aa))},Aac i k l=some v→(i,k,v)∈l
 |[],h=>by cases h
 |e::r,h=>by
  have h:(bif Nat.beq e.1 i&&k.eq e.2.1 then some e.2.2 else Aac i k r)=some v:=h
  cases c:Nat.beq e.1 i&&k.eq e.2.1 with
  |true=>
   rw [c]at h
   simp only [cond_true,oI]at h
   rw [aT]at c
   rw [←Nat.eq_of_beq_eq_true c.1,Aa.Dw c.2,←h]
   exact List.mem_cons_self
  |false=>rw [c]at h;exact List.mem_cons_of_mem _ (OR h)
theorem OP {i j:Nat} {k:Aa} {cs:List Aa}:∀{l:List (Nat×Aa×List Aa×Nat)},Aab i k cs l=some j→(i,k,cs,j)∈l
 |[],h=>by cases h
 |e::r,h=>by
  have h:(bif Nat.beq e.1 i&&(k.eq e.2.1&&Aa.Pk cs e.2.2.1)then some e.2.2.2 else Aab i k cs r)=some j:=h
  cases c:Nat.beq e.1 i&&(k.eq e.2.1&&Aa.Pk cs e.2.2.1)with
  |true=>
   rw [c]at h
   simp only [cond_true,oI]at h
   rw [aT,aT]at c
   rw [←Nat.eq_of_beq_eq_true c.1,Aa.Dw c.2.1,Aa.Dk c.2.2,←h]
   exact List.mem_cons_self
  |false=>rw [c]at h;exact List.mem_cons_of_mem _ (OP h)
theorem OU {t u:ST} {n:Nat}:∀{l:List (ST×Nat×ST)},Aaf t n l=some u→∃m,n≤m∧(t,m,u)∈l
 |[],h=>by cases h
 |e::r,h=>by
  have h:(bif t.eq e.1&&Nat.ble n e.2.1 then some e.2.2 else Aaf t n r)=some u:=h
  cases c:t.eq e.1&&Nat.ble n e.2.1 with
  |true=>
   rw [c]at h
   simp only [cond_true,oI]at h
   rw [aT]at c
   refine ⟨e.2.1,Nat.le_of_ble_eq_true c.2,?_⟩
   rw [ST.Bk c.1,←h]
   exact List.mem_cons_self
  |false=>
   rw [c]at h
   obtain ⟨m,d,g⟩:=OU h
   exact ⟨m,d,List.mem_cons_of_mem _ g⟩
theorem EZ {p:List AQ} {j:Nat}:∀{l:List (Nat×List AQ)},JF p l=some j→(j,p)∈l
 |[],h=>by cases h
 |e::r,h=>by
  have h:(bif AQ.Pk p e.2 then some e.1 else JF p r)=some j:=h
  cases c:AQ.Pk p e.2 with
  |true=>
   rw [c]at h
   simp only [cond_true,oI]at h
   rw [AQ.Dk c,←h]
   exact List.mem_cons_self
  |false=>rw [c]at h;exact List.mem_cons_of_mem _ (EZ h)
theorem OF {p:List AQ} {j:Nat}:∀{l:List (Nat×List AQ)},Z4 p l=some j→(j,p)∈l
 |[],h=>by cases h
 |e::r,h=>by
  have h:(bif AQ.Pk p e.2 then some e.1 else Z4 p r)=some j:=h
  cases c:AQ.Pk p e.2 with
  |true=>
   rw [c]at h
   simp only [cond_true,oI]at h
   rw [AQ.Dk c,←h]
   exact List.mem_cons_self
  |false=>rw [c]at h;exact List.mem_cons_of_mem _ (OF h)
end Go.AM
end
section
namespace Go.AM
section
variable {P:Program} {Γ:Ao} {ρ:Env} {μ:Aq} {tm:Tr Aa} {a:Act} {w:World}
def Be (ρ:Env) (μ:Aq) (tm:Tr Aa) (a:Act):Prop:=∀t,Ae ρ μ (E9 (tm.get t)) (a.tmps.getD t undef)
theorem Be.mono {c:Aq} (d:Be ρ μ tm a) (h:μ.le c):Be ρ c tm a:=fun t=>(d t).mono h
mutual
theorem Dm:∀v:Value,Ae ρ μ (GK v) v
 |.bool b=>by simp only [GK,Ae,SB.den]
 |.int k n=>by simp only [GK,Ae,ST.den]
 |.string s=>by simp only [GK,Ae];exact ⟨s,rfl,rfl⟩
 |.pointer none=>by simp only [GK,Ae]
 |.pointer (some _)=>trivial
 |.slice none 0 0=>by simp only [GK,Ae]
 |.slice none 0 (_+1)=>trivial
 |.slice none (_+1) _=>trivial
 |.slice (some _) _ _=>trivial
 |.map none=>by simp only [GK,Ae]
 |.map (some _)=>trivial
 |.nilFunc=>by simp only [GK,Ae]
 |.nilIface=>by simp only [GK,Ae]
 |.agg ⟨cs⟩=>by
  simp only [GK]
  split
  ·rename_i h
   simp only [Ae]
   exact ⟨⟨cs⟩,rfl,NC cs h⟩
  ·trivial
 |.float _ _=>trivial
 |.complex _ _ _=>trivial
 |.chan _=>trivial
 |.func _ _ _=>trivial
 |.iface _ _=>trivial
 |.tuple _=>trivial
theorem NC:∀l:List Value,(Tf l).all (·.single)=true→Ax ρ μ (Tf l) l
 |[],_=>by simp only [Tf,Ax]
 |v::r,h=>by
  simp only [Tf,List.all_cons,aT]at h
  simp only [Tf,Ax]
  exact ⟨v,r,rfl,⟨h.1,Dm v⟩,NC r h.2⟩
end
theorem Au (c:Be ρ μ tm a) (x:Operand):Ae ρ μ (ev tm (AJ x)) (a.eval x):=by
 cases x with
 |tmp t=>exact c t
 |const v=>exact Dm v
 |global g=>trivial
 |func f=>
  show Ae ρ μ (.func f [] []) (.func (.func f) #[] #[])
  simp only [Ae]
  exact ⟨#[],#[],rfl,by simp only [A9],by simp only [A9]⟩
theorem Ge (c:Be ρ μ tm a):∀l:List Operand,A9 ρ μ (Rr tm (Ch l)) (l.map a.eval)
 |[]=>by show A9 ρ μ [] [];simp only [A9]
 |x::r=>by
  show A9 ρ μ (ev tm (AJ x)::Rr tm (Ch r)) _
  simp only [A9,List.map_cons]
  exact ⟨_,_,rfl,Au c x,Ge c r⟩
theorem Be.put (c:Be ρ μ tm a) {d:Option Tmp} {v:Aa} {u:Value} (hd:∀t,d=some t→t<a.tmps.size) (h:Ae ρ μ v u):Be ρ μ (DY tm d v) (a.put d u):=by
 cases d with
 |none=>exact c
 |some d=>
  intro t
  show Ae ρ μ (E9 ((tm.set d (some v)).get t)) ((a.tmps.setIfInBounds d u).getD t undef)
  rw [Tr.Bq]
  have g:=hd d rfl
  by_cases e:t=d
  ·subst e
   rw [if_pos rfl]
   simpa [Array.getD_eq_getD_getElem?,g,E9]using h
  ·rw [if_neg e]
   have:=c t
   simpa [Array.getD_eq_getD_getElem?,Array.getElem?_setIfInBounds_ne (Ne.symm e)]using this
theorem Act.Mg (d:Option Tmp) (u:Value):(a.put d u).tmps.size=a.tmps.size:=by
 cases d<;>simp [Act.put]
theorem Ae.int {k:IntKind} {n:ST} {v:Value} (h:Ae ρ μ (.int k n) v):v=.int k (n.den ρ):=by simpa only [Ae]using h
theorem Ae.bool {b:SB} {v:Value} (h:Ae ρ μ (.bool b) v):v=.bool (b.den ρ):=by simpa only [Ae]using h
theorem Ae.agg {cs:List Aa} {v:Value} (h:Ae ρ μ (.agg cs) v):∃a:Array Value,v=.agg a∧Ax ρ μ cs a.toList:=by simpa only [Ae]using h
theorem Ae.tuple {cs:List Aa} {v:Value} (h:Ae ρ μ (.tuple cs) v):∃a:Array Value,v=.tuple a∧A9 ρ μ cs a.toList:=by simpa only [Ae]using h
theorem Ae.str {s:List Nat} {v:Value} (h:Ae ρ μ (.str s) v):∃b:ByteArray,v=.string b∧strOf b=s:=by simpa only [Ae]using h
theorem Ae.ptr {b c:Nat} {v:Value} (h:Ae ρ μ (.ptr b c) v):∃r δ m,μ b=some (r,δ,m)∧v=.pointer (some ⟨r,δ+c,none⟩):=by simpa only [Ae]using h
theorem Ae.slice {b d len c:Nat} {v:Value} (h:Ae ρ μ (.slice b d len c) v):
  ∃r δ m,μ b=some (r,δ,m)∧v=.slice (some ⟨r,δ+d,none⟩) len c∧len≤c:=by simpa only [Ae]using h
theorem Ae.gslice {b d len g:Nat} {v:Value} (h:Ae ρ μ (.gslice b d len g) v):
  ∃r δ m c,μ b=some (r,δ,m)∧v=.slice (some ⟨r,δ+d,none⟩) len c∧len≤c∧d+c*g≤m:=by simpa only [Ae]using h
theorem Ae.NW {b:Nat} {v:Value} (h:Ae ρ μ (.map b) v):∃r,μ b=some (r,0,0)∧v=.map (some r):=by simpa only [Ae]using h
theorem Ae.func {f:FuncId} {x c:List Aa} {v:Value} (h:Ae ρ μ (.func f x c) v):∃d g:Array Value,v=.func (.func f) d g∧A9 ρ μ x d.toList∧A9 ρ μ c g.toList:=by simpa only [Ae]using h
theorem Ae.iface {t:TypeId} {x:Aa} {v:Value} (h:Ae ρ μ (.iface t x) v):∃u,v=.iface t u∧Ae ρ μ x u:=by simpa only [Ae]using h
theorem Ae.anyStr {n:Nat} {v:Value} (h:Ae ρ μ (.anyStr n) v):∃b:ByteArray,v=.string b∧1≤b.size∧b.size≤n:=by simpa only [Ae]using h
theorem Ae.gbytes {b:Nat} {v:Value} (h:Ae ρ μ (.gbytes b) v):∃r m,μ b=some (r,0,m)∧v=.slice (some ⟨r,0,none⟩) (BR m) (Ca m)∧1≤BR m∧BR m≤Ca m:=by simpa only [Ae]using h
theorem Ae.glen {b:Nat} {v:Value} (h:Ae ρ μ (.glen b) v):∃r m,μ b=some (r,0,m)∧v=.int .i64 (BR m:Nat):=by simpa only [Ae]using h
theorem Ae.svar {i:Nat} {v:Value} (h:Ae ρ μ (.svar i) v):∃b:ByteArray,v=.string b∧strOf b=ρ.str i:=by simpa only [Ae]using h
theorem Ae.lst {f:Bool} {i c:Nat} {n:ST} {v:Value} (h:Ae ρ μ (.lst f i c n) v):Ix μ.Bf (.list c (ρ.lst i)) v∧n.den ρ=((ρ.lst i).length:Int)∧(f=true→∃p,v=.slice p (ρ.lst i).length (ρ.lst i).length):=by simpa only [Ae]using h
theorem Ae.lptr {i c:Nat} {j:ST} {v:Value} (h:Ae ρ μ (.lptr i j c) v):∃r δ a e d,v=.pointer (some ⟨r,δ+c,none⟩)∧IA μ.Bf r a e∧0≤j.den ρ∧(ρ.lst i)[(j.den ρ).toNat]?=some d∧AW μ.Bf a δ d:=by simpa only [Ae]using h
theorem Ae.vec {b c:Nat} {n:ST} {v:Value} (h:Ae ρ μ (.vec b c n) v):∃r m k,μ b=some (r,0,m)∧v=.slice (some ⟨r,0,none⟩) k (Ca m)∧n.den ρ=(k:Int)∧k≤BR m∧BR m≤Ca m:=by simpa only [Ae]using h
theorem Ae.vptr {b d c:Nat} {j:ST} {v:Value} (h:Ae ρ μ (.vptr b d j c) v):∃r m,μ b=some (r,0,m)∧v=.pointer (some ⟨r,(j.den ρ).toNat*d+c,none⟩)∧0≤j.den ρ:=by simpa only [Ae]using h
theorem Ae.Et {f:Bool} {i j:Nat} {n:ST} {v:Value} (h:Ae ρ μ (.lst f i j n) v):∃p c,v=.slice p (ρ.lst i).length c∧(ρ.lst i).length≤c∧n.den ρ=((ρ.lst i).length:Int)∧
  ((ρ.lst i).length≠0→∃r δ a e,p=some ⟨r,δ,none⟩∧IA μ.Bf r a e∧BU μ.Bf j a δ (ρ.lst i)):=by
 obtain ⟨g,d,_⟩:=h.lst
 simp only [Ix]at g
 obtain ⟨c,hc,⟨e,p,rfl⟩|⟨r,δ,a,t,rfl,k,o⟩⟩:=g
 ·exact ⟨p,c,by rw [e];rfl,hc,d,fun h=>absurd (by rw [e];rfl) h⟩
 ·exact ⟨_,c,rfl,hc,d,fun _=>⟨r,δ,a,t,rfl,k,o⟩⟩
theorem BU.get {Bf:Nat→Option Obj} {c:Nat} {a:Array Value}:∀{l:List (List PV)} {δ:Nat},BU Bf c a δ l→∀(i:Nat) (d:List PV),l[i]?=some d→d.length=c∧AW Bf a (δ+i*c) d
 |[],_,_,i,d,h=>by simp at h
 |qs::r,δ,e,i,d,h=>by
  simp only [BU]at e
  obtain ⟨k,o,q⟩:=e
  cases i with
  |zero=>
   simp only [List.getElem?_cons_zero,oI]at h
   subst h
   exact ⟨k,by simpa using o⟩
  |succ i=>
   obtain ⟨g,j⟩:=BU.get q i d (by simpa using h)
   exact ⟨g,by rw [Nat.add_mul,Nat.one_mul];rw [show δ+(i*c+c)=δ+c+i*c by omega];exact j⟩
section
variable {Bf:Nat→Option Obj} {a:Array Value}
theorem AW.append_iff:∀{x y:List PV} {δ:Nat},AW Bf a δ (x++y)↔AW Bf a δ x∧AW Bf a (δ+x.length) y
 |[],y,δ=>by simp only [List.nil_append,AW,true_and,lN,Nat.add_zero]
 |p::x,y,δ=>by
  simp only [List.cons_append,AW,lC]
  rw [AW.append_iff (x:=x) (y:=y) (δ:=δ+1),and_assoc]
  rw [show δ+1+x.length=δ+(x.length+1) by omega]
theorem BB {c:Nat}:∀{l:List (List PV)} {δ:Nat},BU Bf c a δ l↔(∀d∈l,d.length=c)∧AW Bf a δ l.flatten
 |[],δ=>by simp only [BU,List.flatten_nil,AW,List.not_mem_nil,false_implies,implies_true,and_self]
 |d::l,δ=>by
  simp only [BU,List.flatten_cons,AW.append_iff,BB (l:=l),List.mem_cons,forall_eq_or_imp]
  constructor
  ·rintro ⟨h1,h2,h3,h4⟩
   exact ⟨⟨h1,h3⟩,h2,by rw [h1];exact h4⟩
  ·rintro ⟨⟨h1,h3⟩,h2,h4⟩
   exact ⟨h1,h2,h3,by rw [h1]at h4;exact h4⟩
theorem BN {d:Nat}:∀{l:List (List PV)},(∀c∈l,c.length=d)→l.flatten.length=l.length*d
 |[],_=>by simp
 |c::l,h=>by
  rw [List.flatten_cons,lA,BN fun x g=>h x (List.mem_cons_of_mem _ g),h c List.mem_cons_self,lC,Nat.add_mul]
  omega
end
theorem Ix.Tn {x:Aa} {p:PV} {v:Value} (hd:LF ρ x p) (h:Ix μ.Bf p v):Ae ρ μ x v∧x.single=true:=by
 cases x<;>simp only [LF]at hd
 case bool|int|nilPtr=>subst hd;simp only [Ix]at h;exact ⟨by simp only [Ae];exact h,rfl⟩
 case str=>subst hd;simp only [Ix]at h;exact ⟨by simp only [Ae];exact h,rfl⟩
 case svar=>subst hd;simp only [Ix]at h;exact ⟨by simp only [Ae];exact h,rfl⟩
 case lst f i es n=>
  obtain ⟨rfl,rfl,c⟩:=hd
  exact ⟨by simp only [Ae];exact ⟨h,c,fun e=>by cases e⟩,rfl⟩
theorem AW.Tn {c:Array Value}:∀{g:List Aa} {d:List PV} {δ:Nat},FI ρ g d→AW μ.Bf c δ d→g.length=d.length∧∀(i:Nat) (x:Aa),g[i]?=some x→∃v,c[δ+i]?=some v∧x.single=true∧Ae ρ μ x v
 |[],d,δ,hd,h=>by
  simp only [FI]at hd
  subst hd
  exact ⟨rfl,fun i x M=>by simp at M⟩
 |x::g,d,δ,hd,h=>by
  simp only [FI]at hd
  obtain ⟨p,rest,rfl,D,z⟩:=hd
  simp only [AW]at h
  obtain ⟨⟨u,A,C⟩,J⟩:=h
  obtain ⟨q,H⟩:=AW.Tn z J
  refine ⟨by simp [q],fun i y o=>?_⟩
  cases i with
  |zero=>
   simp only [List.getElem?_cons_zero,oI]at o
   subst o
   obtain ⟨j,k⟩:=C.Tn D
   exact ⟨u,A,k,j⟩
  |succ i=>
   obtain ⟨v,j,k⟩:=H i y (by simpa using o)
   exact ⟨v,by rw [←j];congr 1;omega,k⟩
theorem AW.cs {c:Array Value} {g:List Aa} {d:List PV} (hd:FI ρ g d) (h:AW μ.Bf c 0 d) (hs:c.size=d.length):Ax ρ μ g c.toList:=by
 obtain ⟨o,k⟩:=AW.Tn hd h
 refine Ax.Kt (by rw [o,←hs];rfl) fun i x u=>?_
 obtain ⟨v,j,q⟩:=k i x u
 exact ⟨v,by rw [Array.getElem?_toList];simpa using j,q⟩
theorem BW {x:Aa} {s:List Nat} {v:Value} (hs:Eo ρ x=some s) (h:Ae ρ μ x v):∃b:ByteArray,v=.string b∧strOf b=s:=by
 cases x<;>simp only [Eo,oI,reduceCtorEq]at hs
 case str=>subst hs;exact h.str
 case svar=>subst hs;exact h.svar
theorem ES (g:Γ.AL ρ) {op:BinOp} {x y:ST} (h:D8 Γ op x y=true):ED op (x.den ρ) (y.den ρ)=true:=by
 unfold D8 at h
 split at h
 ·rename_i v d
  obtain ⟨c,_⟩:=CU g d
  subst h
  exact c.symm
 ·cases h
theorem IX (c:Γ.AL ρ) {x y:ST} (h:D8 Γ .geq x y=true):y.den ρ≤x.den ρ:=by simpa [ED]using ES c h
theorem Ul (c:Γ.AL ρ) {x y:ST} (h:D8 Γ .gtr x y=true):y.den ρ<x.den ρ:=by simpa [ED]using ES c h
theorem MF (c:Γ.AL ρ) {x y:ST} (h:D8 Γ .lss x y=true):x.den ρ<y.den ρ:=by simpa [ED]using ES c h
theorem Gw (c:Γ.AL ρ) {x y:ST} (h:D8 Γ .leq x y=true):x.den ρ≤y.den ρ:=by simpa [ED]using ES c h
theorem Ub {x:Aa} {n:Nat} (h:CN x=some n):∃k,x=.int k (.lit (.ofNat n)):=by
 unfold CN at h
 split at h
 ·rename_i k m
  simp only [oI]at h
  exact ⟨k,by rw [h]⟩
 ·cases h
theorem Cw {x:Aa} {n:Nat} {v:Value} (h:CN x=some n) (c:Ae ρ μ x v):∃k,v=.int k (n:Int):=by
 obtain ⟨k,rfl⟩:=Ub h
 exact ⟨k,c.int⟩
def Bx (P:Program) (ρ:Env) (μ:Aq) (a:Act) (o:Oper) (w:World) (v:Aa):Prop:=∃c,(execOp a.eval o).run P w=.ok (.value c) w∧Ae ρ μ v c
theorem E2 (P:Program) (w:World) (t:TypeId) {n:Option Nat} (h:Ee P t=some n):
  (isAgg t).run P w=.ok n.isSome w∧(∀m,n=some m→(sizeOf t).run P w=.ok m w):=by
 unfold Ee at h
 split at h
 ·rename_i u i g j
  simp only [oI]at h
  subst h
  refine ⟨by simp [isAgg,run_underlying g],fun m c=>?_⟩
  simp only [oI]at c
  subst c
  simp [sizeOf,typeInfo,j]
 ·rename_i k e i g j
  simp only [oI]at h
  subst h
  refine ⟨by simp [isAgg,run_underlying g],fun m c=>?_⟩
  simp only [oI]at c
  subst c
  simp [sizeOf,typeInfo,j]
 ·rename_i d i q o g j
  simp only [oI]at h
  subst h
  refine ⟨?_,fun m c=>by cases c⟩
  cases d<;>first|(simp [isAgg,run_underlying g];done) |skip
  ·exact (o _ _ rfl).elim
  ·exact (q _ rfl).elim
 ·cases h
theorem B5 {t:TypeId} {n:Nat} (h:Bj P t=some n):(sizeOf t).run P w=.ok n w:=by
 unfold Bj at h
 cases e:P.info? t with
 |none=>rw [e]at h;cases h
 |some i=>
  rw [e]at h
  simp only [Option.map_some,oI]at h
  simp [sizeOf,typeInfo,e,h]
theorem Ax.extract {cs r:List Aa} {x:Array Value} {c n:Nat} (h:Ax ρ μ cs x.toList) (hc:cut cs c n=some r):Ax ρ μ r (x.extract c (c+n)).toList:=by
 obtain ⟨j,o,k⟩:=JX hc
 have hl:cs.length=x.size:=by simpa using h.length
 refine Ax.Kt ?_ fun i b hb=>?_
 ·rw [j,Array.length_toList,Array.size_extract]
  omega
 ·rw [k]at hb
  split at hb
  ·rename_i q
   obtain ⟨v,d,hs,g⟩:=h.get hb
   refine ⟨v,?_,hs,g⟩
   rw [Array.getElem?_toList,Array.getElem?_extract]
   rw [Array.getElem?_toList]at d
   rw [if_pos (by omega)]
   exact d
  ·cases hb
theorem M1 {t:TypeId} {n:Option Nat} {cs:List Aa} {x:Array Value} {c:Nat} {v:Aa} (u:Ee P t=some n) (o:Ax ρ μ cs x.toList) (h:JB cs c n=some v):
  ∃d,(part t x c).run P w=.ok d w∧Ae ρ μ v d:=by
 obtain ⟨j,q⟩:=E2 P w t u
 unfold JB at h
 cases n with
 |none=>
  simp only at h
  rw [Kv]at h
  obtain ⟨d,k,_,g⟩:=o.get h
  rw [Array.getElem?_toList]at k
  exact ⟨d,by simp [part,j,k],g⟩
 |some n=>
  simp only at h
  obtain ⟨r,g,h⟩:=Ab h
  simp only [oI]at h
  subst h
  refine ⟨.agg (x.extract c (c+n)),by simp [part,j,q n rfl],?_⟩
  simp only [Ae]
  exact ⟨_,rfl,o.extract g⟩
theorem Sx {o:Oper} {x:Operand} (c:o.op=.move x∨o.op=.assign x) (d:Be ρ μ tm a):Bx P ρ μ a o w (ev tm (AJ x)):=
 ⟨a.eval x,by rcases c with c|c<;>simp [execOp,c],Au d x⟩
theorem Ut {o:Oper} {c x y:Operand} (g:o.op=.pick c x y) (d:Be ρ μ tm a) {v:Aa} (h:ZN (ev tm (AJ c)) (ev tm (AJ x)) (ev tm (AJ y))=some v):Bx P ρ μ a o w v:=by
 have hc:=Au d c
 unfold ZN at h
 split at h
 ·rename_i b hb
  rw [hb]at hc
  have hc:=hc.bool
  simp only [oI]at h
  subst h
  refine ⟨if b then a.eval x else a.eval y,?_,?_⟩
  ·simp [execOp,g,hc,asBool,SB.den]
  ·cases b
   ·exact Au d y
   ·exact Au d x
 ·cases h
theorem Uu {o:Oper} {x:Operand} (k:o.op=.nilCheck x) (u:Be ρ μ tm a) {v:Aa} (h:ZS (ev tm (AJ x))=some v):Bx P ρ μ a o w v:=by
 have d:=Au u x
 unfold ZS at h
 split at h
 ·rename_i b q hb
  simp only [oI]at h
  rw [hb]at d
  subst h
  have g:=d
  obtain ⟨r,δ,_,_,e⟩:=d.ptr
  exact ⟨a.eval x,by simp [execOp,k,e],g⟩
 ·rename_i f y c hb
  simp only [oI]at h
  rw [hb]at d
  subst h
  have g:=d
  obtain ⟨_,_,e,_⟩:=d.func
  exact ⟨a.eval x,by simp [execOp,k,e],g⟩
 ·rename_i i j q hb
  simp only [oI]at h
  rw [hb]at d
  subst h
  have g:=d
  obtain ⟨r,δ,_,_,_,e,_⟩:=d.lptr
  exact ⟨a.eval x,by simp [execOp,k,e],g⟩
 ·rename_i b z j q hb
  simp only [oI]at h
  rw [hb]at d
  subst h
  have g:=d
  obtain ⟨r,m,_,e,_⟩:=d.vptr
  exact ⟨a.eval x,by simp [execOp,k,e],g⟩
 ·cases h
theorem Sy {o:Oper} {t:TypeId} {x:Operand} (c:o.op=.makeInterface t x) (d:Be ρ μ tm a) (hc:P.concrete t=true):Bx P ρ μ a o w (.iface t (ev tm (AJ x))):=
 ⟨.iface t (a.eval x),by simp [execOp,c,run_makeInterface,hc],by simp only [Ae];exact ⟨_,rfl,Au d x⟩⟩
theorem Uz {o:Oper} {f:FuncId} {x c:Array Operand} (g:o.op=.makeFunc (.func f) x c) (d:Be ρ μ tm a):Bx P ρ μ a o w (.func f (Rr tm (Ch x.toList)) (Rr tm (Ch c.toList))):=
 ⟨.func (.func f) (x.map a.eval) (c.map a.eval),by simp [execOp,g,Instr.makeFunc],by
  simp only [Ae]
  exact ⟨_,_,rfl,by simpa using Ge d x.toList,by simpa using Ge d c.toList⟩⟩
theorem XP {o:Oper} {x:Operand} {i:Nat} (j:o.op=.extract x i) (q:Be ρ μ tm a) {v:Aa} (h:Afo (ev tm (AJ x)) i=some v):Bx P ρ μ a o w v:=by
 have d:=Au q x
 unfold Afo at h
 split at h
 ·rename_i vs hb
  rw [hb]at d
  obtain ⟨y,e,k⟩:=d.tuple
  rw [Kv]at h
  obtain ⟨u,c,g⟩:=k.get h
  rw [Array.getElem?_toList]at c
  exact ⟨u,by simp [execOp,j,e,Instr.extract,c],g⟩
 ·cases h
theorem Addr.Bl (r o n:Nat):(⟨r,o,none⟩:Addr).add n=⟨r,o+n,none⟩:=by
 unfold Addr.add
 by_cases h:n=0
 ·subst h;simp
 ·rw [if_neg h]
theorem Q8 {o:Oper} {t:TypeId} {x:Operand} {f:Nat} (q:o.op=.fieldAddr t x f) (H:Be ρ μ tm a) {C:Array Field} {g:Field} {n:Nat} (u:P.underlying t=some (.struct C)) (hf:C[f]?=some g)
  (y:Bj P g.type=some (n+1)) {v:Aa} (h:QJ g.offset (ev tm (AJ x))=some v):Bx P ρ μ a o w v:=by
 have k:=Au H x
 unfold QJ at h
 split at h
 ·rename_i b d hb
  simp only [oI]at h
  subst h
  rw [hb]at k
  obtain ⟨r,δ,m,A,e⟩:=k.ptr
  refine ⟨.pointer (some ⟨r,δ+(d+g.offset),none⟩),?_,?_⟩
  ·have hs:=B5 (w:=w) y
   simp [execOp,q,e,Instr.fieldAt,run_underlying u,hf,Instr.sureAddr,fieldPlace,hs,Addr.Bl,Nat.add_assoc]
  ·simp only [Ae];exact ⟨r,δ,_,A,rfl⟩
 ·rename_i i j d hb
  simp only [oI]at h
  subst h
  rw [hb]at k
  obtain ⟨r,δ,c,t,J,e,z,D⟩:=k.lptr
  refine ⟨.pointer (some ⟨r,δ+(d+g.offset),none⟩),?_,?_⟩
  ·have hs:=B5 (w:=w) y
   simp [execOp,q,e,Instr.fieldAt,run_underlying u,hf,Instr.sureAddr,fieldPlace,hs,Addr.Bl,Nat.add_assoc]
  ·simp only [Ae];exact ⟨r,δ,c,t,J,rfl,z,D⟩
 ·rename_i b M j d hb
  simp only [oI]at h
  subst h
  rw [hb]at k
  obtain ⟨r,m,A,e,z⟩:=k.vptr
  refine ⟨.pointer (some ⟨r,(j.den ρ).toNat*M+(d+g.offset),none⟩),?_,?_⟩
  ·have hs:=B5 (w:=w) y
   simp [execOp,q,e,Instr.fieldAt,run_underlying u,hf,Instr.sureAddr,fieldPlace,hs,Addr.Bl,Nat.add_assoc]
  ·simp only [Ae];exact ⟨r,m,A,rfl,z⟩
 ·cases h
theorem Sz {o:Oper} {t:TypeId} {x:Operand} {f:Nat} (j:o.op=.field t x f) (u:Be ρ μ tm a) {c:Array Field} {g:Field} {n:Option Nat} (q:P.underlying t=some (.struct c)) (hf:c[f]?=some g)
  (z:Ee P g.type=some n) {v:Aa} (h:U7 g.offset n (ev tm (AJ x))=some v):Bx P ρ μ a o w v:=by
 have d:=Au u x
 unfold U7 at h
 split at h
 ·rename_i cs hb
  rw [hb]at d
  obtain ⟨y,e,C⟩:=d.agg
  obtain ⟨D,A,k⟩:=M1 (w:=w) z C h
  exact ⟨D,by simp [execOp,j,e,Instr.field,run_underlying q,hf,asAgg,A],k⟩
 ·cases h
theorem Uy (N:Γ.AL ρ) {o:Oper} {t e:TypeId} {x i:Operand} (U:o.op=.indexAddr t x i) (Z:Be ρ μ tm a) {n:Nat} (Q:P.underlying t=some (.slice e)) (R:Bj P e=some n) {v:Aa}
  (h:Aao Γ n (ev tm (AJ x)) (ev tm (AJ i)) (CN (ev tm (AJ i)))=some v):Bx P ρ μ a o w v:=by
 have A:=Au Z x
 have J:=Au Z i
 have key:∀(b y len r δ m c:Nat),WJ n b y len (CN (ev tm (AJ i)))=some v→μ b=some (r,δ,m)→a.eval x=.slice (some ⟨r,δ+y,none⟩) len c→Bx P ρ μ a o w v:=fun b y len r δ m c h u z=>by
  unfold WJ at h
  obtain ⟨j,hj,h⟩:=Ab h
  obtain ⟨d,h⟩:=Ap h
  simp only [oI]at h
  subst h
  obtain ⟨k,H⟩:=Cw hj J
  have hs:=B5 (w:=w) R
  have d:=Ip.1 d
  refine ⟨.pointer (some ⟨r,δ+(y+j*n),none⟩),?_,?_⟩
  ·simp [execOp,U,z,H,Instr.indexAt,asIntOf,run_underlying Q,hs,d,Addr.Bl,Nat.add_assoc]
  ·simp only [Ae];exact ⟨r,δ,_,u,rfl⟩
 unfold Aao at h
 split at h
 ·rename_i b es len hb
  rw [hb]at A
  unfold Ad1 at h
  split at h
  ·rename_i k t M
   obtain ⟨hc,h⟩:=Ap h
   simp only [oI]at h
   subst h
   rw [aT,aT,An]at hc
   obtain ⟨rfl,g,C⟩:=hc
   have g:=IX N g
   have C:=MF N C
   rw [M]at J
   have H:=J.int
   obtain ⟨r,m,c,u,z,D,_,_⟩:=A.vec
   rw [D]at C
   have g:0≤t.den ρ:=g
   obtain ⟨q,hq⟩:∃q:Nat,t.den ρ=(q:Int):=⟨(t.den ρ).toNat,by omega⟩
   have d:q<c:=by omega
   have hs:=B5 (w:=w) R
   refine ⟨.pointer (some ⟨r,(t.den ρ).toNat*n+0,none⟩),?_,?_⟩
   ·rw [hq]at H⊢
    simp [execOp,U,z,H,Instr.indexAt,asIntOf,run_underlying Q,hs,d,Addr.Bl,Nat.add_assoc]
   ·simp only [Ae]
    exact ⟨r,m,u,rfl,g⟩
  ·cases h
 ·rename_i f j es len hb
  rw [hb]at A
  unfold Ad2 at h
  split at h
  ·rename_i k t M
   obtain ⟨hc,h⟩:=Ap h
   simp only [oI]at h
   subst h
   rw [aT,aT,An]at hc
   obtain ⟨rfl,g,C⟩:=hc
   have g:=IX N g
   have C:=MF N C
   rw [M]at J
   have H:=J.int
   obtain ⟨p,c,z,hc,D,hp⟩:=A.Et
   rw [D]at C
   have g:0≤t.den ρ:=g
   obtain ⟨m,u⟩:∃m:Nat,t.den ρ=(m:Int):=⟨(t.den ρ).toNat,by omega⟩
   have d:m<(ρ.lst j).length:=by omega
   obtain ⟨r,δ,cs,ty,rfl,k1,k2⟩:=hp (by omega)
   have hs:=B5 (w:=w) R
   obtain ⟨O,hps⟩:∃O,(ρ.lst j)[m]?=some O:=⟨_,List.getElem?_eq_getElem d⟩
   refine ⟨.pointer (some ⟨r,δ+m*n,none⟩),?_,?_⟩
   ·rw [u]at H
    simp [execOp,U,z,H,Instr.indexAt,asIntOf,run_underlying Q,hs,d,Addr.Bl,Nat.add_assoc]
   ·simp only [Ae]
    refine ⟨r,δ+m*n,cs,ty,O,rfl,k1,g,?_,(k2.get m O hps).2⟩
    rw [u];exact hps
  ·cases h
 ·rename_i b y len cap hb
  rw [hb]at A
  obtain ⟨r,δ,m,u,z,_⟩:=A.slice
  exact key _ _ _ _ _ _ _ h u z
 ·rename_i b y len cap hb
  rw [hb]at A
  obtain ⟨r,δ,m,c,u,z,_⟩:=A.gslice
  exact key _ _ _ _ _ _ _ h u z
 ·cases h
theorem Q7 {o:Oper} {t e:TypeId} {x i:Operand} {len:Nat} (u:o.op=.indexAddr t x i) (d:Be ρ μ tm a) {n:Nat} (A:P.underlying t=some (.array len e)) (D:Bj P e=some n) {v:Aa}
  (h:Q4 len n (ev tm (AJ x)) (CN (ev tm (AJ i)))=some v):Bx P ρ μ a o w v:=by
 have q:=Au d x
 have z:=Au d i
 unfold Q4 at h
 split at h
 ·rename_i b g hb
  obtain ⟨j,H,h⟩:=Ab h
  obtain ⟨c,h⟩:=Ap h
  simp only [oI]at h
  subst h
  rw [hb]at q
  obtain ⟨r,δ,m,J,y⟩:=q.ptr
  obtain ⟨k,C⟩:=Cw H z
  have hs:=B5 (w:=w) D
  have c:=Ip.1 c
  refine ⟨.pointer (some ⟨r,δ+(g+j*n),none⟩),?_,?_⟩
  ·simp [execOp,u,y,C,Instr.indexAt,asIntOf,run_underlying A,hs,c,Addr.Bl,Nat.add_assoc,Instr.sureAddr]
  ·simp only [Ae];exact ⟨r,δ,_,J,rfl⟩
 ·cases h
theorem XO {o:Oper} {t e:TypeId} {x i:Operand} {len:Nat} (u:o.op=.index t x i) (g:Be ρ μ tm a) {n:Nat} {d:Option Nat} (D:P.underlying t=some (.array len e)) (J:Bj P e=some n) (ha:Ee P e=some d) {v:Aa}
  (h:Afg len n d (ev tm (AJ x)) (CN (ev tm (AJ i)))=some v):Bx P ρ μ a o w v:=by
 have q:=Au g x
 have C:=Au g i
 unfold Afg at h
 split at h
 ·rename_i cs hb
  obtain ⟨j,O,h⟩:=Ab h
  obtain ⟨c,h⟩:=Ap h
  rw [hb]at q
  obtain ⟨y,A,N⟩:=q.agg
  obtain ⟨k,H⟩:=Cw O C
  have hs:=B5 (w:=w) J
  have c:=Ip.1 c
  obtain ⟨Q,M,z⟩:=M1 (w:=w) ha N h
  refine ⟨Q,?_,z⟩
  simp [execOp,u,A,H,Instr.index,asIntOf,run_underlying D,hs,c,M]
 ·cases h
theorem Ux {o:Oper} {t:TypeId} {x i:Operand} (A:o.op=.index t x i) (q:Be ρ μ tm a) (J:P.underlying t=some .string) {v:Aa}
  (h:Aan (ev tm (AJ x)) (CN (ev tm (AJ i)))=some v):Bx P ρ μ a o w v:=by
 have z:=Au q x
 have D:=Au q i
 unfold Aan at h
 split at h
 ·rename_i s hb
  obtain ⟨j,N,h⟩:=Ab h
  obtain ⟨c,hc,h⟩:=Ab h
  simp only [oI]at h
  subst h
  rw [hb]at z
  obtain ⟨g,C,rfl⟩:=z.str
  obtain ⟨k,H⟩:=Cw N D
  rw [F6]at hc
  unfold strOf at hc
  rw [List.getElem?_map]at hc
  obtain ⟨u,d,rfl⟩:=mS hc
  have y:j<g.size:=by
   have:=(List.getElem?_eq_some_iff.1 d).1
   simpa using this
  refine ⟨.int .u8 u.toNat,?_,by simp only [Ae,ST.den];rfl⟩
  have M:g[j]?=some u:=by
   rw [ByteArray.getElem?_lt' _ _ y]
   rw [Array.getElem?_toList]at d
   have:=(Array.getElem?_eq_some_iff.1 d).2
   rw [←this];rfl
  simp [execOp,A,C,H,Instr.index,asIntOf,run_underlying J,M]
 ·cases h
theorem Uv (J:Γ.AL ρ) {o:Oper} {t:TypeId} {x:Operand} {c:Call} (y:o.op=.call c) (j:c.callee=.builtin .len) (d:c.args=#[x]) (g:c.argTypes=#[t]) (D:Be ρ μ tm a)
  (z:P.underlying t=some .string) {v:Aa} (h:Aag Γ (ev tm (AJ x))=some v):Bx P ρ μ a o w v:=by
 have k:=Au D x
 unfold Aag at h
 split at h
 ·rename_i i hb
  obtain ⟨r,H,h⟩:=Ab h
  simp only [oI]at h
  subst h
  rw [hb]at k
  obtain ⟨q,u,C⟩:=k.svar
  refine ⟨.int .i64 q.size,?_,?_⟩
  ·simp [execOp,y,resolve,j,d,g,invoke,builtin,u,Builtin.len_,run_underlying z,goInt]
  ·have M:=Kx H
   have A:=(J.BA _ M).1
   simp only [Ae]
   rw [show (i,r).2.1=r.1 from rfl]at A
   rw [A,←C,BK]
 ·rename_i s hb
  simp only [oI]at h
  subst h
  rw [hb]at k
  obtain ⟨q,u,rfl⟩:=k.str
  refine ⟨.int .i64 q.size,?_,?_⟩
  ·simp [execOp,y,resolve,j,d,g,invoke,builtin,u,Builtin.len_,run_underlying z,goInt]
  ·simp only [lit,Ae,ST.den];rw [Dq,BK];rfl
 ·rename_i n hb
  simp only [oI]at h
  subst h
  rw [hb]at k
  obtain ⟨q,u,_⟩:=k.anyStr
  refine ⟨.int .i64 q.size,?_,trivial⟩
  simp [execOp,y,resolve,j,d,g,invoke,builtin,u,Builtin.len_,run_underlying z,goInt]
 ·cases h
theorem Uw {o:Oper} {t e:TypeId} {x:Operand} {c:Call} (y:o.op=.call c) (j:c.callee=.builtin .len) (d:c.args=#[x]) (g:c.argTypes=#[t]) (D:Be ρ μ tm a)
  (z:P.underlying t=some (.slice e)) {v:Aa} (h:Aah (ev tm (AJ x))=some v):Bx P ρ μ a o w v:=by
 have q:=Au D x
 unfold Aah at h
 split at h
 ·rename_i b C n cap hb
  simp only [oI]at h
  subst h
  rw [hb]at q
  obtain ⟨r,δ,m,_,u,_⟩:=q.slice
  refine ⟨.int .i64 n,?_,?_⟩
  ·simp [execOp,y,resolve,j,d,g,invoke,builtin,u,Builtin.len_,run_underlying z,goInt]
  ·simp only [lit,Ae,ST.den];rfl
 ·rename_i b C n cap hb
  simp only [oI]at h
  subst h
  rw [hb]at q
  obtain ⟨r,δ,m,M,_,u,_⟩:=q.gslice
  refine ⟨.int .i64 n,?_,?_⟩
  ·simp [execOp,y,resolve,j,d,g,invoke,builtin,u,Builtin.len_,run_underlying z,goInt]
  ·simp only [lit,Ae,ST.den];rfl
 ·rename_i hb
  simp only [oI]at h
  subst h
  rw [hb]at q
  have u:a.eval x=.slice none 0 0:=by simpa only [Ae]using q
  refine ⟨.int .i64 0,?_,?_⟩
  ·simp [execOp,y,resolve,j,d,g,invoke,builtin,u,Builtin.len_,run_underlying z,goInt]
  ·simp only [lit,Ae,ST.den];rfl
 ·rename_i b hb
  simp only [oI]at h
  subst h
  rw [hb]at q
  obtain ⟨r,m,H,u,_⟩:=q.gbytes
  refine ⟨.int .i64 (BR m:Nat),?_,?_⟩
  ·simp [execOp,y,resolve,j,d,g,invoke,builtin,u,Builtin.len_,run_underlying z,goInt]
  ·simp only [Ae];exact ⟨r,m,H,rfl⟩
 ·rename_i f i J n hb
  simp only [oI]at h
  subst h
  rw [hb]at q
  obtain ⟨p,M,u,_,A,_⟩:=q.Et
  refine ⟨.int .i64 (ρ.lst i).length,?_,?_⟩
  ·simp [execOp,y,resolve,j,d,g,invoke,builtin,u,Builtin.len_,run_underlying z,goInt]
  ·simp only [Ae];rw [A]
 ·rename_i b J n hb
  simp only [oI]at h
  subst h
  rw [hb]at q
  obtain ⟨r,m,k,_,u,A,_⟩:=q.vec
  refine ⟨.int .i64 k,?_,?_⟩
  ·simp [execOp,y,resolve,j,d,g,invoke,builtin,u,Builtin.len_,run_underlying z,goInt]
  ·simp only [Ae];rw [A]
 ·cases h
theorem NR (ts:Array TypeId) (t:TypeId) (l c:Nat):Builtin.unsafeSliceData_ ts t #[.slice none l c]=pure (.pointer none):=rfl
theorem Mf (ts:Array TypeId) (t:TypeId) (p:Addr) (l c:Nat) (hc:c≠0):Builtin.unsafeSliceData_ ts t #[.slice (some p) l c]=pure (.pointer (some p)):=by
 have:Builtin.unsafeSliceData_ ts t #[.slice (some p) l c]=(if c≠0 then pure (.pointer (some p))else (viewAt p.block>>=fun v=>if v.isSome then pure (.pointer (some p))else (elemOf t>>=fun e=>newObj (.view p e)>>=fun n=>pure (.pointer (some ⟨n,0,none⟩))))):=rfl
 rw [this,if_pos hc]
theorem Sv {o:Oper} {x:Operand} {c:Call} (q:o.op=.call c) (g:c.callee=.builtin .unsafeSliceData) (d:c.args=#[x]) (u:Be ρ μ tm a)
  {v:Aa} (h:TM (ev tm (AJ x))=some v):Bx P ρ μ a o w v:=by
 have j:=Au u x
 unfold TM at h
 split at h
 ·rename_i hb
  simp only [oI]at h
  subst h
  rw [hb]at j
  have k:a.eval x=.slice none 0 0:=by simpa only [Ae]using j
  refine ⟨.pointer none,?_,by simp only [Ae]⟩
  simp [execOp,q,resolve,g,d,invoke,builtin,k,NR]
 ·rename_i b hb
  simp only [oI]at h
  subst h
  rw [hb]at j
  obtain ⟨r,m,y,k,A,z⟩:=j.gbytes
  refine ⟨.pointer (some ⟨r,0,none⟩),?_,by simp only [Ae];exact ⟨r,0,m,y,rfl⟩⟩
  have hc:¬Ca m=0:=by omega
  simp [execOp,q,resolve,g,d,invoke,builtin,k,Mf _ _ _ _ _ hc]
 ·cases h
end
end Go.AM
end
section
namespace Go.AM
section
variable {P:Program} {Γ:Ao} {ρ:Env} {μ:Aq} {tm:Tr Aa} {a:Act} {w:World}
theorem HF (c:Nat):∀(l:List Value) (k:Nat) (cells:Array Value),c+k+l.length≤cells.size→
  ((l.zipIdx k).foldl (fun (cs:Array Value) (x:Value×Nat)=>cs.setIfInBounds (c+x.2) x.1) cells).size=cells.size∧
  ∀i,((l.zipIdx k).foldl (fun (cs:Array Value) (x:Value×Nat)=>cs.setIfInBounds (c+x.2) x.1) cells)[i]?=if c+k≤i∧i<c+k+l.length then l[i-(c+k)]? else cells[i]?
 |[],k,cells,h=>⟨rfl,fun i=>by rw [if_neg (by simp only [lN];omega)];rfl⟩
 |v::l,k,cells,h=>by
  simp only [lC]at h
  rw [List.zipIdx_cons,List.foldl_cons]
  obtain ⟨d,g⟩:=HF c l (k+1) (cells.setIfInBounds (c+k) v) (by simp;omega)
  refine ⟨by rw [d];simp,fun i=>?_⟩
  rw [g i]
  simp only [lC]
  by_cases hi:c+k=i
  ·subst hi
   rw [if_neg (by omega),if_pos (by omega),Array.getElem?_setIfInBounds_self_of_lt (by omega)]
   simp
  ·by_cases hj:c+(k+1)≤i∧i<c+(k+1)+l.length
   ·rw [if_pos hj,if_pos (by omega)]
    have:i-(c+k)=(i-(c+(k+1)))+1:=by omega
    rw [this,List.getElem?_cons_succ]
   ·rw [if_neg hj,if_neg (by omega),Array.getElem?_setIfInBounds_ne hi]
theorem XQ (c:Nat) (v cells:Array Value) (h:c+v.size≤cells.size):
  (v.zipIdx.foldl (fun (cs:Array Value) (x:Value×Nat)=>cs.setIfInBounds (c+x.2) x.1) cells).size=cells.size∧
  ∀i,(v.zipIdx.foldl (fun (cs:Array Value) (x:Value×Nat)=>cs.setIfInBounds (c+x.2) x.1) cells)[i]?=if c≤i∧i<c+v.size then v[i-c]? else cells[i]?:=by
 have:=HF c v.toList 0 cells (by simpa using h)
 rw [←Array.foldl_toList,Array.toList_zipIdx]
 simpa using this
theorem Ax.spliced {vs cs r:List Aa} {x y:Array Value} {c:Nat} (g:Ax ρ μ cs x.toList) (d:Ax ρ μ vs y.toList) (h:splice vs c cs=some r):
  c+y.size≤x.size∧∀z:Array Value,z.size=x.size→(∀i,z[i]?=if c≤i∧i<c+y.size then y[i-c]? else x[i]?)→Ax ρ μ r z.toList:=by
 obtain ⟨u,A,o⟩:=Hu h
 have j:cs.length=x.size:=by simpa using g.length
 have v:vs.length=y.size:=by simpa using d.length
 refine ⟨by omega,fun z q k=>Ax.Kt (by rw [u,j,←q];simp) fun i b hb=>?_⟩
 rw [o i]at hb
 rw [Array.getElem?_toList,k i]
 rw [v]at hb
 split at hb
 ·rename_i hc
  rw [if_pos hc]
  simpa using d.get hb
 ·rename_i hc
  rw [if_neg hc]
  simpa using g.get hb
theorem Og {cs r:List Aa} {x:Array Value} {v:Aa} {u:Value} {c size:Nat} (q:Ax ρ μ cs x.toList) (k:Ae ρ μ v u) (h:FD cs v c size=some r):
  u.cells.size=size∧c+u.cells.size≤x.size∧∀z:Array Value,z.size=x.size→(∀i,z[i]?=if c≤i∧i<c+u.cells.size then u.cells[i-c]? else x[i]?)→Ax ρ μ r z.toList:=by
 unfold FD at h
 obtain ⟨vs,g,h⟩:=Ab h
 obtain ⟨hl,h⟩:=Ap h
 have d:=k.cells g
 obtain ⟨j,o⟩:=q.spliced d h
 refine ⟨?_,j,o⟩
 have:=An.1 hl
 rw [JG]at this
 rw [←this]
 simpa using d.length.symm
theorem Gy (k:Be ρ μ tm a):∀{parts:List (Nat×Operand)} {d:List (Nat×Nat×C9)} {c place':Nat→Option (Nat×Nat)} {cs r:List Aa} {x:Array Value},
  partsOf c parts=some d→(∀i y,c i=some y→place' i=some y)→Ax ρ μ cs x.toList→HJ tm d cs=some r→
  ∃z:Array Value,Instr.fill place' x (parts.map fun p=>(p.1,a.eval p.2))=some z∧Ax ρ μ r z.toList
 |[],d,c,place',cs,r,x,hp,hpl,hx,h=>by
  simp only [partsOf,oI]at hp
  subst hp
  have h:some cs=some r:=h
  simp only [oI]at h
  subst h
  exact ⟨x,rfl,hx⟩
 |(i,y)::parts,d,c,place',cs,r,x,hp,hpl,hx,h=>by
  simp only [partsOf]at hp
  split at hp
  ·rename_i g size o D q
   simp only [oI]at hp
   subst hp
   have h:(AG (FD cs (ev tm (AJ y)) g size) (HJ tm o))=some r:=h
   obtain ⟨M,hc,h⟩:=Ab h
   obtain ⟨N,v,H⟩:=Og hx (Au k y) hc
   obtain ⟨u,A⟩:=XQ g (a.eval y).cells x v
   have j:=H _ u A
   obtain ⟨z,J,C⟩:=Gy k q hpl j h
   refine ⟨z,?_,C⟩
   simp only [List.map_cons,Instr.fill,hpl i _ D]
   rw [if_neg (by simp;omega)]
   exact J
  ·cases hp
theorem E4 {t:TypeId} {cs:List Aa} (h:Hj P t=some cs):∃v,(zeroValue t).run P w=.ok v w∧Ax ρ μ cs v.cells.toList:=by
 unfold Hj at h
 cases e:P.info? t with
 |none=>rw [e]at h;cases h
 |some i=>
  rw [e]at h
  simp only at h
  obtain ⟨v,c,h⟩:=Option.bind_eq_some_iff.1 h
  obtain ⟨d,hc,h⟩:=Option.bind_eq_some_iff.1 h
  split at h
  ·simp only [oI]at h
   subst h
   exact ⟨v,by simp [zeroValue,typeInfo,e,c],(Dm v).cells hc⟩
  ·cases h
theorem GO:∀(c:List Field),c.all (fun f=>(P.info? f.type).isSome)=true→
  (c.mapM fun f=>Functor.map (Prod.mk f.offset) (sizeOf f.type)).run P w=.ok (c.map fun f=>(f.offset,P.cellsOf f.type)) w
 |[],_=>by simp
 |f::c,h=>by
  simp only [List.all_cons,aT]at h
  obtain ⟨i,d⟩:=Option.isSome_iff_exists.1 h.1
  have hs:(sizeOf f.type).run P w=.ok i.size w:=by simp [sizeOf,typeInfo,d]
  simp [List.mapM_cons,GO c h.2,hs,Program.cellsOf,d]
theorem IY {o:Oper} {t:TypeId} {parts:Array (Nat×Operand)} (O:o.op=.build t parts) (H:Be ρ μ tm a) {c:Array Field} {z:List Aa} {u:List (Nat×Nat×C9)}
  (D:P.underlying t=some (.struct c)) (J:Hj P t=some z) (j:c.all (fun f=>(P.info? f.type).isSome)=true)
  (Q:partsOf (fun i=>(c[i]?).bind fun f=>(Bj P f.type).map fun n=>(f.offset,n)) parts.toList=some u) {v:Aa} (h:N0 (HJ tm u z)=some v):Bx P ρ μ a o w v:=by
 obtain ⟨R,Z,A⟩:=E4 (w:=w) (ρ:=ρ) (μ:=μ) J
 unfold N0 at h
 obtain ⟨r,U,h⟩:=Ab h
 simp only [oI]at h
 subst h
 have k:∀i y,((c[i]?).bind fun (f:Field)=>(Bj P f.type).map fun n=>(f.offset,n))=some y→(c.map fun f=>(f.offset,P.cellsOf f.type))[i]?=some y:=fun i y e=>by
  obtain ⟨f,hf,e⟩:=Option.bind_eq_some_iff.1 e
  obtain ⟨n,q,e⟩:=mS e
  rw [Array.getElem?_map,hf,←e]
  unfold Bj at q
  simp [Program.cellsOf,q]
 obtain ⟨x,M,hc⟩:=Gy H Q k A U
 refine ⟨.agg x,?_,by simp only [Ae];exact ⟨x,rfl,hc⟩⟩
 have d:c.toList.all (fun f=>(P.info? f.type).isSome)=true:=by rw [←j];simp
 have N:=GO (w:=w) c.toList d
 have C:(parts.map fun x=>(x.1,a.eval x.2)).toList=parts.toList.map fun p=>(p.1,a.eval p.2):=by simp
 have g:Instr.fill (fun i=>(c.map fun f=>(f.offset,P.cellsOf f.type))[i]?) R.cells ((parts.map fun x=>(x.1,a.eval x.2)).toList)=some x:=by rw [C];exact M
 simp [execOp,O,Instr.build,Z,run_underlying D,Array.mapM_eq_mapM_toList,N]
 simp at g
 rw [g]
 simp
theorem JK {o:Oper} {t e:TypeId} {len n:Nat} {parts:Array (Nat×Operand)} (D:o.op=.build t parts) (q:Be ρ μ tm a) {z:List Aa} {d:List (Nat×Nat×C9)}
  (k:P.underlying t=some (.array len e)) (A:Hj P t=some z) (u:Bj P e=some n)
  (H:partsOf (fun i=>some (i*n,n)) parts.toList=some d) {v:Aa} (h:N0 (HJ tm d z)=some v):Bx P ρ μ a o w v:=by
 obtain ⟨J,N,g⟩:=E4 (w:=w) (ρ:=ρ) (μ:=μ) A
 unfold N0 at h
 obtain ⟨r,M,h⟩:=Ab h
 simp only [oI]at h
 subst h
 obtain ⟨x,C,hc⟩:=Gy (place':=fun i=>some (i*n,n)) q H (fun i y e=>e) g M
 refine ⟨.agg x,?_,by simp only [Ae];exact ⟨x,rfl,hc⟩⟩
 have j:(parts.map fun x=>(x.1,a.eval x.2)).toList=parts.toList.map fun p=>(p.1,a.eval p.2):=by simp
 have c:Instr.fill (fun i=>some (i*n,n)) J.cells ((parts.map fun x=>(x.1,a.eval x.2)).toList)=some x:=by rw [j];exact C
 have hs:=B5 (w:=w) u
 simp [execOp,D,Instr.build,N,run_underlying k,hs]
 simp at c
 rw [c]
 simp
theorem Jx (b c:ByteArray):strOf (b++c)=strOf b++strOf c:=by simp [strOf,ByteArray.data_append]
theorem YF {x:Aa} {b:ByteArray} (h:Eo ρ x=some (strOf b)):Ae ρ μ x (.string b):=by
 cases x<;>simp only [Eo,oI,reduceCtorEq]at h
 case str=>simp only [Ae];exact ⟨b,rfl,h.symm⟩
 case svar=>simp only [Ae];exact ⟨b,rfl,h.symm⟩
theorem Jk {o:Oper} {op:BinOp} {t J:TypeId} {x y:Operand} (z:o.op=.binOp op t x y J) (C:Γ.AL ρ) {X Y:Aa} (D:Ae ρ μ X (a.eval x)) (A:Ae ρ μ Y (a.eval y)) {v:Aa} (h:AaQ Γ op X Y=some v):Bx P ρ μ a o w v:=by
 unfold AaQ at h
 split at h
 ·obtain ⟨b,hb,h⟩:=Ab h
  simp only [oI]at h
  subst h
  obtain ⟨s,u,q,g,c⟩:=C.strs _ (Gc hb)
  obtain ⟨d,j,rfl⟩:=BW q D
  obtain ⟨b2,k,rfl⟩:=BW g A
  have c:b=decide (strOf d=strOf b2):=c
  refine ⟨.bool (d.toList==b2.toList),?_,?_⟩
  ·simp only [execOp,z,j,k,eqGuard_at_string,binOp,Op.stringOp,Sem.run_bind,Sem.run_pure,Result.andThen_ok]
  ·simp only [Ae,SB.den]
   rw [←CT,c]
   congr 1
   rw [Bool.eq_iff_iff,DD];simp
 ·obtain ⟨b,hb,h⟩:=Ab h
  simp only [oI]at h
  subst h
  obtain ⟨s,u,q,g,c⟩:=C.strs _ (Gc hb)
  obtain ⟨d,j,rfl⟩:=BW q D
  obtain ⟨b2,k,rfl⟩:=BW g A
  have c:b=decide (strOf d=strOf b2):=c
  refine ⟨.bool (!(d.toList==b2.toList)),?_,?_⟩
  ·simp only [execOp,z,j,k,eqGuard_at_string,binOp,Op.stringOp,Sem.run_bind,Sem.run_pure,Result.andThen_ok]
  ·simp only [Ae,SB.den]
   rw [←CT,c]
   congr 2
   rw [Bool.eq_iff_iff,DD];simp
 ·obtain ⟨s,u,q,g,c,H⟩:=C.EK _ (OT h)
  obtain ⟨d,j,rfl⟩:=BW q D
  obtain ⟨b2,k,rfl⟩:=BW g A
  refine ⟨.string (d++b2),?_,YF (by rw [Jx];exact c)⟩
  rw [BK,BK]at H
  have M:¬(((d.size+b2.size:Nat):Int)>IntKind.i64.max):=by
   have:IntKind.i64.max=9223372036854775807:=by decide
   rw [this];omega
  simp only [execOp,z,j,k,eqGuard_at_string,binOp,Op.stringOp,Sem.run_bind,Sem.run_pure,Result.andThen_ok]
  rw [if_neg M]
  rfl
 ·cases h
theorem Pa {o:Oper} {op:BinOp} {t R:TypeId} {x y:Operand} (j:o.op=.binOp op t x y R) (u:Γ.AL ρ) (N:Be ρ μ tm a) {v:Aa} (h:Af2 Γ op (ev tm (AJ x)) (ev tm (AJ y))=some v):Bx P ρ μ a o w v:=by
 have g:=Au N x
 have d:=Au N y
 unfold Af2 at h
 split at h
 ·rename_i k m M n hb hc
  rw [hb]at g
  rw [hc]at d
  have z:=g.int
  have A:=d.int
  unfold Ajf at h
  cases hs:Ea op with
  |true=>
   rw [hs]at h
   simp only [cond_true]at h
   unfold Zx at h
   split at h
   ·rename_i p q
    obtain ⟨r,U,h⟩:=Ab h
    simp only [oI]at h
    subst h
    refine ⟨.int k r,?_,by simp only [Ae,ST.den]⟩
    have C:=J2 (yk:=M) U
    cases op<;>simp only [Ea,Bool.false_eq_true]at hs<;>simp [execOp,j,z,A,ST.den,eqGuard_at_int,binOp,C]
   ·unfold Zw at h
    obtain ⟨J,h⟩:=Ap h
    simp only [oI]at h
    subst h
    refine ⟨.int k (DH op k (m.den ρ) (n.den ρ)),?_,by simp only [Ae];rw [Ku u];rfl⟩
    have C:=RM (k:=k) (yk:=M) (x:=m.den ρ) hs (NV u J)
    cases op<;>simp only [Ea,Bool.false_eq_true]at hs<;>simp [execOp,j,z,A,eqGuard_at_int,binOp,C]
  |false=>
   rw [hs]at h
   simp only [cond_false]at h
   cases hk:Un k M with
   |false=>rw [hk]at h;simp at h
   |true=>
    have Q:=Dt.1 hk
    subst Q
    rw [hk]at h
    simp only [Bool.not_true,cond_false]at h
    cases hcm:FA op with
    |true=>
     rw [hcm]at h
     simp only [cond_true]at h
     obtain ⟨s,H,h⟩:=Ab h
     simp only [oI]at h
     subst h
     have hd:=(CU u H).1
     refine ⟨.bool (ED op (m.den ρ) (n.den ρ)),?_,by simp only [Ae];rw [hd]⟩
     simp [execOp,j,z,A,eqGuard_at_int,Yh hcm]
    |false=>
     rw [hcm]at h
     simp only [cond_false]at h
     obtain ⟨s,H,h⟩:=Ab h
     simp only [oI]at h
     subst h
     obtain ⟨hd,O,_,_⟩:=HW u H
     refine ⟨.int k (DH op k (m.den ρ) (n.den ρ)),?_,by simp only [Ae];rw [hd]⟩
     simp [execOp,j,z,A,eqGuard_at_int,SY O hcm hs]
 ·rename_i s Z hb hc
  rw [hb]at g
  rw [hc]at d
  obtain ⟨b,z,rfl⟩:=g.str
  obtain ⟨c,A,rfl⟩:=d.str
  cases op
  case add=>
   simp only [Tt]at h
   obtain ⟨D,h⟩:=Ap h
   have D:=AX.1 D
   simp only [oI]at h
   subst h
   refine ⟨.string (b++c),?_,by simp only [Ae];exact ⟨_,rfl,Jx _ _⟩⟩
   rw [Dq,Dq,BK,BK]at D
   have J:¬(((b.size+c.size:Nat):Int)>IntKind.i64.max):=by
    have:IntKind.i64.max=9223372036854775807:=by decide
    rw [this];omega
   simp only [execOp,j,z,A,eqGuard_at_string,binOp,Op.stringOp,Sem.run_bind,Sem.run_pure,Result.andThen_ok]
   rw [if_neg J]
   rfl
  all_goals
   simp only [Tt,oI,reduceCtorEq]at h<;>subst h<;>
   refine ⟨_,by simp only [execOp,j,z,A,eqGuard_at_string,binOp,Op.stringOp,Sem.run_bind,Sem.run_pure,Result.andThen_ok];rfl,by simp only [Ae,SB.den,CT,YG]⟩
 ·rename_i hb hc
  rw [hb]at g
  rw [hc]at d
  exact Jk j u g d h
 ·rename_i hb hc
  rw [hb]at g
  rw [hc]at d
  exact Jk j u g d h
 ·rename_i hb hc
  rw [hb]at g
  rw [hc]at d
  exact Jk j u g d h
 ·cases h
theorem Aaq {o:Oper} {op:UnOp} {t:TypeId} {x:Operand} (d:o.op=.unOp op t x) (g:Γ.AL ρ) (j:Be ρ μ tm a) {v:Aa} (h:unA Γ op (ev tm (AJ x))=some v):Bx P ρ μ a o w v:=by
 have c:=Au j x
 unfold unA at h
 split at h
 ·rename_i k n hb
  rw [hb]at c
  have e:=c.int
  obtain ⟨s,hs,h⟩:=Ab h
  simp only [oI]at h
  subst h
  obtain ⟨hd,_⟩:=HW g hs
  refine ⟨.int k (s.den ρ),?_,by simp only [Ae]⟩
  rw [hd]
  simp [execOp,d,e,unary_neg,Op.intArith,DH,ST.den]
 ·rename_i k n hb
  rw [hb]at c
  have e:=c.int
  obtain ⟨s,hs,h⟩:=Ab h
  simp only [oI]at h
  subst h
  obtain ⟨hd,_⟩:=HW g hs
  refine ⟨.int k (s.den ρ),?_,by simp only [Ae]⟩
  rw [hd]
  have q:((.lit (bif Ih k then Int.negSucc 0 else Int.ofNat (modulus k-1)):ST).den ρ)=if k.signed then -1 else k.max:=by
   cases k<;>rfl
  rw [q]
  simp [execOp,d,e,unary_xor,intBits_xor,DH]
 ·rename_i b hb
  rw [hb]at c
  have e:=c.bool
  simp only [oI]at h
  subst h
  exact ⟨.bool (!b),by simp [execOp,d,e,unary_not,SB.den],by simp only [Ae,SB.den]⟩
 ·rename_i b _ hb
  rw [hb]at c
  have e:=c.bool
  simp only [oI]at h
  subst h
  exact ⟨.bool (!(b.den ρ)),by simp [execOp,d,e,unary_not],by simp only [Ae,SB.den]⟩
 ·cases h
theorem U0 {o:Oper} {s d:TypeId} {j k:IntKind} {x:Operand} (g:o.op=.convert s d x) (u:Γ.AL ρ) (q:Be ρ μ tm a) (hs:P.underlying s=some (.int j)) (hd:P.underlying d=some (.int k))
  {v:Aa} (h:AaF Γ k (ev tm (AJ x))=some v):Bx P ρ μ a o w v:=by
 have c:=Au q x
 unfold AaF at h
 split at h
 ·rename_i y n hb
  rw [hb]at c
  have e:=c.int
  simp only [oI]at h
  subst h
  refine ⟨.int k (k.wrap (n.den ρ)),?_,by simp only [Ae];rw [Oq u]⟩
  simp [execOp,g,e,Go.convert,run_underlying hs,run_underlying hd,Conv.intToInt]
 ·cases h
theorem Us {o:Oper} {s d:TypeId} {x:Operand} (k:o.op=.convert s d x) (q:Be ρ μ tm a) (hs:P.underlying s=some .string) (hd:P.underlying d=some .string)
  {v:Aa} (h:Z6 (ev tm (AJ x))=some v):Bx P ρ μ a o w v:=by
 have g:=Au q x
 unfold Z6 at h
 split at h
 ·rename_i c hb
  rw [hb]at g
  simp only [oI]at h
  subst h
  have j:=g
  obtain ⟨b,e,_⟩:=g.str
  refine ⟨a.eval x,?_,j⟩
  simp [execOp,k,e,Go.convert,run_underlying hs,run_underlying hd]
 ·cases h
theorem N3 {Γ:Ao} (A:Γ.AL ρ) (most:Bool):∀{J:List Aa} {x v:Aa} {us:List Value} {u:Value},Ae ρ μ x u→A9 ρ μ J us→Adc Γ most J x=some v→
  ∃o,(us.foldlM (if most then Builtin.max2 else Builtin.min2) u).run P w=.ok o w∧Ae ρ μ v o
 |[],x,v,us,u,hu,hs,h=>by
  simp only [A9]at hs
  subst hs
  have h:some x=some v:=h
  simp only [oI]at h
  subst h
  exact ⟨u,by simp,hu⟩
 |y::ys,x,v,us,u,hu,hs,h=>by
  simp only [A9]at hs
  obtain ⟨u',rest,rfl,hy,U⟩:=hs
  have H:AG (UU Γ most x y) (Adc Γ most ys)=some v:=h
  clear h
  obtain ⟨z,g,j⟩:=Ab H
  clear H
  unfold UU at g
  split at g
  ·rename_i k m k' n
   obtain ⟨O,d⟩:=Ap g
   have M:=Dt.1 O
   subst M
   split at d
   case h_2=>cases d
   rename_i c q
   simp only [oI]at d
   have g:=d
   have Q:=hu.int
   have R:=hy.int
   subst Q R
   have D:c=(bif most then decide (m.den ρ<n.den ρ)else decide (n.den ρ<m.den ρ)):=by
    cases most with
    |true=>exact (CU A q).1
    |false=>exact (CU A q).1
   have C:Ae ρ μ z (.int k (bif c then n.den ρ else m.den ρ)):=by rw [←g];cases c<;>simp only [Ae,cond_true,cond_false]
   obtain ⟨o,Z,N⟩:=N3 A most C U j
   subst D
   generalize m.den ρ=m at*
   generalize n.den ρ=n at*
   refine ⟨o,?_,N⟩
   rw [←Z,List.foldlM_cons]
   cases most
   ·simp only [Bool.false_eq_true,if_false,cond_false,Sem.run_bind]
    simp only [Builtin.min2,Sem.run_pure,Result.andThen_ok]
    congr 2
    by_cases hc:n<m<;>simp [hc]
   ·simp only [if_true,cond_true,Sem.run_bind]
    simp only [Builtin.max2,Sem.run_pure,Result.andThen_ok]
    congr 2
    by_cases hc:m<n<;>simp [hc]
  ·cases g
theorem Pb {Γ:Ao} (A:Γ.AL ρ) {o:Oper} {g:List Operand} {c:Call} {most:Bool} (u:o.op=.call c) (d:c.callee=.builtin (if most then .max else .min)) (j:c.args.toList=g) (y:Be ρ μ tm a)
  {v:Aa} (h:Ajg Γ most (Rr tm (Ch g))=some v):Bx P ρ μ a o w v:=by
 cases g with
 |nil=>have h:none=some v:=h;cases h
 |cons x g=>
  have h:Adc Γ most (Rr tm (Ch g)) (ev tm (AJ x))=some v:=h
  obtain ⟨q,k,z⟩:=N3 (P:=P) (w:=w) A most (Au y x) (Ge y g) h
  refine ⟨q,?_,z⟩
  cases most
  ·have d:c.callee=.builtin .min:=d
   have k:Sem.run P (List.foldlM Builtin.min2 (a.eval x) (List.map a.eval g)) w=.ok q w:=k
   simp [execOp,u,resolve,d,invoke,builtin,Builtin.min_,j,k]
  ·have d:c.callee=.builtin .max:=d
   have k:Sem.run P (List.foldlM Builtin.max2 (a.eval x) (List.map a.eval g)) w=.ok q w:=k
   simp [execOp,u,resolve,d,invoke,builtin,Builtin.max_,j,k]
end
end Go.AM
end
section
namespace Go.AM
section
variable {P:Program} {Γ:Ao} {ρ:Env} {μ:Aq} {tm:Tr Aa} {a:Act} {w:World}
theorem OV {o:Option SB} {v:Bool} (h:Afb o=some v):o=some (.lit v):=by
 unfold Afb at h
 split at h
 ·simp only [oI]at h;rw [h]
 ·cases h
def LK.fits (k:LK) (d:TypeDesc):Prop:=
 match k with
 |.bool=>d=.bool
 |.int=>∃i,d=.int i
 |.str=>d=.string
theorem QV (D:Γ.AL ρ) {k:LK} {x y:Aa} {u v:Value} {b:Bool} (o:Ae ρ μ x u) (j:Ae ρ μ y v) (h:Je Γ k x y=some b) {t:TypeId} {d:TypeDesc} (g:P.underlying t=some d) (c:k.fits d) (n:Nat):
  (Op.equalIn (n+1) t u v).run P w=.ok b w:=by
 unfold Je at h
 split at h
 ·rename_i J m k2 Z
  obtain ⟨i,rfl⟩:=c
  obtain ⟨C,z⟩:=Ap h
  clear h
  have M:=Dt.1 C
  subst M
  have hc:=(CU D (OV z)).1
  rw [o.int,j.int,run_equalIn_int w n t J i _ _ g]
  simp only [SB.den,ED]at hc
  rw [hc]
 ·rename_i p q
  have c:d=.bool:=c
  subst c
  simp only [oI]at h
  rw [o.bool,j.bool]
  simp only [SB.den]
  rw [run_equalIn_bool' w n t p q g,←h,beq_eq]
 ·rename_i p q
  have c:d=.string:=c
  subst c
  simp only [oI]at h
  obtain ⟨s,rfl,N⟩:=o.str
  obtain ⟨O,rfl,Q⟩:=j.str
  rw [run_equalIn_string w n t s O g,←h,←N,←Q,CT]
 all_goals first
  |(cases h;done)
  |(have c:d=.string:=c
    subst c
    obtain ⟨s,U,R,z,A⟩:=D.strs _ (Gc h)
    obtain ⟨H,rfl,rfl⟩:=BW R o
    obtain ⟨b2,rfl,rfl⟩:=BW z j
    have A:b=decide (strOf H=strOf b2):=A
    rw [run_equalIn_string w n t H b2 g,←CT,A]
    congr 1
    rw [Bool.eq_iff_iff,DD];simp)
theorem EJ (cs ds:List Aa):∀(d c:List (Nat×LK)),Dj Γ cs ds (d++c)=AG (Dj Γ cs ds d) fun e=>bif e then Dj Γ cs ds c else some false
 |[],c=>rfl
 |o::d,c=>by
  show (AG (SN Γ cs ds o) fun e=>bif e then Dj Γ cs ds (d++c)else some false)=AG (AG (SN Γ cs ds o) fun e=>bif e then Dj Γ cs ds d else some false) _
  cases SN Γ cs ds o with
  |none=>rfl
  |some e=>
   cases e with
   |false=>rfl
   |true=>exact EJ cs ds d c
theorem Hx (k:Nat) (x y:List (Nat×LK)):C7 k (x++y)=C7 k x++C7 k y:=by simp [C7]
theorem GN (k j:Nat) (x:List (Nat×LK)):C7 k (C7 j x)=C7 (k+j) x:=by
 unfold C7;rw [List.map_map];apply List.map_congr_left;intro x _;simp [Nat.add_assoc]
theorem N4 {n:Nat} {l:List (Nat×LK)} (h:below n l=true):∀x∈l,x.1<n:=fun x c=>by
 unfold below at h
 have:=List.all_eq_true.1 h x c
 exact Ip.1 this
structure Yi (X:Array Value) (base n:Nat) (Z:Array Value):Prop where
 cell:∀off,off<n→Z[off]?=X[base+off]?
 part:∀off m,off+m≤n→Z.extract off (off+m)=X.extract (base+off) (base+off+m)
theorem Yi.whole (X:Array Value) (n:Nat):Yi X 0 n X:=⟨fun c _=>by simp,fun c m _=>by simp⟩
theorem Yi.sub {X Z:Array Value} {d n:Nat} (h:Yi X d n Z) {c m:Nat} (q:c+m≤n):Yi X (d+c) m (Z.extract c (c+m)) where
 cell:=fun i o=>by
  rw [Array.getElem?_extract]
  by_cases hz:i<min (c+m) Z.size-c
  ·rw [if_pos hz,h.cell _ (by omega),Nat.add_assoc]
  ·rw [if_neg hz]
   have g:¬c+i<Z.size:=by omega
   have e:=h.cell (c+i) (by omega)
   rw [Array.getElem?_eq_none (by omega)]at e
   rw [Nat.add_assoc]
   exact e
 part:=fun i k j=>by
  rw [Array.extract_extract,show min (c+(i+k)) (c+m)=(c+i)+k by omega,h.part _ _ (by omega)]
  congr 1<;>omega
theorem Uk {d:Nat} {t:TypeId} {l:List (Nat×LK)} (h:leaves P d t=some l) (c:Ee P t=some none):∃j,l=[(0,j)]:=by
 cases d with
 |zero=>simp [leaves]at h
 |succ d=>
  simp only [leaves]at h
  split at h
  ·simp only [oI]at h;exact ⟨_,h.symm⟩
  ·simp only [oI]at h;exact ⟨_,h.symm⟩
  ·simp only [oI]at h;exact ⟨_,h.symm⟩
  ·rename_i o g
   unfold Ee at c
   rw [g]at c
   cases e:P.info? t<;>rw [e]at c<;>simp at c
  ·rename_i k e g
   unfold Ee at c
   rw [g]at c
   cases e:P.info? t<;>rw [e]at c<;>simp at c
  ·cases h
theorem UZ {t:TypeId} {n:Nat} (g:Bj P t=some n) {d:Nat} {l:List (Nat×LK)} (h:leaves P d t=some l):Ee P t=some none∨Ee P t=some (some n):=by
 unfold Bj at g
 obtain ⟨i,j,e⟩:=mS g
 have c:∃u,P.underlying t=some u:=by
  cases c:P.underlying t with
  |some u=>exact ⟨u,rfl⟩
  |none=>
   cases d with
   |zero=>simp [leaves]at h
   |succ d=>simp [leaves,c]at h
 obtain ⟨u,c⟩:=c
 unfold Ee
 rw [c,j]
 cases u<;>simp [e]
theorem J4 {t:TypeId} {X:Array Value} {c n:Nat} (o:Bj P t=some n):
  (∀m,Ee P t=some (some m)→(part t X c).run P w=.ok (.agg (X.extract c (c+m))) w)∧
  (Ee P t=some none→∀x,X[c]?=some x→(part t X c).run P w=.ok x w):=by
 refine ⟨fun m k=>?_,fun h x j=>?_⟩
 ·obtain ⟨d,g⟩:=E2 P w t k
  simp [part,d,g m rfl]
 ·obtain ⟨d,g⟩:=E2 P w t h
  simp [part,d,j]
structure Aby (P:Program) (X Y:Array Value) (base:Nat) (t:TypeId) (x y:Value):Prop where
 agg:∀n,Ee P t=some (some n)→∃X' Y',x=.agg X'∧y=.agg Y'∧Yi X base n X'∧Yi Y base n Y'
 one:Ee P t=some none→X[base]?=some x∧Y[base]?=some y
theorem JA {X Y X' Y':Array Value} {cs ds:List Aa} (hX:Ax ρ μ cs X.toList) (hY:Ax ρ μ ds Y.toList) {d:Nat} {t:TypeId} {l:List (Nat×LK)} {m n c g k:Nat} {e:Bool}
  (H:Yi X c n X') (J:Yi Y c n Y') (hl:leaves P d t=some l) (o:Bj P t=some m) (C:g+m≤n) (N:∀x∈l,x.1<m)
  (M:Dj Γ cs ds (C7 (c+g) l)=some e)
  (rec:∀(x y:Value),Aby P X Y (c+g) t x y→(Op.equalIn k t x y).run P w=.ok e w):
  ∃R py,(part t X' g).run P w=.ok R w∧(part t Y' g).run P w=.ok py w∧(Op.equalIn k t R py).run P w=.ok e w:=by
 rcases UZ o hl with ha|ha
 ·obtain ⟨lk,rfl⟩:=Uk hl ha
  have M:(AG (SN Γ cs ds (c+g+0,lk)) fun e=>bif e then some true else some false)=some e:=M
  obtain ⟨e',D,_⟩:=Ab M
  unfold SN at D
  obtain ⟨p,O,D⟩:=Ab D
  obtain ⟨q,Q,_⟩:=Ab D
  rw [Kv]at O Q
  simp only [Nat.add_zero]at O Q
  obtain ⟨u,j,_,_⟩:=hX.get O
  obtain ⟨v,z,_,_⟩:=hY.get Q
  rw [Array.getElem?_toList]at j z
  have U:=N _ (List.mem_singleton.2 rfl)
  simp only at U
  refine ⟨u,v,(J4 o).2 ha _ (by rw [H.cell _ (by omega)];exact j),(J4 o).2 ha _ (by rw [J.cell _ (by omega)];exact z),rec u v ⟨fun n Z=>?_,fun _=>⟨j,z⟩⟩⟩
  rw [ha]at Z;cases Z
 ·refine ⟨_,_,(J4 o).1 m ha,(J4 o).1 m ha,rec _ _ ⟨fun n' A=>?_,fun h=>?_⟩⟩
  ·rw [ha]at A
   simp only [oI]at A
   subst A
   exact ⟨_,_,rfl,rfl,H.sub C,J.sub C⟩
  ·rw [ha]at h;cases h
theorem LC {α:Type} {o:Option (List α)} {r:List (Option (List α))} {l:List α} (h:DG (o::r)=some l):∃d c,o=some d∧DG r=some c∧l=d++c:=by
 cases o with
 |none=>simp [DG]at h
 |some d=>
  simp only [DG]at h
  obtain ⟨c,g,j⟩:=mS h
  exact ⟨d,c,rfl,g,j.symm⟩
theorem GX {t:TypeId} {d:TypeDesc} (j:P.underlying t=some d) (h:(∀g,d≠.struct g)∧∀k e,d≠.array k e) (c:(P.info? t).isSome=true):Ee P t=some none:=by
 obtain ⟨i,c⟩:=Option.isSome_iff_exists.1 c
 unfold Ee
 rw [j,c]
 cases d<;>first|rfl|(exact absurd rfl (h.1 _)) |(exact absurd rfl (h.2 _ _))
theorem info_of_underlying {t:TypeId} {d:TypeDesc} (c:P.underlying t=some d):(P.info? t).isSome=true:=by
 unfold Program.underlying at c
 cases e:P.info? t with
 |none=>rw [e]at c;cases c
 |some i=>rfl
theorem Te {t:TypeId} {j:Array Field} {n:Nat} (g:P.underlying t=some (.struct j)) (c:Bj P t=some n):Ee P t=some (some n):=by
 unfold Bj at c
 obtain ⟨i,d,e⟩:=mS c
 unfold Ee
 rw [g,d]
 simp [e]
theorem Va {t e:TypeId} {k n:Nat} (g:P.underlying t=some (.array k e)) (c:Bj P t=some n):Ee P t=some (some n):=by
 unfold Bj at c
 obtain ⟨i,d,e⟩:=mS c
 unfold Ee
 rw [g,d]
 simp [e]
theorem Gu (hΓ:Γ.AL ρ) {X Y:Array Value} {cs ds:List Aa} (R:Ax ρ μ cs X.toList) (hY:Ax ρ μ ds Y.toList):
  ∀(d:Nat) (t:TypeId) (ls:List (Nat×LK)),leaves P d t=some ls→∀(k A:Nat) (x y:Value) (b:Bool),d≤k→Aby P X Y A t x y→
   Dj Γ cs ds (C7 A ls)=some b→(Op.equalIn k t x y).run P w=.ok b w
 |0,t,ls,h,k,A,x,y,b,hk,hxy,C=>by simp [leaves]at h
 |d+1,t,ls,h,k,A,x,y,b,hk,hxy,C=>by
  obtain ⟨k,rfl⟩:∃k',k=k'+1:=⟨k-1,by omega⟩
  have z:∀(D:TypeDesc) (lk:LK),P.underlying t=some D→(∀fs,D≠.struct fs)∧(∀k e,D≠.array k e)→lk.fits D→ls=[(0,lk)]→(Op.equalIn (k+1) t x y).run P w=.ok b w:=fun D lk c aD hf hl=>by
   subst hl
   obtain ⟨hx,hy⟩:=hxy.one (GX c aD (info_of_underlying c))
   have C:(AG (SN Γ cs ds (A+0,lk)) fun e=>bif e then some true else some false)=some b:=C
   obtain ⟨e,g,h2⟩:=Ab C
   have hb:e=b:=by cases e<;>simpa using h2
   subst hb
   unfold SN at g
   obtain ⟨p,hp,g⟩:=Ab g
   obtain ⟨q,hq,g⟩:=Ab g
   rw [Kv]at hp hq
   simp only [Nat.add_zero]at hp hq
   obtain ⟨u,aa,_,aB⟩:=R.get hp
   obtain ⟨v,U,_,aC⟩:=hY.get hq
   rw [Array.getElem?_toList,hx]at aa
   rw [Array.getElem?_toList,hy]at U
   simp only [oI]at aa U
   subst aa U
   exact QV hΓ aB aC g c hf k
  simp only [leaves]at h
  split at h
  ·rename_i c
   simp only [oI]at h
   exact z _ .bool c ⟨by simp,by simp⟩ rfl h.symm
  ·rename_i i c
   simp only [oI]at h
   exact z _ .int c ⟨by simp,by simp⟩ ⟨_,rfl⟩ h.symm
  ·rename_i c
   simp only [oI]at h
   exact z _ .str c ⟨by simp,by simp⟩ rfl h.symm
  ·
   rename_i fs c
   split at h
   ·cases h
   ·rename_i M
    have M:P.stoodInHeld t=false:=by simpa using M
    obtain ⟨n,hn⟩:∃n,Bj P t=some n:=by
     obtain ⟨i,H⟩:=Option.isSome_iff_exists.1 (info_of_underlying c)
     exact ⟨i.size,by simp [Bj,H]⟩
    obtain ⟨X',Y',rfl,rfl,ab,ad⟩:=hxy.agg n (Te c hn)
    have Q:P.fieldsOf t=fs:=by simp [Program.fieldsOf,c]
    rw [run_equalIn_struct w k t _ _ (by rw [Q];exact c) M,Q]
    have O:d≤k:=by omega
    clear hxy z c Q M
    generalize fs.toList=fl at h
    induction fl generalizing ls b with
    |nil=>
     simp only [List.map_nil,DG,oI]at h
     subst h
     have C:some true=some b:=C
     simp only [oI]at C
     subst C
     simp [Op.eqFields]
    |cons f fl ih=>
     simp only [List.map_cons]at h
     obtain ⟨l1,l2,g,h2,rfl⟩:=LC h
     split at g
     ·cases g
     ·rename_i aj
      split at g
      ·rename_i l m hl hm
       split at g
       ·rename_i o
        simp only [oI]at g
        subst g
        rw [Hx,GN,EJ]at C
        obtain ⟨e,am,J⟩:=Ab C
        have Z:∃px py,(part f.type X' f.offset).run P w=.ok px w∧(part f.type Y' f.offset).run P w=.ok py w∧(Op.equalIn k f.type px py).run P w=.ok e w:=by
         rw [aT]at o
         have ae:f.offset+m≤n:=by
          have:=AX.1 o.2
          unfold Bj at hn
          simp only [Program.cellsOf,hn,Option.getD_some]at this
          exact this
         exact JA R hY ab ad hl hm ae (N4 o.1) am fun x y g=>Gu hΓ R hY d f.type l hl k _ x y e O g am
        obtain ⟨px,py,r1,r2,r3⟩:=Z
        simp only [Op.eqFields,if_pos (show f.name≠ "_" from aj)]
        simp only [Sem.run_bind,r1,Result.andThen_ok,r2,r3]
        cases e with
        |false=>
         simp only [cond_false,oI]at J
         subst J
         simp
        |true=>
         simp only [cond_true]at J
         simp only [Bool.not_true,Bool.false_eq_true,if_false]
         exact ih l2 b J h2
       ·cases g
      ·cases g
  ·
   rename_i len e c
   split at h
   ·rename_i l m hl hm
    split at h
    ·rename_i o
     simp only [oI]at h
     rw [aT]at o
     obtain ⟨n,hn⟩:∃n,Bj P t=some n:=by
      obtain ⟨i,H⟩:=Option.isSome_iff_exists.1 (info_of_underlying c)
      exact ⟨i.size,by simp [Bj,H]⟩
     obtain ⟨X',Y',rfl,rfl,ab,ad⟩:=hxy.agg n (Va c hn)
     have ae:len*m≤n:=by
      have:=AX.1 o.2
      unfold Bj at hn
      simp only [Program.cellsOf,hn,Option.getD_some]at this
      exact this
     have O:d≤k:=by omega
     have hs:=B5 (w:=w) hm
     simp only [Op.equalIn,Sem.run_bind,run_underlying c,Result.andThen_ok,hs]
     have key:∀(L:List Nat) (b:Bool),(∀i∈L,i<len)→Dj Γ cs ds (C7 A (L.flatMap fun i=>C7 (i*m) l))=some b→
       (forIn L ((none,()):Option Bool×Unit) fun i (_:Option Bool×Unit)=>do
        let p←part e X' (i*m)
        let q←part e Y' (i*m)
        let r←Op.equalIn k e p q
        if (!r)=true then pure (ForInStep.done (some false,()))else pure (ForInStep.yield (none,())):Sem (Option Bool×Unit)).run P w=.ok (if b then none else some false,()) w:=by
      intro L
      induction L with
      |nil=>
       intro b _ hb
       have hb:some true=some b:=hb
       simp only [oI]at hb
       subst hb
       simp
      |cons i L ih=>
       intro b hL hb
       rw [List.flatMap_cons,Hx,GN,EJ]at hb
       obtain ⟨r,al,N⟩:=Ab hb
       have H:i<len:=hL i List.mem_cons_self
       have aA:i*m+m≤n:=by
        have:=Nat.mul_le_mul_right m (show i+1≤len from H)
        rw [Nat.succ_mul]at this
        omega
       obtain ⟨px,py,r1,r2,r3⟩:=JA (n:=n) (k:=k) (w:=w) R hY ab ad hl hm aA (N4 o.1) al fun x y g=>Gu hΓ R hY d e l hl k _ x y r O g al
       rw [List.forIn_cons]
       simp only [Sem.run_bind,r1,Result.andThen_ok,r2,r3]
       cases r with
       |false=>
        simp only [cond_false,oI]at N
        subst N
        simp
       |true=>
        simp only [cond_true]at N
        simp only [Bool.not_true,Bool.false_eq_true,if_false,Sem.run_pure,Result.andThen_ok]
        exact ih b (fun j hj=>hL j (List.mem_cons_of_mem _ hj)) N
     rw [Std.Legacy.Range.forIn_eq_forIn_range']
     have hr:List.range' 0 len 1=List.range len:=(List.range_eq_range' ..).symm
     simp only [Std.Legacy.Range.size,Nat.sub_zero,Nat.add_one_sub_one,Nat.div_one]
     rw [hr]
     have:=key (List.range len) b (fun i H=>List.mem_range.1 H) (by rw [h];exact C)
     rw [this]
     cases b<;>simp
    ·cases h
   ·cases h
  ·cases h
end
end Go.AM
end
