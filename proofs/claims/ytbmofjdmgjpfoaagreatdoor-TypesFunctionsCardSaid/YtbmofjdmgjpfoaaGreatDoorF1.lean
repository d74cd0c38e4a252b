/- Part 1 of TypesFunctions. -/
import Derived.Orders
import Derived.Laws.Entries
import Derived.Laws.Strings
import Derived.Laws.StructEq
import Derived.Laws.Slices
import Derived.Laws.Strings2
import Derived.Laws.Unary
import Derived.Laws.Build
import Derived.Laws.Pointers
import Derived.WideLaws
import Derived.LaidEql
set_option linter.all false
namespace Go.AM
section
theorem oI {α:Type} {a b:α}:(some a=some b)=(a=b):=Option.some.injEq a b
theorem lA {α:Type} {a b:List α}:(a++b).length=a.length+b.length:=List.length_append
theorem lC {α:Type} {a:α} {b:List α}:(a::b).length=b.length+1:=List.length_cons
theorem lN {α:Type}:([]:List α).length=0:=List.length_nil
theorem lT' {α:Type} {n:Nat} {a:List α}:(a.take n).length=min n a.length:=List.length_take
theorem aT {a b:Bool}:((a&&b)=true)=(a=true/\b=true):=Bool.and_eq_true a b
theorem mS {α β:Type} {f:α->β} {o:Option α} {b:β} (h:o.map f=some b):∃a,o=some a/\f a=b:=Option.map_eq_some_iff.1 h
theorem cL {α:Type} {a b:List α} (h:a=b):a.length=b.length:=congrArg List.length h
noncomputable section
def ile:Int->Int->Bool
 |.ofNat a,.ofNat b=>Nat.ble a b
 |.negSucc _,.ofNat _=>true
 |.ofNat _,.negSucc _=>false
 |.negSucc a,.negSucc b=>Nat.ble b a
def Yl:Int->Int->Bool
 |.ofNat a,.ofNat b=>Nat.beq a b
 |.negSucc a,.negSucc b=>Nat.beq a b
 |_,_=>false
def ilt (a b:Int):Bool:=!(ile b a)
def U7:IntKind->Nat
 |.i8=>0|.i16=>1|.i32=>2|.i64=>3|.u8=>4|.u16=>5|.u32=>6|.u64=>7
def U8 (a b:IntKind):Bool:=Nat.beq (U7 a) (U7 b)
def modulus:IntKind->Nat
 |.i8=>256|.u8=>256
 |.i16=>65536|.u16=>65536
 |.i32=>4294967296|.u32=>4294967296
 |.i64=>18446744073709551616|.u64=>18446744073709551616
def Q4 (n:Int) (m:Nat):Nat:=
 match n with
 |.ofNat a=>a%m
 |.negSucc a=>m-1-a%m
def HT:IntKind->Bool
 |.i8=>true|.i16=>true|.i32=>true|.i64=>true
 |.u8=>false|.u16=>false|.u32=>false|.u64=>false
def back (k:IntKind) (m:Nat):Int:=
 bif HT k&&Nat.ble (modulus k) (m+m)then .negSucc (modulus k-1-m)else .ofNat m
def KM (k:IntKind) (n:Int):Int:=back k (Q4 n (modulus k))
def Wr (op:BinOp) (m a b:Nat):Nat:=
 match op with
 |.and=>Nat.land a b
 |.or=>Nat.lor a b
 |.xor=>Nat.xor a b
 |_=>Nat.land a (m-1-b)
def Pv (op:BinOp) (k:IntKind) (x y:Int):Int:=
 back k (Wr op (modulus k) (Q4 x (modulus k)) (Q4 y (modulus k)))
def Xy:BinOp->Nat
 |.add=>0|.sub=>1|.mul=>2|.quo=>3|.rem=>4|.and=>5|.or=>6|.xor=>7|.shl=>8|.shr=>9|.andNot=>10
 |.eql=>11|.neq=>12|.lss=>13|.leq=>14|.gtr=>15|.geq=>16
def NV (a b:BinOp):Bool:=Nat.beq (Xy a) (Xy b)
def beq (a b:Bool):Bool:=bif a then b else !b
def A6 {α β:Type} (o:Option α) (f:α->Option β):Option β:=
 Option.casesOn (motive:=fun _=>Option β) o none f
inductive ST where
 |lit (n:Int)
 |var (i:Nat)
 |bin (op:BinOp) (k:IntKind) (a b:ST)
 |conv (k:IntKind) (a:ST)
inductive SB where
 |lit (b:Bool)
 |cmp (op:BinOp) (a b:ST)
 |no (a:SB)
def ST.eq:ST->ST->Bool
 |.lit a,.lit b=>Yl a b
 |.var i,.var j=>Nat.beq i j
 |.bin o k a b,.bin o' k' a' b'=>NV o o'&&U8 k k'&&a.eq a'&&b.eq b'
 |.conv k a,.conv k' a'=>U8 k k'&&a.eq a'
 |_,_=>false
def SB.eq:SB->SB->Bool
 |.lit a,.lit b=>beq a b
 |.cmp o a b,.cmp o' a' b'=>NV o o'&&a.eq a'&&b.eq b'
 |.no a,.no b=>a.eq b
 |_,_=>false
inductive Ab where
 |any
 |bool (b:SB)
 |int (k:IntKind) (n:ST)
 |str (s:List Nat)
 |ptr (b off:Nat)
 |nilPtr
 |slice (b off len cap:Nat)
 |gslice (b off len es:Nat)
 |nilSlice
 |map (b:Nat)
 |nilMap
 |func (f:FuncId) (first captured:List Ab)
 |nilFunc
 |iface (t:TypeId) (v:Ab)
 |nilIface
 |agg (cells:List Ab)
 |tuple (vs:List Ab)
 |anyStr (n:Nat)
 |gbytes (b:Nat)
 |glen (b:Nat)
 |svar (i:Nat)
 |lst (full:Bool) (i es:Nat) (n:ST)
 |lptr (i:Nat) (j:ST) (off:Nat)
 |vec (b es:Nat) (n:ST)
 |vptr (b es:Nat) (j:ST) (off:Nat)
def Ab.single (v:Ab):Bool:=
 match v with
 |.agg _=>false
 |.tuple _=>false
 |.any=>false
 |_=>true
def Ab.cells (v:Ab):Option (List Ab):=
 match v with
 |.agg cs=>some cs
 |.tuple _=>none
 |.any=>none
 |v=>some [v]
def lit (k:IntKind) (n:Int):Ab:=.int k (.lit n)
def yes:Ab:=.bool (.lit true)
structure Entry where
 key:Ab
 val:Ab
 born:Nat
inductive Block where
 |cells (vs:List Ab)
 |map (es:List Entry) (clock:Nat)
 |typed (e:Nat) (vs:List Ab)
 |bytes (n e:Nat)
 |sbytes (n:ST) (e:Nat)
 |list (i es:Nat)
 |smap (i:Nat)
structure B5 where
 id:Nat
 Xe:List (Nat×Ab)
 pre:List Block
 NR:List (Nat×Ab)
 post:List (Option Block)
 df:List (FuncId×List Ab):=[]
 out:Bool:=false
inductive AE where
 |els (es:List (List Ab))
 |all (i:Nat)
 |take (i:Nat) (n:ST)
 |drop (i:Nat) (n:ST)
structure Ao where
 DL:List (ST×Int):=[]
 tests:List (BinOp×ST×ST×Bool):=[]
 strs:List (Ab×Ab×Bool):=[]
 E4:List (Ab×Ab×Ab):=[]
 BQ:List (Nat×ST×Nat×Nat):=[]
 Br:List (Nat×ST):=[]
 elems:List (Nat×ST×List Ab):=[]
 defs:List (Nat×List AE):=[]
 looks:List (Nat×Ab×Option (List Ab)):=[]
 Ls:List (Nat×Ab×List Ab×Nat):=[]
 C7:List (ST×Nat×ST):=[]
 C5:List (Nat×List (Ab×List Ab)):=[]
 Oh:List (Nat×Nat×Nat×Nat×Nat):=[]
 loops:List B5:=[]
def Jx:List (ST×Int)->ST->Option Int
 |[],_=>none
 |(t,n)::r,x=>bif t.eq x then some n else Jx r x
def BS:List (BinOp×ST×ST×Bool)->BinOp->ST->ST->Option Bool
 |[],_,_,_=>none
 |(o,s,t,v)::r,op,a,b=>bif NV o op&&s.eq a&&t.eq b then some v else BS r op a b
def numOf (Γ:Ao) (t:ST):ST:=
 match Jx Γ.DL t with
 |some n=>.lit n
 |none=>t
def R6 (op:BinOp) (k:IntKind) (a b:Int):Option Int:=
 match op with
 |.add=>some (KM k (a+b))
 |.sub=>some (KM k (a-b))
 |.mul=>some (KM k (a*b))
 |.quo=>bif Yl b 0 then none else some (KM k (a.tdiv b))
 |.rem=>bif Yl b 0 then none else some (a.tmod b)
 |.and=>some (Pv .and k a b)
 |.or=>some (Pv .or k a b)
 |.xor=>some (Pv .xor k a b)
 |.andNot=>some (Pv .andNot k a b)
 |_=>none
def AbB (op:BinOp) (a b:Int):Option Bool:=
 match op with
 |.eql=>some (Yl a b)
 |.neq=>some (!(Yl a b))
 |.lss=>some (ilt a b)
 |.leq=>some (ile a b)
 |.gtr=>some (ilt b a)
 |.geq=>some (ile b a)
 |_=>none
def Mn (op:BinOp) (k:IntKind) (x:Int) (n:Nat):Option Int:=
 match op with
 |.shl=>some (KM k (x*Int.ofNat (2^n)))
 |.shr=>some (x.fdiv (Int.ofNat (2^n)))
 |_=>none
def Qk (op:BinOp) (k:IntKind) (x y:Int):Option Int:=
 match y with
 |.negSucc _=>none
 |.ofNat y=>Mn op k x (bif Nat.ble y k.bits then y else k.bits)
def total (op:BinOp) (b:ST):Bool:=
 match op with
 |.add=>true|.sub=>true|.mul=>true|.and=>true|.or=>true|.xor=>true|.andNot=>true
 |.quo=>(match b with|.lit n=>!(Yl n 0) |_=>false)
 |.rem=>(match b with|.lit n=>!(Yl n 0) |_=>false)
 |_=>false
def WE (Γ:Ao) (op:BinOp) (b:ST):Bool:=
 match op with
 |.quo=>(match BS Γ.tests .eql b (.lit 0)with|some v=>!v|none=>false)
 |.rem=>(match BS Γ.tests .eql b (.lit 0)with|some v=>!v|none=>false)
 |_=>false
def Vt (Γ:Ao) (op:BinOp) (k:IntKind) (a b:ST):Option ST:=
 bif total op b||WE Γ op b then some (numOf Γ (.bin op k a b))else none
def arith (Γ:Ao) (op:BinOp) (k:IntKind) (a b:ST):Option ST:=
 match a,b with
 |.lit x,.lit y=>A6 (R6 op k x y) fun n=>some (.lit n)
 |a,b=>Vt Γ op k a b
def Fl (op:BinOp):Bool:=Nat.ble 11 (Xy op)
def Nv (Γ:Ao) (op:BinOp) (a b:ST):Option SB:=
 bif Fl op then (match BS Γ.tests op a b with|some v=>some (.lit v) |none=>some (.cmp op a b))else none
def compare (Γ:Ao) (op:BinOp) (a b:ST):Option SB:=
 match a,b with
 |.lit x,.lit y=>A6 (AbB op x y) fun v=>some (.lit v)
 |a,b=>Nv Γ op a b
def convert (Γ:Ao) (k:IntKind) (a:ST):ST:=
 match a with
 |.lit x=>.lit (KM k x)
 |a=>numOf Γ (.conv k a)
inductive Tr (α:Type) where
 |nil
 |node (v:Option α) (l r:Tr α)
 |over (n:Nat) (v:Option α) (t:Tr α)
def Tr.get {α:Type} (t:Tr α):Nat->Option α:=
 Tr.rec (motive:=fun _=>Nat->Option α) (fun _=>none)
  (fun v _ _ j q n=>bif Nat.beq n 0 then v else bif Nat.beq (n%2) 1 then j (n/2)else q (n/2-1))
  (fun m v _ gt n=>bif Nat.beq n m then v else gt n) t
def Tr.set {α:Type} (t:Tr α):Nat->Option α->Tr α:=
 Tr.rec (motive:=fun _=>Nat->Option α->Tr α) (fun n x=>.over n x .nil)
  (fun v l r sl j n x=>bif Nat.beq n 0 then .node x l r else bif Nat.beq (n%2) 1 then .node v (sl (n/2) x) r else .node v l (j (n/2-1) x))
  (fun m v t q n x=>bif Nat.beq n m then .over m x t else .over m v (q n x)) t
def Tr.full (α:Type) (n:Nat):Tr α:=
 Nat.rec (motive:=fun _=>Tr α) .nil (fun _ ih=>.node none ih ih) n
structure Al where
 DE:Tr Block
 next:Nat
 fx:Ao:={}
def Al.get (h:Al) (b:Nat):Option Block:=Tr.get h.DE b
def Al.set (h:Al) (b:Nat) (o:Option Block):Al:=⟨Tr.set h.DE b o,h.next,h.fx⟩
def Al.add (h:Al) (B:Block):Al:=⟨Tr.set h.DE h.next (some B),h.next+1,h.fx⟩
inductive Cr where
 |tmp (t:Nat)
 |con (v:Ab)
inductive LK where
 |bool
 |int
 |str
structure Co where
 t:Nat
 agg:Bool
 Sz:List (Nat×LK)
inductive EqK where
 |plain (Sz:List (Nat×LK))
 |iface (nils:Bool) (ts:List Co)
 |ptr
 |slice
 |map
 |func
 |bool
inductive POp where
 |mv (x:Cr)
 |pick (c a b:Cr)
 |build (zero:List Ab) (parts:List (Nat×Nat×Cr))
 |AgH (x:Cr)
 |bin (op:BinOp) (x y:Cr)
 |eqs (neg:Bool) (k:EqK) (x y:Cr)
 |un (op:UnOp) (x:Cr)
 |conv (k:IntKind) (x:Cr)
 |same (x:Cr)
 |iface (t:TypeId) (x:Cr)
 |func (f:FuncId) (first captured:List Cr)
 |subs (x:Cr) (lo hi:Option Cr)
 |reslice (size:Nat) (x:Cr) (lo hi mx:Option Cr)
 |UT (off:Nat) (x:Cr)
 |field (off:Nat) (n:Option Nat) (x:Cr)
 |AgU (size:Nat) (x i:Cr)
 |UA (len size:Nat) (x i:Cr)
 |idx (len size:Nat) (n:Option Nat) (x i:Cr)
 |AgT (x i:Cr)
 |ext (x:Cr) (i:Nat)
 |AgL (x:Cr)
 |AgM (x:Cr)
 |big (most:Bool) (xs:List Cr)
 |assert (t:TypeId) (zero:Option Ab) (x:Cr)
 |Aaw (x:Cr)
inductive NO where
 |load (n:Option Nat) (x:Cr)
 |lookup (kk:LK) (zero:Ab) (ok:Bool) (x k:Cr)
 |lenM (x:Cr)
 |uptr (ok:List (Nat×Nat)) (x:Cr)
 |bstr (x:Cr)
inductive AOp where
 |box (t:Option Nat) (x:Cr)
 |zero (t:Option Nat) (cells:List Ab)
 |bslice (len:Nat) (zero:List Ab) (parts:List (Nat×Nat×Cr))
 |mkSlice (zero:List Ab) (l c:Cr)
 |mkMap
inductive MOp where
 |store (n:Nat) (a x:Cr)
 |call (f:Cr) (args:List Cr)
 |append (size:Nat) (u8:Option Nat) (bytes:Bool) (x y:Cr)
 |copy (size:Nat) (bytes:Bool) (x y:Cr)
 |mapUp (kk:LK) (m k v:Cr)
 |clone (x:Cr)
 |panic (x:Cr)
 |defer (f:Cr) (args:List Cr)
 |recover
 |Aez (e:Nat) (p n:Cr)
 |AaR (x:Cr)
inductive DD where
 |p (o:POp)
 |r (o:NO)
 |a (o:AOp)
 |m (o:MOp)
structure Step where
 dst:Option Nat
 guard:Option (Nat×Bool)
 op:DD
 back:Nat
inductive IC where
 |skip
 |region (draw:Bool) (steps:List Step)
 |seq (a b:IC)
 |cond (c:Cr) (t e:IC)
 |block (id:Nat) (b:IC)
 |loop (b:IC)
 |exit (id:Nat)
 |ret
inductive RE where
 |tmp (t:Nat)
 |cell (t:Nat) (n:Option Nat)
structure Ex where
 depth:Nat
 results:List RE
 body:IC
def Dh (o:Option Bool):Bool:=
 match o with
 |some true=>true
 |_=>false
def Ep (o:Option Ab):Ab:=
 match o with
 |some v=>v
 |none=>.any
def ev (tm:Tr Ab) (x:Cr):Ab:=
 match x with
 |.tmp t=>Ep (Tr.get tm t)
 |.con v=>v
def RG (tm:Tr Ab) (l:List Cr):List Ab:=
 List.rec (motive:=fun _=>List Ab) [] (fun x _ ih=>ev tm x::ih) l
def over (vs:List Ab):List Ab->Option (List Ab):=
 List.rec (motive:=fun _=>List Ab->Option (List Ab)) (fun j=>some j)
  (fun v _ ih j=>List.casesOn (motive:=fun _=>Option (List Ab)) j none (fun _ j=>A6 (ih j) fun r=>some (v::r))) vs
def splice (vs:List Ab) (i:Nat):List Ab->Option (List Ab):=
 Nat.rec (motive:=fun _=>List Ab->Option (List Ab)) (fun j=>over vs j)
  (fun _ ih j=>List.casesOn (motive:=fun _=>Option (List Ab)) j none
   (fun x j=>A6 (ih j) fun r=>some (x::r))) i
def taken (n:Nat):List Ab->Option (List Ab):=
 Nat.rec (motive:=fun _=>List Ab->Option (List Ab)) (fun _=>some [])
  (fun _ ih j=>List.casesOn (motive:=fun _=>Option (List Ab)) j none (fun x j=>A6 (ih j) fun r=>some (x::r))) n
def dropped (n:Nat):List Ab->List Ab:=
 Nat.rec (motive:=fun _=>List Ab->List Ab) (fun j=>j) (fun _ ih j=>List.casesOn (motive:=fun _=>List Ab) j [] (fun _ j=>ih j)) n
def nth (l:List Ab):Nat->Option Ab:=
 List.rec (motive:=fun _=>Nat->Option Ab) (fun _=>none) (fun x _ ih n=>Nat.casesOn (motive:=fun _=>Option Ab) n (some x) (fun n=>ih n)) l
def Br (l:List Ab):Nat:=
 List.rec (motive:=fun _=>Nat) 0 (fun _ _ ih=>ih+1) l
def rep (zero:List Ab) (n:Nat):List Ab:=
 Nat.rec (motive:=fun _=>List Ab) [] (fun _ ih=>zero++ih) n
def cut (j:List Ab) (i n:Nat):Option (List Ab):=taken n (dropped i j)
def Fo (cs:List Ab) (v:Ab) (j size:Nat):Option (List Ab):=
 A6 v.cells fun vs=>bif Nat.beq (Br vs) size then splice vs j cs else none
def Hw (tm:Tr Ab) (ps:List (Nat×Nat×Cr)):List Ab->Option (List Ab):=
 List.rec (motive:=fun _=>List Ab->Option (List Ab)) (fun cs=>some cs) (fun p _ ih cs=>A6 (Fo cs (ev tm p.2.2) p.1 p.2.1) ih) ps
def Ox (x:List Nat):List Nat->Bool:=
 List.rec (motive:=fun _=>List Nat->Bool) (fun y=>List.casesOn (motive:=fun _=>Bool) y true (fun _ _=>false))
  (fun a _ ih y=>List.casesOn (motive:=fun _=>Bool) y false (fun b y=>Nat.beq a b&&ih y)) x
def ltL (x:List Nat):List Nat->Bool:=
 List.rec (motive:=fun _=>List Nat->Bool) (fun y=>List.casesOn (motive:=fun _=>Bool) y false (fun _ _=>true))
  (fun a _ ih y=>List.casesOn (motive:=fun _=>Bool) y false (fun b y=>Nat.blt a b||(Nat.beq a b&&ih y))) x
def Ii (l:List Nat):Nat:=
 List.rec (motive:=fun _=>Nat) 0 (fun _ _ ih=>ih+1) l
def BY (l:List Nat):Nat->Option Nat:=
 List.rec (motive:=fun _=>Nat->Option Nat) (fun _=>none) (fun x _ ih n=>Nat.casesOn (motive:=fun _=>Option Nat) n (some x) (fun n=>ih n)) l
def Ur (n:Nat):List Nat->Option (List Nat):=
 Nat.rec (motive:=fun _=>List Nat->Option (List Nat)) (fun _=>some [])
  (fun _ ih j=>List.casesOn (motive:=fun _=>Option (List Nat)) j none (fun x j=>A6 (ih j) fun r=>some (x::r))) n
def MB (n:Nat):List Nat->List Nat:=
 Nat.rec (motive:=fun _=>List Nat->List Nat) (fun j=>j) (fun _ ih j=>List.casesOn (motive:=fun _=>List Nat) j [] (fun _ j=>ih j)) n
def Ab.eqC (x y:Ab):Bool:=
 match x,y with
 |.bool a,.bool b=>a.eq b
 |.int k a,.int k' b=>U8 k k'&&a.eq b
 |.str a,.str b=>Ox a b
 |.ptr a b,.ptr c d=>Nat.beq a c&&Nat.beq b d
 |.nilPtr,.nilPtr=>true
 |.slice a b c d,.slice a' b' c' d'=>Nat.beq a a'&&Nat.beq b b'&&Nat.beq c c'&&Nat.beq d d'
 |.gslice a b c d,.gslice a' b' c' d'=>Nat.beq a a'&&Nat.beq b b'&&Nat.beq c c'&&Nat.beq d d'
 |.nilSlice,.nilSlice=>true
 |.map a,.map b=>Nat.beq a b
 |.nilMap,.nilMap=>true
 |.nilFunc,.nilFunc=>true
 |.nilIface,.nilIface=>true
 |.anyStr n,.anyStr n'=>Nat.beq n n'
 |.gbytes b,.gbytes b'=>Nat.beq b b'
 |.glen b,.glen b'=>Nat.beq b b'
 |.svar i,.svar j=>Nat.beq i j
 |.lst f i e n,.lst f' i' e' n'=>beq f f'&&(Nat.beq i i'&&(Nat.beq e e'&&n.eq n'))
 |.lptr i j o,.lptr i' j' o'=>Nat.beq i i'&&(j.eq j'&&Nat.beq o o')
 |.vec b e n,.vec b' e' n'=>Nat.beq b b'&&(Nat.beq e e'&&n.eq n')
 |.vptr b e j o,.vptr b' e' j' o'=>Nat.beq b b'&&(Nat.beq e e'&&(j.eq j'&&Nat.beq o o'))
 |_,_=>false
def Ab.Ado (x:List Ab):List Ab->Bool:=
 List.rec (motive:=fun _=>List Ab->Bool) (fun y=>List.casesOn (motive:=fun _=>Bool) y true (fun _ _=>false))
  (fun a _ ih y=>List.casesOn (motive:=fun _=>Bool) y false (fun b y=>a.eqC b&&ih y)) x
def Ab.eq (x y:Ab):Bool:=
 match x,y with
 |.func f a c,.func f' a' c'=>Nat.beq f f'&&(Ab.Ado a a'&&Ab.Ado c c')
 |x,y=>x.eqC y
def Ab.Pk (x:List Ab):List Ab->Bool:=
 List.rec (motive:=fun _=>List Ab->Bool) (fun y=>List.casesOn (motive:=fun _=>Bool) y true (fun _ _=>false))
  (fun a _ ih y=>List.casesOn (motive:=fun _=>Bool) y false (fun b y=>a.eq b&&ih y)) x
def MF (x y:Ab) (l:List (Ab×Ab×Bool)):Option Bool:=
 List.rec (motive:=fun _=>Option Bool) none (fun e _ ih=>bif x.eq e.1&&y.eq e.2.1 then some e.2.2 else ih) l
def Abd (x y:Ab) (l:List (Ab×Ab×Ab)):Option Ab:=
 List.rec (motive:=fun _=>Option Ab) none (fun e _ ih=>bif x.eq e.1&&y.eq e.2.1 then some e.2.2 else ih) l
def Wt (i:Nat) (l:List (Nat×ST×Nat×Nat)):Option (ST×Nat×Nat):=
 List.rec (motive:=fun _=>Option (ST×Nat×Nat)) none (fun e _ ih=>bif Nat.beq e.1 i then some e.2 else ih) l
def EB (i:Nat) (l:List (Nat×ST)):Option ST:=
 List.rec (motive:=fun _=>Option ST) none (fun e _ ih=>bif Nat.beq e.1 i then some e.2 else ih) l
def OQ (i:Nat) (t:ST) (l:List (Nat×ST×List Ab)):Option (List Ab):=
 List.rec (motive:=fun _=>Option (List Ab)) none (fun e _ ih=>bif Nat.beq e.1 i&&e.2.1.eq t then some e.2.2 else ih) l
def Abb (i:Nat) (k:Ab) (l:List (Nat×Ab×Option (List Ab))):Option (Option (List Ab)):=
 List.rec (motive:=fun _=>Option (Option (List Ab))) none (fun e _ ih=>bif Nat.beq e.1 i&&k.eq e.2.1 then some e.2.2 else ih) l
def Aba (i:Nat) (k:Ab) (cs:List Ab) (l:List (Nat×Ab×List Ab×Nat)):Option Nat:=
 List.rec (motive:=fun _=>Option Nat) none (fun e _ ih=>bif Nat.beq e.1 i&&(k.eq e.2.1&&Ab.Pk cs e.2.2.1)then some e.2.2.2 else ih) l
def Abe (t:ST) (n:Nat) (l:List (ST×Nat×ST)):Option ST:=
 List.rec (motive:=fun _=>Option ST) none (fun e _ ih=>bif t.eq e.1&&Nat.ble n e.2.1 then some e.2.2 else ih) l
def Aha (x:List (List Ab)):List (List Ab)->Bool:=
 List.rec (motive:=fun _=>List (List Ab)->Bool) (fun y=>List.casesOn (motive:=fun _=>Bool) y true (fun _ _=>false))
  (fun a _ ih y=>List.casesOn (motive:=fun _=>Bool) y false (fun b y=>Ab.Pk a b&&ih y)) x
def AE.eq (x y:AE):Bool:=
 match x,y with
 |.els a,.els b=>Aha a b
 |.all i,.all j=>Nat.beq i j
 |.take i n,.take j m=>Nat.beq i j&&n.eq m
 |.drop i n,.drop j m=>Nat.beq i j&&n.eq m
 |_,_=>false
def AE.Pk (x:List AE):List AE->Bool:=
 List.rec (motive:=fun _=>List AE->Bool) (fun y=>List.casesOn (motive:=fun _=>Bool) y true (fun _ _=>false))
  (fun a _ ih y=>List.casesOn (motive:=fun _=>Bool) y false (fun b y=>a.eq b&&ih y)) x
def Jy (p:List AE) (l:List (Nat×List AE)):Option Nat:=
 List.rec (motive:=fun _=>Option Nat) none (fun e _ ih=>bif AE.Pk p e.2 then some e.1 else ih) l
def Cz (Γ:Ao) (op:BinOp) (a b:ST):Bool:=
 match compare Γ op a b with
 |some (.lit v)=>v
 |_=>false
def T4 (op:BinOp) (a b:List Nat):Option Ab:=
 match op with
 |.eql=>some (.bool (.lit (Ox a b)))
 |.neq=>some (.bool (.lit (!(Ox a b))))
 |.lss=>some (.bool (.lit (ltL a b)))
 |.leq=>some (.bool (.lit (ltL a b||Ox a b)))
 |.gtr=>some (.bool (.lit (!(ltL a b||Ox a b))))
 |.geq=>some (.bool (.lit (!(ltL a b))))
 |.add=>bif Nat.ble (Ii a+Ii b) 1048576 then some (.str (a++b))else none
 |_=>none
def DM (op:BinOp):Bool:=
 match op with
 |.shl=>true
 |.shr=>true
 |_=>false
def natural (Γ:Ao) (b:ST):Bool:=
 match b with
 |.lit n=>ile (.ofNat 0) n
 |b=>Dh (BS Γ.tests .geq b (.lit (.ofNat 0)))
def Aan (Γ:Ao) (op:BinOp) (k:IntKind) (a b:ST):Option Ab:=
 bif natural Γ b then some (.int k (numOf Γ (.bin op k a b)))else none
def Aao (Γ:Ao) (op:BinOp) (k:IntKind) (a b:ST):Option Ab:=
 match a,b with
 |.lit a,.lit b=>A6 (Qk op k a b) fun n=>some (.int k (.lit n))
 |a,b=>Aan Γ op k a b
def Al2 (Γ:Ao) (op:BinOp) (k j:IntKind) (a b:ST):Option Ab:=
 bif DM op then Aao Γ op k a b
 else bif !(U8 k j)then none
 else bif Fl op then A6 (compare Γ op a b) fun v=>some (.bool v)
 else A6 (arith Γ op k a b) fun n=>some (.int k n)
def AbK (Γ:Ao) (op:BinOp) (x y:Ab):Option Ab:=
 match op with
 |.eql=>A6 (MF x y Γ.strs) fun v=>some (.bool (.lit v))
 |.neq=>A6 (MF x y Γ.strs) fun v=>some (.bool (.lit (!v)))
 |.add=>Abd x y Γ.E4
 |_=>none
def Ahq (Γ:Ao) (op:BinOp) (x y:Ab):Option Ab:=
 match x,y with
 |.int k a,.int k' b=>Al2 Γ op k k' a b
 |.str a,.str b=>T4 op a b
 |.svar i,.str b=>AbK Γ op (.svar i) (.str b)
 |.str a,.svar j=>AbK Γ op (.str a) (.svar j)
 |.svar i,.svar j=>AbK Γ op (.svar i) (.svar j)
 |_,_=>none
def AgK (b:Option SB):Option Bool:=
 match b with
 |some (.lit v)=>some v
 |_=>none
def IM (Γ:Ao) (k:LK) (x y:Ab):Option Bool:=
 match k,x,y with
 |.int,.int k a,.int k' b=>bif U8 k k' then AgK (compare Γ .eql a b)else none
 |.bool,.bool (.lit a),.bool (.lit b)=>some (beq a b)
 |.str,.str a,.str b=>some (Ox a b)
 |.str,.svar i,.str b=>MF (.svar i) (.str b) Γ.strs
 |.str,.str a,.svar j=>MF (.str a) (.svar j) Γ.strs
 |.str,.svar i,.svar j=>MF (.svar i) (.svar j) Γ.strs
 |_,_,_=>none
def SX (Γ:Ao) (x y:List Ab) (o:Nat×LK):Option Bool:=
 A6 (nth x o.1) fun a=>A6 (nth y o.1) fun b=>IM Γ o.2 a b
def CV (Γ:Ao) (x y:List Ab) (l:List (Nat×LK)):Option Bool:=
 List.rec (motive:=fun _=>Option Bool) (some true) (fun o _ ih=>A6 (SX Γ x y o) fun e=>bif e then ih else some false) l
def Abc (t:Nat) (l:List Co):Option Co:=
 List.rec (motive:=fun _=>Option Co) none (fun a _ ih=>bif Nat.beq a.t t then some a else ih) l
def Rj (Γ:Ao) (Sz:List (Nat×LK)) (x y:Ab):Option Bool:=
 match x,y with
 |.agg xs,.agg ys=>CV Γ xs ys Sz
 |_,_=>none
def Kx (v:Ab):Bool:=
 match v with
 |.agg _=>true
 |_=>false
def WB (Γ:Ao) (h:Co) (a b:Ab):Option Bool:=
 bif beq (Kx a) h.agg&&beq (Kx b) h.agg then A6 a.cells fun a=>A6 b.cells fun b=>CV Γ a b h.Sz else none
def Ab5 (Γ:Ao) (ts:List Co) (t u:Nat) (a b:Ab):Option Bool:=
 bif Nat.beq t u then (A6 (Abc t ts) fun h=>WB Γ h a b)else some false
def Rn (Γ:Ao) (j:Bool) (ts:List Co) (x y:Ab):Option Bool:=
 match x,y with
 |.iface t a,.iface u b=>Ab5 Γ ts t u a b
 |.nilIface,.nilIface=>bif j then some true else none
 |.nilIface,.iface _ _=>some false
 |.iface _ _,.nilIface=>some false
 |_,_=>none
def Ab3 (x y:Ab):Option Bool:=
 match x,y with
 |.nilPtr,.nilPtr=>some true
 |.nilPtr,.ptr _ _=>some false
 |.ptr _ _,.nilPtr=>some false
 |.ptr b o,.ptr b' o'=>bif Nat.beq b b'&&Nat.beq o o' then some true else none
 |_,_=>none
def Rh (x y:Ab):Option Bool:=
 match x,y with
 |.nilSlice,.nilSlice=>some true
 |.slice _ _ _ _,.nilSlice=>some false
 |.nilSlice,.slice _ _ _ _=>some false
 |.gslice _ _ _ _,.nilSlice=>some false
 |.nilSlice,.gslice _ _ _ _=>some false
 |_,_=>none
def Ab4 (x y:Ab):Option Bool:=
 match x,y with
 |.nilMap,.nilMap=>some true
 |.map _,.nilMap=>some false
 |.nilMap,.map _=>some false
 |_,_=>none
def UX (x y:Ab):Option Bool:=
 match x,y with
 |.nilFunc,.nilFunc=>some true
 |.func _ _ _,.nilFunc=>some false
 |.nilFunc,.func _ _ _=>some false
 |_,_=>none
def UY (x y:Ab):Option Bool:=
 match x,y with
 |.bool (.lit a),.bool (.lit b)=>some (beq a b)
 |_,_=>none
def eqA (Γ:Ao) (k:EqK) (x y:Ab):Option Bool:=
 match k with
 |.plain Sz=>Rj Γ Sz x y
 |.iface nils ts=>Rn Γ nils ts x y
 |.ptr=>Ab3 x y
 |.slice=>Rh x y
 |.map=>Ab4 x y
 |.func=>UX x y
 |.bool=>UY x y
def unA (Γ:Ao) (op:UnOp) (x:Ab):Option Ab:=
 match op,x with
 |.neg,.int k a=>A6 (arith Γ .sub k (.lit (.ofNat 0)) a) fun n=>some (.int k n)
 |.xor,.int k a=>A6 (arith Γ .xor k (.lit (bif HT k then .negSucc 0 else .ofNat (modulus k-1))) a) fun n=>some (.int k n)
 |.not,.bool (.lit b)=>some (.bool (.lit (!b)))
 |.not,.bool b=>some (.bool (.no b))
 |_,_=>none
def C4 (x:Ab):Option Nat:=
 match x with
 |.int _ (.lit (.ofNat n))=>some n
 |_=>none
def Ce (tm:Tr Ab) (d:Nat) (x:Option Cr):Option Nat:=
 match x with
 |none=>some d
 |some x=>C4 (ev tm x)
def AcT (tm:Tr Ab) (x:Option Cr):Option (Option Nat):=
 match x with
 |none=>none
 |some x=>some (C4 (ev tm x))
def Vs (Γ:Ao) (most:Bool) (a b:Ab):Option Ab:=
 match a,b with
 |.int k a,.int k' b=>bif U8 k k' then (match (bif most then compare Γ .lss a b else compare Γ .lss b a)with|some (.lit c)=>some (.int k (bif c then b else a)) |_=>none)else none
 |_,_=>none
def Ad0 (Γ:Ao) (most:Bool) (l:List Ab):Ab->Option Ab:=
 List.rec (motive:=fun _=>Ab->Option Ab) (fun a=>some a) (fun b _ ih a=>A6 (Vs Γ most a b) ih) l
def AaG (c a b:Ab):Option Ab:=
 match c with
 |.bool (.lit v)=>some (bif v then a else b)
 |_=>none
def N3 (cs:Option (List Ab)):Option Ab:=A6 cs fun cs=>some (.agg cs)
def AaS (x:Ab):Option Ab:=
 match x with
 |.ptr b o=>some (.ptr b o)
 |.func f a c=>some (.func f a c)
 |.lptr i j o=>some (.lptr i j o)
 |.vptr b e j o=>some (.vptr b e j o)
 |_=>none
def IK (Γ:Ao) (j:Bool) (k:EqK) (x y:Ab):Option Ab:=
 A6 (eqA Γ k x y) fun b=>some (.bool (.lit (bif j then !b else b)))
def Ab9 (Γ:Ao) (k:IntKind) (x:Ab):Option Ab:=
 match x with
 |.int _ n=>some (.int k (convert Γ k n))
 |_=>none
def Aax (x:Ab):Option Ab:=
 match x with
 |.str s=>some (.str s)
 |_=>none
def AdI (s:List Nat) (l h n:Nat):Option Ab:=
 bif Nat.ble l h&&Nat.ble h n then A6 (Ur (h-l) (MB l s)) fun r=>some (.str r)else none
def Z4 (x:Ab) (lo:Option Nat) (j:Nat->Option Nat):Option Ab:=
 match x with
 |.str s=>A6 lo fun l=>A6 (j (Ii s)) fun h=>AdI s l h (Ii s)
 |_=>none
def Sm (size b j c l h:Nat):Option Ab:=
 bif Nat.ble l h&&Nat.ble h c then some (.slice b (bif Nat.beq c l then j else j+l*size) (h-l) (c-l))else none
def Sk (size b j len q l h:Nat):Option Ab:=
 bif Nat.ble l h&&Nat.ble h len&&Nat.beq size q then
  (bif Nat.beq l 0 then some (.gslice b j h q)
   else bif Nat.blt l h then some (.gslice b (j+l*size) (h-l) q)else none)else none
def Jq (size b j len l h m:Nat):Option Ab:=
 bif Nat.ble l h&&Nat.ble h m&&Nat.ble m len then some (.slice b (bif Nat.beq m l then j else j+l*size) (h-l) (m-l))else none
def FJ (size:Nat) (x:Ab) (lo:Option Nat) (j:Nat->Option Nat) (q:Option (Option Nat)):Option Ab:=
 match x,q with
 |.slice b off len c,none=>A6 lo fun l=>A6 (j len) fun h=>Sm size b off c l h
 |.gslice b off len es,none=>A6 lo fun l=>A6 (j len) fun h=>Sk size b off len es l h
 |.slice b off len _,some m=>A6 lo fun l=>A6 (j len) fun h=>A6 m fun m=>Jq size b off len l h m
 |.gslice b off len _,some m=>A6 lo fun l=>A6 (j len) fun h=>A6 m fun m=>Jq size b off len l h m
 |.nilSlice,none=>A6 lo fun l=>A6 (j 0) fun h=>bif Nat.beq l 0&&Nat.beq h 0 then some .nilSlice else none
 |_,_=>none
def Re (q:Nat) (x:Ab):Option Ab:=
 match x with
 |.ptr b o=>some (.ptr b (o+q))
 |.lptr i j o=>some (.lptr i j (o+q))
 |.vptr b e j o=>some (.vptr b e j (o+q))
 |_=>none
def Ju (cs:List Ab) (j:Nat) (n:Option Nat):Option Ab:=
 match n with
 |some n=>A6 (cut cs j n) fun r=>some (.agg r)
 |none=>nth cs j
def US (j:Nat) (n:Option Nat) (x:Ab):Option Ab:=
 match x with
 |.agg cs=>Ju cs j n
 |_=>none
def Wy (size b j len:Nat) (i:Option Nat):Option Ab:=
 A6 i fun i=>bif Nat.blt i len then some (.ptr b (j+i*size))else none
def AdT (Γ:Ao) (size i j:Nat) (n:ST) (v:Ab):Option Ab:=
 match v with
 |.int _ t=>bif Nat.beq size j&&(Cz Γ .geq t (.lit (.ofNat 0))&&Cz Γ .lss t n)then some (.lptr i t 0)else none
 |_=>none
def AdS (Γ:Ao) (size b j:Nat) (n:ST) (v:Ab):Option Ab:=
 match v with
 |.int _ t=>bif Nat.beq size j&&(Cz Γ .geq t (.lit (.ofNat 0))&&Cz Γ .lss t n)then some (.vptr b j t 0)else none
 |_=>none
def Abo (Γ:Ao) (size:Nat) (x v:Ab) (i:Option Nat):Option Ab:=
 match x with
 |.vec b es n=>AdS Γ size b es n v
 |.lst _ j es n=>AdT Γ size j es n v
 |.slice b off len _=>Wy size b off len i
 |.gslice b off len _=>Wy size b off len i
 |_=>none
def QI (len size:Nat) (x:Ab) (i:Option Nat):Option Ab:=
 match x with
 |.ptr b off=>A6 i fun i=>bif Nat.blt i len then some (.ptr b (off+i*size))else none
 |_=>none
def AgS (len size:Nat) (n:Option Nat) (x:Ab) (i:Option Nat):Option Ab:=
 match x with
 |.agg cs=>A6 i fun i=>bif Nat.blt i len then Ju cs (i*size) n else none
 |_=>none
def Abn (x:Ab) (i:Option Nat):Option Ab:=
 match x with
 |.str s=>A6 i fun i=>A6 (BY s i) fun c=>some (.int .u8 (.lit (.ofNat c)))
 |_=>none
def AgZ (x:Ab) (i:Nat):Option Ab:=
 match x with
 |.tuple vs=>nth vs i
 |_=>none
def Abf (Γ:Ao) (x:Ab):Option Ab:=
 match x with
 |.svar i=>A6 (Wt i Γ.BQ) fun r=>some (.int .i64 r.1)
 |.str s=>some (lit .i64 (.ofNat (Ii s)))
 |.anyStr _=>some .any
 |_=>none
def Abg (x:Ab):Option Ab:=
 match x with
 |.slice _ _ n _=>some (lit .i64 (.ofNat n))
 |.gslice _ _ n _=>some (lit .i64 (.ofNat n))
 |.nilSlice=>some (lit .i64 (.ofNat 0))
 |.gbytes b=>some (.glen b)
 |.lst _ _ _ n=>some (.int .i64 n)
 |.vec _ _ n=>some (.int .i64 n)
 |_=>none
def R4 (t:TypeId) (zero:Option Ab) (x:Ab):Option Ab:=
 match x,zero with
 |.iface u v,none=>bif Nat.beq u t then some v else none
 |.iface u v,some z=>some (bif Nat.beq u t then .tuple [v,.bool (.lit true)]else .tuple [z,.bool (.lit false)])
 |.nilIface,some z=>some (.tuple [z,.bool (.lit false)])
 |_,_=>none
def Ue (x:Ab):Option Ab:=
 match x with
 |.nilSlice=>some .nilPtr
 |.gbytes b=>some (.ptr b 0)
 |_=>none
def Al3 (Γ:Ao) (most:Bool) (j:List Ab):Option Ab:=
 match j with
 |[]=>none
 |x::r=>Ad0 Γ most r x
def Jr (Γ:Ao) (i q:Nat) (n:ST) (lo v:Option Ab):Option Ab:=
 match lo,v with
 |none,some (.int _ t)=>A6 (Jy [.take i t] Γ.defs) fun j=>some (.lst false j q t)
 |some (.int _ (.lit (.ofNat 0))),some (.int _ t)=>A6 (Jy [.take i t] Γ.defs) fun j=>some (.lst false j q t)
 |some (.int _ t),none=>A6 (Jy [.drop i t] Γ.defs) fun j=>A6 (EB j Γ.Br) fun u=>some (.lst false j q u)
 |_,_=>none
def Sl (Γ:Ao) (f:Bool) (i j:Nat) (n:ST) (lo q:Option Ab):Option Ab:=
 match lo,q with
 |none,none=>some (.lst f i j n)
 |none,some (.int k t)=>bif t.eq n then some (.lst f i j n)else Jr Γ i j n none (some (.int k t))
 |lo,q=>Jr Γ i j n lo q
def Sj (Γ:Ao) (b j:Nat) (n:ST) (lo q:Option Ab):Option Ab:=
 match lo,q with
 |none,none=>some (.vec b j n)
 |none,some (.int _ t)=>bif Cz Γ .geq t (.lit (.ofNat 0))&&Cz Γ .leq t n then some (.vec b j t)else none
 |_,_=>none
def Mu (Γ:Ao) (size:Nat) (x:Ab) (lo j:Option Ab):Option Ab:=
 match x with
 |.lst f i es n=>bif Nat.beq size es then Sl Γ f i es n lo j else none
 |.vec b es n=>bif Nat.beq size es then Sj Γ b es n lo j else none
 |_=>none
def Akg (x:Ab):Bool:=
 match x with
 |.lst _ _ _ _=>true
 |.vec _ _ _=>true
 |_=>false
def Lv (tm:Tr Ab) (x:Option Cr):Option Ab:=
 match x with
 |some x=>some (ev tm x)
 |none=>none
def FI (Γ:Ao) (tm:Tr Ab) (size:Nat) (x:Ab) (lo q j:Option Cr):Option Ab:=
 match Akg x,j with
 |true,none=>Mu Γ size x (Lv tm lo) (Lv tm q)
 |_,_=>FJ size x (Ce tm 0 lo) (fun d=>Ce tm d q) (AcT tm j)
def Is (Γ:Ao) (tm:Tr Ab) (o:POp):Option Ab:=
 match o with
 |.mv x=>some (ev tm x)
 |.pick c a b=>AaG (ev tm c) (ev tm a) (ev tm b)
 |.build zero parts=>N3 (Hw tm parts zero)
 |.AgH x=>AaS (ev tm x)
 |.bin op x y=>Ahq Γ op (ev tm x) (ev tm y)
 |.eqs neg k x y=>IK Γ neg k (ev tm x) (ev tm y)
 |.un op x=>unA Γ op (ev tm x)
 |.conv k x=>Ab9 Γ k (ev tm x)
 |.same x=>Aax (ev tm x)
 |.iface t x=>some (.iface t (ev tm x))
 |.func f a c=>some (.func f (RG tm a) (RG tm c))
 |.subs x lo hi=>Z4 (ev tm x) (Ce tm 0 lo) (fun d=>Ce tm d hi)
 |.reslice size x lo hi mx=>FI Γ tm size (ev tm x) lo hi mx
 |.UT off x=>Re off (ev tm x)
 |.field off n x=>US off n (ev tm x)
 |.AgU size x i=>Abo Γ size (ev tm x) (ev tm i) (C4 (ev tm i))
 |.UA len size x i=>QI len size (ev tm x) (C4 (ev tm i))
 |.idx len size n x i=>AgS len size n (ev tm x) (C4 (ev tm i))
 |.AgT x i=>Abn (ev tm x) (C4 (ev tm i))
 |.ext x i=>AgZ (ev tm x) i
 |.AgL x=>Abf Γ (ev tm x)
 |.AgM x=>Abg (ev tm x)
 |.big most xs=>Al3 Γ most (RG tm xs)
 |.assert t zero x=>R4 t zero (ev tm x)
 |.Aaw x=>Ue (ev tm x)
def cellsOf (o:Option Block):Option (List Ab):=
 match o with
 |some (.cells vs)=>some vs
 |some (.typed _ vs)=>some vs
 |_=>none
def AdO (o:Option Block) (vs:List Ab):Block:=
 match o with
 |some (.typed e _)=>.typed e vs
 |_=>.cells vs
def bytesOf (o:Option Block):Option (Nat×Nat):=
 match o with
 |some (.bytes n e)=>some (n,e)
 |_=>none
def mapOf (o:Option Block):Option (List Entry×Nat):=
 match o with
 |some (.map es c)=>some (es,c)
 |_=>none
def MJ (o:Option Block):Option (Nat×Nat):=
 match o with
 |some (.list i es)=>some (i,es)
 |_=>none
def elemV (Γ:Ao) (o:Option Block) (q:Nat) (j:ST):Option (List Ab):=
 A6 (MJ o) fun l=>bif Nat.beq l.2 q then OQ l.1 j Γ.elems else none
def MI (Γ:Ao) (h:Al) (n:Option Nat) (x:Ab):Option Ab:=
 match x with
 |.vptr b es j off=>A6 (elemV Γ (h.get b) es j) fun vs=>Ju vs off n
 |.lptr i j off=>A6 (OQ i j Γ.elems) fun vs=>Ju vs off n
 |.ptr b off=>A6 (cellsOf (h.get b)) fun vs=>Ju vs off n
 |_=>none
def OV (kk:LK) (x y:Ab):Option Bool:=
 match kk,x,y with
 |.int,.int k (.lit a),.int k' (.lit b)=>bif U8 k k' then some (Yl a b)else none
 |.str,.str a,.str b=>some (Ox a b)
 |.bool,.bool (.lit a),.bool (.lit b)=>some (beq a b)
 |_,_,_=>none
def Aby (Γ:Ao) (kk:LK) (k:Ab) (j:List Entry):Option (Option Ab):=
 List.rec (motive:=fun _=>Option (Option Ab)) (some none) (fun e _ ih=>A6 (IM Γ kk k e.key) fun b=>bif b then some (some e.val)else ih) j
def Adp (j:List Entry):Nat:=
 List.rec (motive:=fun _=>Nat) 0 (fun _ _ ih=>ih+1) j
def UN (ok:Bool) (v:Ab) (b:Bool):Ab:=bif ok then .tuple [v,.bool (.lit b)]else v
def Aki (ok:Bool) (zero:Ab) (r:Option Ab):Ab:=
 match r with
 |some v=>UN ok v true
 |none=>UN ok zero false
def I5 (o:Option Block):Option Nat:=
 match o with
 |some (.smap i)=>some i
 |_=>none
def AdN (Γ:Ao) (i:Nat) (k zero:Ab) (ok:Bool):Option Ab:=
 A6 (Abb i k Γ.looks) fun r=>match r with
  |some cs=>some (UN ok (.agg cs) true)
  |none=>some (UN ok zero false)
def P7 (kk:LK) (k:Ab):Bool:=
 match kk,k with
 |.str,.str _=>true
 |.str,.svar _=>true
 |_,_=>false
def U2 (Γ:Ao) (h:Al) (kk:LK) (b:Nat) (k zero:Ab) (ok:Bool):Option Ab:=
 match I5 (h.get b)with
 |some i=>bif P7 kk k then AdN Γ i k zero ok else none
 |none=>A6 (mapOf (h.get b)) fun m=>A6 (Aby Γ kk k m.1) fun r=>some (Aki ok zero r)
def Wu (Γ:Ao) (h:Al) (kk:LK) (m k zero:Ab) (ok:Bool):Option Ab:=
 match m with
 |.nilMap=>some (UN ok zero false)
 |.map b=>U2 Γ h kk b k zero ok
 |_=>none
def Wv (h:Al) (x:Ab):Option Ab:=
 match x with
 |.nilMap=>some (lit .i64 (.ofNat 0))
 |.map b=>A6 (mapOf (h.get b)) fun m=>some (lit .i64 (.ofNat (Adp m.1)))
 |_=>none
def SA (e n:Nat) (l:List (Nat×Nat)):Bool:=
 List.rec (motive:=fun _=>Bool) false (fun x _ ih=>(Nat.beq x.1 e&&Nat.beq x.2 n) ||ih) l
def Yv (ok:List (Nat×Nat)) (b:Nat) (B:Option Block):Option Ab:=
 match B with
 |some (.typed e vs)=>bif SA e (Br vs) ok then some (.ptr b 0)else none
 |_=>none
def Oz (h:Al) (ok:List (Nat×Nat)) (x:Ab):Option Ab:=
 match x with
 |.ptr b 0=>Yv ok b (h.get b)
 |_=>none
def u8A (v:Ab):Option Nat:=
 match v with
 |.int .u8 (.lit (.ofNat n))=>bif Nat.ble n 255 then some n else none
 |_=>none
def Ae1 (l:List Ab):Option (List Nat):=
 List.rec (motive:=fun _=>Option (List Nat)) (some []) (fun v _ ih=>A6 (u8A v) fun n=>A6 ih fun l=>some (n::l)) l
def N4 (h:Al) (b j len:Nat):Option Ab:=
 bif Nat.beq len 0 then some (.str [])else A6 (cellsOf (h.get b)) fun vs=>A6 (cut vs j len) fun r=>A6 (Ae1 r) fun s=>some (.str s)
def WO (h:Al) (x:Ab):Option Ab:=
 match x with
 |.nilSlice=>some (.str [])
 |.slice b off len _=>N4 h b off len
 |.gslice b off len _=>N4 h b off len
 |_=>none
def Dm (Γ:Ao) (tm:Tr Ab) (h:Al) (o:NO):Option Ab:=
 match o with
 |.load n x=>MI Γ h n (ev tm x)
 |.lookup kk zero ok x k=>Wu Γ h kk (ev tm x) (ev tm k) zero ok
 |.lenM x=>Wv h (ev tm x)
 |.uptr ok x=>Oz h ok (ev tm x)
 |.bstr x=>WO h (ev tm x)
def MD (id:Nat) (zero:List Ab) (l c:Option Nat):Option (Block×Ab):=
 A6 l fun l=>A6 c fun c=>bif Nat.ble l c&&Nat.ble c 1048576 then some (.cells (rep zero c),.slice id 0 l c)else none
def KB (t:Option Nat) (cs:List Ab):Block:=
 match t with
 |some e=>.typed e cs
 |none=>.cells cs
def X1 (tm:Tr Ab) (id:Nat) (o:AOp):Option (Block×Ab):=
 match o with
 |.box t x=>A6 (ev tm x).cells fun cs=>some (KB t cs,.ptr id 0)
 |.zero t cs=>some (KB t cs,.ptr id 0)
 |.bslice len zero parts=>A6 (Hw tm parts zero) fun cs=>some (.cells cs,.slice id 0 len len)
 |.mkSlice zero l c=>MD id zero (C4 (ev tm l)) (C4 (ev tm c))
 |.mkMap=>some (.map [] 0,.map id)
inductive GL where
 |val (v:Ab) (h:Al)
 |call (f:FuncId) (args:List Ab)
 |panic (v:Ab)
 |defer (f:FuncId) (args:List Ab)
def T5 (h:Al) (n:Nat) (a x:Ab):Option Al:=
 match a with
 |.ptr b off=>A6 (cellsOf (h.get b)) fun vs=>A6 (Fo vs x off n) fun j=>some (h.set b (some (AdO (h.get b) j)))
 |_=>none
def LV (h:Al) (size b j len:Nat):Option (Nat×List Ab):=
 bif Nat.beq len 0 then some (0,[])else A6 (cellsOf (h.get b)) fun vs=>A6 (cut vs j (len*size)) fun r=>some (len,r)
def byteCells (l:List Nat):List Ab:=
 List.rec (motive:=fun _=>List Ab) [] (fun c _ ih=>.int .u8 (.lit (.ofNat c))::ih) l
def J9 (Γ:Ao) (i j n:Nat):Nat->Option (List Ab):=
 Nat.rec (motive:=fun _=>Nat->Option (List Ab)) (fun _=>some [])
  (fun _ ih k=>A6 (OQ i (.lit (.ofNat k)) Γ.elems) fun cs=>bif Nat.beq (Br cs) j then A6 (ih (k+1)) fun r=>some (cs++r)else none) n
def Afp (Γ:Ao) (size i j:Nat) (n:ST):Option (Nat×List Ab):=
 match n with
 |.lit (.ofNat m)=>bif Nat.beq size j then A6 (J9 Γ i j m 0) fun cs=>some (m,cs)else none
 |_=>none
def Jh (h:Al) (size:Nat) (bytes:Bool) (x:Ab):Option (Nat×List Ab):=
 match x,bytes with
 |.lst _ i es n,false=>Afp h.fx size i es n
 |.nilSlice,false=>some (0,[])
 |.slice b off len _,false=>LV h size b off len
 |.gslice b off len _,false=>LV h size b off len
 |.str s,true=>bif Nat.beq size 1 then some (Ii s,byteCells s)else none
 |_,_=>none
def Tm (h:Al) (size b j len c n:Nat) (new:List Ab):Option (Ab×Al):=
 A6 (cellsOf (h.get b)) fun vs=>A6 (splice new (j+len*size) vs) fun q=>some (.slice b j (len+n) c,h.set b (some (.cells q)))
def Ic (h:Al) (size len n:Nat) (old new:List Ab):Option (Ab×Al):=
 bif Nat.ble (len+n) 1048576 then some (.gslice h.next 0 (len+n) size,h.add (.cells (old++new)))else none
def WS (h:Al) (size b j len q n:Nat) (new:List Ab):Option (Ab×Al):=
 A6 (cellsOf (h.get b)) fun vs=>bif Nat.beq size q&&Nat.ble (len+n) 1048576 then
  A6 (cut vs j (len*size)) fun old=>some (.gslice h.next 0 (len+n) size,(h.set b none).add (.cells (old++new)))else none
def L9 (x:Ab) (h:Al):Option (Ab×Al):=
 match x with
 |.lst f i es n=>some (.lst f i es n,h)
 |.vec b es n=>some (.vec b es n,h)
 |.nilSlice=>some (x,h)
 |.slice _ _ _ _=>some (x,h)
 |.gslice _ _ _ _=>some (x,h)
 |_=>none
def AnO (v:Ab):Bool:=
 match v with
 |.bool _=>true
 |.int _ _=>true
 |.str _=>true
 |.svar _=>true
 |.lst _ _ _ _=>true
 |.nilPtr=>true
 |.nilSlice=>true
 |_=>false
def loose (v:Ab):Ab:=
 match v with
 |.lst _ i es n=>.lst false i es n
 |v=>v
def CF (l:List Ab):List Ab:=List.rec (motive:=fun _=>List Ab) [] (fun v _ ih=>loose v::ih) l
def Rv (l:List Ab):Bool:=List.rec (motive:=fun _=>Bool) true (fun v _ ih=>AnO v&&ih) l
def HD (size n:Nat):List Ab->Option (List (List Ab)):=
 Nat.rec (motive:=fun _=>List Ab->Option (List (List Ab))) (fun cs=>List.casesOn (motive:=fun _=>Option (List (List Ab))) cs (some []) (fun _ _=>none))
  (fun _ ih cs=>A6 (taken size cs) fun c=>A6 (ih (dropped size cs)) fun r=>some (c::r)) n
def Ie (h:Al) (size:Nat) (part:AE) (n:Nat) (new:List Ab):Option (ST×Block):=
 bif Rv new then A6 (HD size n (CF new)) fun q=>A6 (Jy [part,.els q] h.fx.defs) fun j=>A6 (EB j h.fx.Br) fun t=>
  bif Cz h.fx .leq t (.lit (.ofNat 1048576))then some (t,.list j size)else none else none
def WR (h:Al) (size b j:Nat) (m:ST) (n:Nat) (new:List Ab):Option (Ab×Al):=
 A6 (MJ (h.get b)) fun l=>bif Nat.beq size j&&Nat.beq l.2 j then
  A6 (Ie h size (.take l.1 m) n new) fun r=>some (.vec h.next size r.1,(h.set b none).add r.2)else none
def WW (h:Al) (size i j n:Nat) (new:List Ab):Option (Ab×Al):=
 bif Nat.beq size j then A6 (Ie h size (.all i) n new) fun r=>some (.vec h.next size r.1,h.add r.2)else none
def Pw (h:Al) (size:Nat) (x:Ab):Option (List AE):=
 match x with
 |.nilSlice=>some []
 |.slice b off len c=>bif Nat.beq len c then (bif Nat.beq len 0 then some []else A6 (LV h size b off len) fun s=>bif Rv s.2 then A6 (HD size len (CF s.2)) fun j=>some [.els j]else none)else none
 |.lst true i j _=>bif Nat.beq size j then some [.all i]else none
 |.vec b j m=>A6 (MJ (h.get b)) fun l=>bif Nat.beq size j&&Nat.beq l.2 j then some [.take l.1 m]else none
 |_=>none
def Aav (p:List AE) (l:List (Nat×List AE)):Option Nat:=
 List.rec (motive:=fun _=>Option Nat) none (fun e _ ih=>bif AE.Pk p e.2 then some e.1 else ih) l
def LB (h:Al) (size:Nat) (x:Ab) (n:Nat) (new:List Ab):Option (Ab×Al):=
 bif Rv new then A6 (Pw h size x) fun p=>A6 (HD size n (CF new)) fun q=>A6 (Aav (p++[.els q]) h.fx.defs) fun j=>A6 (EB j h.fx.Br) fun t=>
  bif Cz h.fx .leq t (.lit (.ofNat 1048576))then some (.vec h.next size t,h.add (.list j size))else none
 else none
def orR (a b:Option (Ab×Al)):Option (Ab×Al):=
 match a with
 |some r=>some r
 |none=>b
def WT (h:Al) (size:Nat) (x:Ab) (n:Nat) (new:List Ab):Option (Ab×Al):=
 match x with
 |.vec b es m=>WR h size b es m n new
 |.lst true i es _=>WW h size i es n new
 |.nilSlice=>orR (LB h size .nilSlice n new) (Ic h size 0 n [] new)
 |.slice b off len c=>
  bif Nat.ble (len+n) c then Tm h size b off len c n new
  else orR (LB h size (.slice b off len c) n new) (A6 (LV h size b off len) fun old=>Ic h size len n old.2 new)
 |.gslice b off len es=>WS h size b off len es n new
 |_=>none
def Gz (h:Al) (size:Nat) (x:Ab) (n:Nat) (new:List Ab):Option (Ab×Al):=
 bif Nat.beq n 0 then L9 x h else WT h size x n new
def Adk (v:Ab):Bool:=
 match v with
 |.int .u8 (.lit (.ofNat n))=>Nat.ble n 255
 |_=>false
def WX (l:List Ab):Bool:=List.rec (motive:=fun _=>Bool) true (fun v _ ih=>Adk v&&ih) l
def AcH (h:Al) (bytes:Bool) (y:Ab):Option (Nat×Nat):=
 match y,bytes with
 |.svar i,true=>A6 (Wt i h.fx.BQ) fun r=>some r.2
 |.str s,true=>some (Ii s,Ii s)
 |.anyStr n,true=>some (1,n)
 |y,false=>A6 (Jh h 1 false y) fun s=>bif WX s.2 then some (s.1,s.1)else none
 |_,_=>none
def He (o:Option Block):Option (ST×Nat):=
 match o with
 |some (.sbytes t e)=>some (t,e)
 |_=>none
def WV (h:Al) (e b n:Nat):Option (Ab×Al):=
 match He (h.get b)with
 |some m=>bif Nat.beq m.2 e then A6 (Abe m.1 n h.fx.C7) fun t=>some (.gbytes h.next,(h.set b none).add (.sbytes t e))else none
 |none=>A6 (bytesOf (h.get b)) fun m=>bif Nat.beq m.2 e&&Nat.ble (m.1+n) 1048576 then some (.gbytes h.next,(h.set b none).add (.bytes (m.1+n) e))else none
def R8 (h:Al) (e:Nat) (x:Ab) (lo n:Nat):Option (Ab×Al):=
 match x with
 |.nilSlice=>bif Nat.beq lo 0 then (bif Nat.beq n 0 then some (x,h)else none)else bif Nat.ble n 1048576 then some (.gbytes h.next,h.add (.bytes n e))else none
 |.gbytes b=>WV h e b n
 |_=>none
def hidden (x:Ab):Bool:=
 match x with
 |.nilSlice=>true
 |.gbytes _=>true
 |_=>false
def Akr (h:Al) (x:Ab):Al:=
 match x with
 |.vec b _ _=>h.set b none
 |_=>h
def LA (h:Al) (size:Nat) (x:Ab) (i q:Nat) (n:ST):Option (Ab×Al):=
 bif Nat.beq size q&&Cz h.fx .gtr n (.lit (.ofNat 0))then
  A6 (Pw h size x) fun p=>A6 (Jy (p++[.all i]) h.fx.defs) fun j=>A6 (EB j h.fx.Br) fun t=>
   bif Cz h.fx .leq t (.lit (.ofNat 1048576))then some (.vec h.next size t,(Akr h x).add (.list j size))else none
 else bif Nat.beq size q&&Cz h.fx .leq n (.lit (.ofNat 0))then L9 x h else none
def Wn (y:Ab) (bytes:Bool):Option (Nat×Nat×ST):=
 match y,bytes with
 |.lst _ _ _ (.lit _),_=>none
 |.lst _ i es n,false=>some (i,es,n)
 |_,_=>none
def UO (b q len x j:Nat) (v:Ab):Ab:=
 match v with
 |.slice b' off' len' c'=>bif Nat.beq b b'&&(Nat.beq q off'&&Nat.beq len len')then .lst (Nat.beq c' len) j x (.lit (.ofNat len))else v
 |.gslice b' off' len' _=>bif Nat.beq b b'&&(Nat.beq q off'&&Nat.beq len len')then .lst false j x (.lit (.ofNat len))else v
 |v=>v
def Lx (b q len x j:Nat) (l:List Ab):List Ab:=
 List.rec (motive:=fun _=>List Ab) [] (fun v _ ih=>UO b q len x j v::ih) l
def Tr.map {α:Type} (g:α->α) (t:Tr α):Tr α:=
 Tr.rec (motive:=fun _=>Tr α) .nil (fun v _ _ l r=>.node (v.map g) l r) (fun n v _ t=>.over n (v.map g) t) t
def Pa (Γ:Ao) (q len v j:Nat) (vs:List Ab):Bool:=
 Dh (A6 (cut vs q (len*v)) fun cs=>bif Rv cs then A6 (HD v len (CF cs)) fun c=>A6 (Jy [.els c] Γ.defs) fun j'=>some (Nat.beq j' j)else none)
def EW (h:Al) (z:Nat×Nat×Nat×Nat×Nat) (new:List Ab):Al×List Ab:=
 match h.get z.1 with
 |some (.cells vs)=>bif Pa h.fx z.2.1 z.2.2.1 z.2.2.2.1 z.2.2.2.2 vs then (h.set z.1 none,Lx z.1 z.2.1 z.2.2.1 z.2.2.2.1 z.2.2.2.2 new)else (h,new)
 |_=>(h,new)
def FT (l:List (Nat×Nat×Nat×Nat×Nat)):Al->List Ab->Al×List Ab:=
 List.rec (motive:=fun _=>Al->List Ab->Al×List Ab) (fun h n=>(h,n)) (fun z _ ih h n=>ih (EW h z n).1 (EW h z n).2) l
def Ad3 (size:Nat) (x:Ab) (n:Nat) (r:Al×List Ab):Option (Ab×Al):=Gz r.1 size x n r.2
def R7 (h:Al) (size:Nat) (x:Ab) (n:Nat) (new:List Ab):Option (Ab×Al):=
 match x with
 |.vec b es m=>bif Rv new then Gz h size (.vec b es m) n new else Ad3 size (.vec b es m) n (FT h.fx.Oh h new)
 |x=>Gz h size x n new
def WU (h:Al) (size:Nat) (bytes:Bool) (x y:Ab):Option (Ab×Al):=
 match Wn y bytes with
 |some l=>LA h size x l.1 l.2.1 l.2.2
 |none=>A6 (Jh h size bytes y) fun s=>R7 h size x s.1 s.2
def Tl (h:Al) (size:Nat) (j:Option Nat) (bytes:Bool) (x y:Ab):Option (Ab×Al):=
 match j,hidden x with
 |some e,true=>A6 (AcH h bytes y) fun s=>R8 h e x s.1 s.2
 |_,_=>WU h size bytes x y
def AdB (h:Al) (b:Nat) (m:Nat×Nat) (e:Nat):Option GL:=
 bif Nat.beq m.2 e then some (.val (.anyStr m.1) (h.set b none))else none
def AdA (h:Al) (b e:Nat):Option GL:=
 match He (h.get b)with
 |some m=>bif Nat.beq m.2 e then some (.val (.anyStr 1048576) (h.set b none))else none
 |none=>A6 (bytesOf (h.get b)) fun m=>AdB h b m e
def Yu (h:Al) (e:Nat) (p n:Ab):Option GL:=
 match p,n with
 |.nilPtr,.int .i64 (.lit (.ofNat 0))=>some (.val (.str []) h)
 |.ptr b 0,.glen c=>bif Nat.beq b c then AdA h b e else none
 |_,_=>none
def Uu (h:Al) (x:Ab):Option GL:=some (.val x h)
def WH (h:Al) (size b q m:Nat) (src:List Ab):Option (Ab×Al):=
 bif Nat.beq m 0 then some (lit .i64 (.ofNat 0),h)
 else A6 (cellsOf (h.get b)) fun vs=>A6 (taken (m*size) src) fun r=>A6 (splice r q vs) fun j=>some (lit .i64 (.ofNat m),h.set b (some (.cells j)))
def Ab8 (h:Al) (size:Nat) (x:Ab) (n:Nat) (src:List Ab):Option (Ab×Al):=
 match x with
 |.nilSlice=>some (lit .i64 (.ofNat 0),h)
 |.slice b off len _=>WH h size b off (bif Nat.ble n len then n else len) src
 |.gslice b off len _=>WH h size b off (bif Nat.ble n len then n else len) src
 |_=>none
def Ae0 (kk:LK) (k v:Ab) (j:Nat) (q:List Entry):Option (List Entry×Bool):=
 List.rec (motive:=fun _=>Option (List Entry×Bool)) (some ([⟨k,v,j⟩],true))
  (fun e q ih=>A6 (OV kk k e.key) fun b=>bif b then some (⟨k,v,e.born⟩::q,false)else A6 ih fun r=>some (e::r.1,r.2)) q
def AaY (h:Al) (b i:Nat) (k v:Ab):Option Al:=
 match v with
 |.agg cs=>bif Rv cs then A6 (Aba i k (CF cs) h.fx.Ls) fun j=>some (h.set b (some (.smap j)))else none
 |_=>none
def AaZ (h:Al) (kk:LK) (b:Nat) (k v:Ab):Option Al:=
 match I5 (h.get b)with
 |some i=>bif P7 kk k then AaY h b i k v else none
 |none=>A6 (mapOf (h.get b)) fun m=>bif k.single then A6 (Ae0 kk k v m.2 m.1) fun r=>
   some (h.set b (some (.map r.1 (bif r.2 then m.2+1 else m.2))))else none
def Ux (h:Al) (kk:LK) (m k v:Ab):Option Al:=
 match m with
 |.map b=>AaZ h kk b k v
 |_=>none
def N2 (f:Ab) (args:List Ab):Option (FuncId×List Ab):=
 match f with
 |.func g first cap=>some (g,first++(args++cap))
 |_=>none
def AbC (h:Al) (t:TypeId) (b:Nat):Option GL:=
 match I5 (h.get b)with
 |some i=>some (.val (.iface t (.map h.next)) (h.add (.smap i)))
 |none=>A6 (mapOf (h.get b)) fun m=>some (.val (.iface t (.map h.next)) (h.add (.map m.1 m.2)))
def Vj (h:Al) (x:Ab):Option GL:=
 match x with
 |.iface t (.map b)=>AbC h t b
 |_=>none
def Un (x:Ab):Option GL:=
 match x with
 |.iface t v=>some (.panic (.iface t v))
 |_=>none
def Km (tm:Tr Ab) (h:Al) (o:MOp):Option GL:=
 match o with
 |.store n a x=>A6 (T5 h n (ev tm a) (ev tm x)) fun j=>some (.val .any j)
 |.call f args=>A6 (N2 (ev tm f) (RG tm args)) fun r=>some (.call r.1 r.2)
 |.append size u8 bytes x y=>A6 (Tl h size u8 bytes (ev tm x) (ev tm y)) fun r=>some (.val r.1 r.2)
 |.copy size bytes x y=>A6 (Jh h size bytes (ev tm y)) fun s=>A6 (Ab8 h size (ev tm x) s.1 s.2) fun r=>some (.val r.1 r.2)
 |.mapUp kk m k v=>A6 (Ux h kk (ev tm m) (ev tm k) (ev tm v)) fun j=>some (.val .any j)
 |.clone x=>Vj h (ev tm x)
 |.panic x=>Un (ev tm x)
 |.defer f args=>A6 (N2 (ev tm f) (RG tm args)) fun r=>some (.defer r.1 r.2)
 |.recover=>none
 |.Aez e p n=>Yu h e (ev tm p) (ev tm n)
 |.AaR x=>Uu h (ev tm x)
structure By where
 args:List Ab
 pre:List Block
 res:Ab
 post:List (Option Block)
def Aej (v:Ab):Option Nat:=
 match v with
 |.ptr b _=>some b
 |.slice b _ _ _=>some b
 |.gslice b _ _ _=>some b
 |.map b=>some b
 |.vec b _ _=>some b
 |.vptr b _ _ _=>some b
 |.gbytes b=>some b
 |_=>none
def W8 (v:Ab):List Ab:=
 match v with
 |.agg cs=>cs
 |v=>[v]
def AoA (p a:Ab) (σ:List Nat):List Nat:=
 match Aej p,Aej a with
 |some i,some j=>bif Nat.ble (Ii σ) i then σ++[j]else σ
 |_,_=>σ
def Adw (h:Al) (b:Option Nat):List Ab:=
 match b with
 |some b=>(match h.get b with|some (.cells us)=>us|some (.typed _ us)=>us|_=>[])
 |none=>[]
def Ahg (B:Block):List Ab:=
 match B with
 |.cells vs=>vs
 |.typed _ vs=>vs
 |_=>[]
def Aa7 (σ:List Nat) (v:Ab):Option Ab:=
 match v with
 |.ptr b o=>A6 (BY σ b) fun c=>some (.ptr c o)
 |.slice b o l c=>A6 (BY σ b) fun d=>some (.slice d o l c)
 |.gslice b o l e=>A6 (BY σ b) fun d=>some (.gslice d o l e)
 |.map b=>A6 (BY σ b) fun d=>some (.map d)
 |.vec b e n=>A6 (BY σ b) fun d=>some (.vec d e n)
 |.vptr b e j o=>A6 (BY σ b) fun d=>some (.vptr d e j o)
 |.anyStr n=>some (.anyStr n)
 |.gbytes b=>A6 (BY σ b) fun d=>some (.gbytes d)
 |.bool b=>some (.bool b)
 |.int k n=>some (.int k n)
 |.str s=>some (.str s)
 |.svar i=>some (.svar i)
 |.lst f i e n=>some (.lst f i e n)
 |.lptr i j o=>some (.lptr i j o)
 |.nilPtr=>some .nilPtr
 |.nilSlice=>some .nilSlice
 |.nilMap=>some .nilMap
 |.nilFunc=>some .nilFunc
 |.nilIface=>some .nilIface
 |_=>none
def Wj (σ:List Nat) (l:List Ab):Option (List Ab):=
 List.rec (motive:=fun _=>Option (List Ab)) (some []) (fun v _ ih=>A6 (Aa7 σ v) fun u=>A6 ih fun us=>some (u::us)) l
def Js (σ:List Nat) (v:Ab):Option Ab:=
 match v with
 |.func f a c=>A6 (Wj σ a) fun a=>A6 (Wj σ c) fun c=>some (.func f a c)
 |v=>Aa7 σ v
def Ab6 (Γ:Ao) (j:Nat):Bool:=
 match EB j Γ.Br with
 |some (.lit (.ofNat 0))=>true
 |_=>false
def Abk (a:Ab):Bool:=
 match a with
 |.nilSlice=>true
 |_=>false
def H6 (Γ:Ao) (σ:List Nat) (p a:Ab):Bool:=
 match Js σ p with
 |some v=>v.eq a||v.eq (loose a) ||(match v with|.lst false j _ n=>Abk a&&(Ab6 Γ j&&n.eq (.lit (.ofNat 0))) |_=>false)
 |none=>false
def Ac5 (ps:List Ab):List Ab->List Nat->List Nat:=
 List.rec (motive:=fun _=>List Ab->List Nat->List Nat) (fun _ σ=>σ) (fun p _ ih as σ=>List.casesOn (motive:=fun _=>List Nat) as σ (fun a as=>ih as (AoA p a σ))) ps
def V5 (ps:List Ab):List Ab->List Nat->List Nat:=
 List.rec (motive:=fun _=>List Ab->List Nat->List Nat) (fun _ σ=>σ) (fun p _ ih as σ=>List.casesOn (motive:=fun _=>List Nat) as σ (fun a as=>ih as (Ac5 (W8 p) (W8 a) σ))) ps
def RH (h:Al) (l:List Block):Nat->List Nat->List Nat:=
 List.rec (motive:=fun _=>Nat->List Nat->List Nat) (fun _ σ=>σ) (fun B _ ih i σ=>ih (i+1) (Ac5 (Ahg B) (Adw h (BY σ i)) σ)) l
def Gq (Γ:Ao) (σ:List Nat) (ps:List Ab):List Ab->Bool:=
 List.rec (motive:=fun _=>List Ab->Bool) (fun as=>List.casesOn (motive:=fun _=>Bool) as true (fun _ _=>false))
  (fun p _ ih as=>List.casesOn (motive:=fun _=>Bool) as false (fun a as=>H6 Γ σ p a&&ih as)) ps
def AaV (n:Nat) (l:List Nat):Bool:=List.rec (motive:=fun _=>Bool) false (fun m _ ih=>Nat.beq m n||ih) l
def I8 (l:List Nat):Bool:=List.rec (motive:=fun _=>Bool) true (fun n r ih=>!(AaV n r)&&ih) l
def Gy (l:List Block):Nat:=List.rec (motive:=fun _=>Nat) 0 (fun _ _ ih=>ih+1) l
def Mx (σ:List Nat) (l:List Ab):Option (List Ab):=
 List.rec (motive:=fun _=>Option (List Ab)) (some []) (fun v _ ih=>A6 (Js σ v) fun u=>A6 ih fun us=>some (u::us)) l
def Ahb (l:List Entry):List (Ab×List Ab)->Bool:=
 List.rec (motive:=fun _=>List (Ab×List Ab)->Bool) (fun y=>List.casesOn (motive:=fun _=>Bool) y true (fun _ _=>false))
  (fun e _ ih y=>List.casesOn (motive:=fun _=>Bool) y false (fun x y=>e.key.eq x.1&&((match e.val with|.agg cs=>Rv cs&&Ab.Pk (CF cs) x.2|_=>false)&&ih y))) l
def U1 (i:Nat) (l:List (Nat×List (Ab×List Ab))):Option (List (Ab×List Ab)):=
 List.rec (motive:=fun _=>Option (List (Ab×List Ab))) none (fun e _ ih=>bif Nat.beq e.1 i then some e.2 else ih) l
def AaE (i j:Nat) (l:List (Nat×List AE)):Bool:=
 List.rec (motive:=fun _=>Bool) false (fun e _ ih=>(Nat.beq e.1 i&&(match e.2 with|[.take k _]=>Nat.beq k j|_=>false)) ||ih) l
def Nq (Γ:Ao) (σ:List Nat) (p a:Ab):Bool:=
 match p,a with
 |.agg ps,.agg as=>Gq Γ σ ps as
 |p,a=>H6 Γ σ p a
def Ri (Γ:Ao) (σ:List Nat) (ps:List Entry):List Entry->Bool:=
 List.rec (motive:=fun _=>List Entry->Bool) (fun as=>List.casesOn (motive:=fun _=>Bool) as true (fun _ _=>false))
  (fun p _ ih as=>List.casesOn (motive:=fun _=>Bool) as false (fun a as=>H6 Γ σ p.key a.key&&(H6 Γ σ p.val a.val&&(Nat.beq p.born a.born&&ih as)))) ps
def Np (Γ:Ao) (σ:List Nat) (B A:Block):Bool:=
 match B,A with
 |.cells ps,.cells as=>Gq Γ σ ps as
 |.typed e ps,.typed e' as=>Nat.beq e e'&&Gq Γ σ ps as
 |.list i es,.list j es'=>(Nat.beq i j||AaE i j Γ.defs)&&Nat.beq es es'
 |.smap i,.smap j=>Nat.beq i j
 |.map ps c,.map as d=>Nat.beq c d&&Ri Γ σ ps as
 |.smap i,.map es _=>Dh (A6 (U1 i Γ.C5) fun l=>some (Ahb es l))
 |.sbytes t e,.sbytes t' e'=>t.eq t'&&Nat.beq e e'
 |.sbytes t e,.bytes n e'=>t.eq (.lit (.ofNat n))&&Nat.beq e e'
 |.bytes n e,.bytes n' e'=>Nat.beq n n'&&Nat.beq e e'
 |_,_=>false
def eqB (Γ:Ao) (h:Al) (σ:List Nat) (i:Nat) (B:Block):Bool:=
 match BY σ i with
 |some b=>(match h.get b with|some A=>Np Γ σ B A|none=>false)
 |none=>false
def AcO (σ:List Nat) (v:Ab):Option Ab:=
 match v with
 |.agg cs=>A6 (Mx σ cs) fun cs=>some (.agg cs)
 |v=>Js σ v
def Aa4 (σ:List Nat) (l:List Ab):Option (List Ab):=
 List.rec (motive:=fun _=>Option (List Ab)) (some []) (fun v _ ih=>A6 (AcO σ v) fun u=>A6 ih fun us=>some (u::us)) l
def Uj (σ:List Nat) (v:Ab):Option Ab:=
 match v with
 |.agg cs=>A6 (Mx σ cs) fun cs=>some (.agg cs)
 |.tuple cs=>A6 (Aa4 σ cs) fun cs=>some (.tuple cs)
 |v=>Js σ v
def Aa5 (σ:List Nat) (l:List Entry):Option (List Entry):=
 List.rec (motive:=fun _=>Option (List Entry)) (some []) (fun e _ ih=>A6 (Js σ e.key) fun k=>A6 (Js σ e.val) fun v=>A6 ih fun j=>some (⟨k,v,e.born⟩::j)) l
def Xp (σ:List Nat) (B:Block):Option Block:=
 match B with
 |.cells vs=>A6 (Mx σ vs) fun vs=>some (.cells vs)
 |.typed e vs=>A6 (Mx σ vs) fun vs=>some (.typed e vs)
 |.list i j=>some (.list i j)
 |.smap i=>some (.smap i)
 |.sbytes t e=>some (.sbytes t e)
 |.bytes n e=>some (.bytes n e)
 |.map j c=>A6 (Aa5 σ j) fun j=>some (.map j c)
def AcR (σ:List Nat) (i:Nat) (B:Option Block) (h:Al):Option Al:=
 A6 (BY σ i) fun b=>match B with
  |some B=>A6 (Xp σ B) fun B=>some (h.set b (some B))
  |none=>some (h.set b none)
def K6 (Γ:Ao) (σ:List Nat) (ps:List Ab):List Ab->Bool:=
 List.rec (motive:=fun _=>List Ab->Bool) (fun as=>List.casesOn (motive:=fun _=>Bool) as true (fun _ _=>false))
  (fun p _ ih as=>List.casesOn (motive:=fun _=>Bool) as false (fun a as=>Nq Γ σ p a&&ih as)) ps
def XK (Γ:Ao) (h:Al) (σ:List Nat) (l:List Block):Nat->Bool:=
 List.rec (motive:=fun _=>Nat->Bool) (fun _=>true) (fun B _ ih i=>eqB Γ h σ i B&&ih (i+1)) l
def AS (l:List Block):Al->Al:=
 List.rec (motive:=fun _=>Al->Al) (fun h=>h) (fun B _ ih h=>ih (h.add B)) l
def Ct (l:List (Option Block)):Al->Al:=
 List.rec (motive:=fun _=>Al->Al) (fun h=>h) (fun B _ ih h=>ih ⟨Tr.set h.DE h.next B,h.next+1,h.fx⟩) l
def OH (σ:List Nat) (l:List (Option Block)):Nat->Al->Option Al:=
 List.rec (motive:=fun _=>Nat->Al->Option Al) (fun _ h=>some h) (fun B _ ih i h=>A6 (AcR σ i B h) fun j=>ih (i+1) j) l
def KX (l:List (Option Block)):Nat->Nat->List Nat:=
 List.rec (motive:=fun _=>Nat->Nat->List Nat) (fun _ _=>[]) (fun _ _ ih k n=>Nat.casesOn (motive:=fun _=>List Nat) k (n::ih 0 (n+1)) (fun k=>ih k n)) l
def Sy (l:List (Option Block)):Nat:=List.rec (motive:=fun _=>Nat) 0 (fun _ _ ih=>ih+1) l
def AdV (x:By) (args:List Ab) (h:Al) (σ:List Nat):Bool:=
 Nat.beq (Ii σ) (Gy x.pre)&&(Nat.ble (Gy x.pre) (Sy x.post)&&(I8 σ&&(K6 h.fx σ x.args args&&XK h.fx h σ x.pre 0)))
inductive NK where
 |ret (v:Ab)
 |panic (v:Ab)
abbrev Cm:=FuncId->List Ab->Al->Option (NK×Al)
structure Fr where
 tm:Tr Ab
 h:Al
 df:List (FuncId×List Ab)
def DK (tm:Tr Ab) (d:Option Nat) (v:Ab):Tr Ab:=
 match d with
 |some d=>Tr.set tm d (some v)
 |none=>tm
def Iz:Ab:=.tuple []
def V6 (j:Bool) (v:Option Ab):Option Bool:=
 match v with
 |some (.bool (.lit b))=>some (beq j b)
 |some (.tuple [])=>some false
 |_=>none
def CY (tm:Tr Ab) (g:Option (Nat×Bool)):Option Bool:=
 match g with
 |none=>some true
 |some g=>V6 g.2 (Tr.get tm g.1)
inductive Cb where
 |go (f:Fr)
 |panic (v:Ab) (f:Fr)
def XA (f:Fr) (d:Option Nat) (v:Ab):Cb:=.go ⟨DK f.tm d v,f.h,f.df⟩
def Kz (f:Fr) (d:Option Nat) (v:Ab) (h:Al):Cb:=.go ⟨DK f.tm d v,h,f.df⟩
def Adx (f:Fr) (d:Option Nat) (r:NK) (h:Al):Cb:=
 match r with
 |.ret v=>Kz f d v h
 |.panic v=>.panic v ⟨f.tm,h,f.df⟩
def AgJ (call:Cm) (f:Fr) (d:Option Nat) (r:GL):Option Cb:=
 match r with
 |.val v h=>some (Kz f d v h)
 |.call g args=>A6 (call g args f.h) fun r=>some (Adx f d r.1 r.2)
 |.panic v=>some (.panic v f)
 |.defer g args=>some (.go ⟨DK f.tm d .any,f.h,(g,args)::f.df⟩)
def Wg (Γ:Ao) (call:Cm) (d:Option Nat) (f:Fr) (o:DD):Option Cb:=
 match o with
 |.p o=>A6 (Is Γ f.tm o) fun v=>some (XA f d v)
 |.r o=>A6 (Dm Γ f.tm f.h o) fun v=>some (XA f d v)
 |.a o=>A6 (X1 f.tm f.h.next o) fun r=>some (Kz f d r.2 (f.h.add r.1))
 |.m o=>A6 (Km f.tm f.h o) fun r=>AgJ call f d r
def Ip (Γ:Ao) (call:Cm) (s:Step) (f:Fr):Option Cb:=
 A6 (CY f.tm s.guard) fun w=>bif w then Wg Γ call s.dst f s.op else some (XA f s.dst Iz)
def goes (r:Cb) (k:Fr->Option Cb):Option Cb:=
 match r with
 |.go f=>k f
 |.panic v f=>some (.panic v f)
def Ud (Γ:Ao) (call:Cm) (l:List Step):Fr->Option Cb:=
 List.rec (motive:=fun _=>Fr->Option Cb) (fun f=>some (.go f)) (fun s _ ih f=>A6 (Ip Γ call s f) fun x=>goes x ih) l
def Ab.eqs (x y:Ab):Bool:=
 match x,y with
 |.agg a,.agg b=>Ab.Pk a b
 |.tuple a,.tuple b=>Ab.Pk a b
 |x,y=>x.eq y
def Aay (v:Ab) (o:Option Ab):Bool:=
 match o with
 |some u=>v.eqs u
 |none=>false
def Vv (Γ:Ao) (tm:Tr Ab) (o:NO) (v:Ab) (n:Nat):List Al->Bool:=
 Nat.rec (motive:=fun _=>List Al->Bool) (fun _=>true)
  (fun _ ih hs=>List.casesOn (motive:=fun _=>Bool) hs false (fun h hs=>Aay v (Dm Γ tm h o)&&ih hs)) n
def forget (l:List Step):Tr Ab->Tr Ab:=
 List.rec (motive:=fun _=>Tr Ab->Tr Ab) (fun t=>t) (fun s _ ih t=>ih (match s.dst with|some d=>Tr.set t d none|none=>t)) l
def BK (o:DD):Bool:=
 match o with
 |.m _=>true
 |_=>false
def VE (Γ:Ao) (f:Fr) (o:NO) (back:Nat) (hs:List Al) (w:Option Bool):Bool:=
 match w with
 |some true=>(match Dm Γ f.tm f.h o with
  |some v=>Vv Γ f.tm o v back hs
  |none=>false)
 |some false=>true
 |none=>false
def L3 (Γ:Ao) (s:Step) (f:Fr) (hs:List Al):Bool:=
 match s.op,s.back with
 |.r o,n+1=>VE Γ f o (n+1) hs (CY f.tm s.guard)
 |_,_=>true
def UR (Γ:Ao) (tm:Tr Ab) (h:Al) (id:Nat) (o:DD):Option (Ab×Option Block):=
 match o with
 |.p o=>A6 (Is Γ tm o) fun v=>some (v,none)
 |.r o=>A6 (Dm Γ tm h o) fun v=>some (v,none)
 |.a o=>A6 (X1 tm id o) fun r=>some (r.2,some r.1)
 |.m _=>none
def Ht (Γ:Ao) (tm:Tr Ab) (h:Al) (id:Nat) (s:Step):Option (Ab×Option Block):=
 A6 (CY tm s.guard) fun w=>bif w then UR Γ tm h id s.op else some (Iz,none)
def Ge (h:Al) (id:Nat) (b:Option Block):Al:=
 match b with
 |some B=>⟨Tr.set h.DE id (some B),h.next,h.fx⟩
 |none=>h
def Adl (f:Fr) (d:Option Nat) (id:Nat) (r:Ab×Option Block):Cb:=.go ⟨DK f.tm d r.1,Ge f.h id r.2,f.df⟩
def Io (Γ:Ao) (call:Cm) (s:Step) (id:Nat) (f:Fr):Option Cb:=
 bif BK s.op then Ip Γ call s f else A6 (Ht Γ f.tm f.h id s) fun r=>some (Adl f s.dst id r)
def KA (l:List Step):Nat->Bool:=
 List.rec (motive:=fun _=>Nat->Bool) (fun _=>true) (fun s _ ih k=>bif BK s.op then ih (k+1)else Nat.ble s.back k&&ih k) l
def SD (all rest:List Step) (r:Cb) (k:Fr->Option Cb):Option Cb:=
 match r with
 |.go f=>k f
 |.panic v f=>bif KA rest 0 then some (.panic v ⟨forget all f.tm,f.h,f.df⟩)else none
def Al5 (id:Nat) (B:Block) (l:List Al):List Al:=
 List.rec (motive:=fun _=>List Al) [] (fun h _ ih=>⟨Tr.set h.DE id (some B),h.next,h.fx⟩::ih) l
def KY (h j:Al) (id:Nat):Option Block:=
 match h.get id with
 |none=>j.get id
 |some _=>none
def Mq (id:Nat) (B:Option Block) (hs:List Al):List Al:=
 match B with
 |some B=>Al5 id B hs
 |none=>hs
def Lg (Γ:Ao) (call:Cm) (all l:List Step):Nat->Fr->List Al->Option Cb:=
 List.rec (motive:=fun _=>Nat->Fr->List Al->Option Cb) (fun _ f _=>some (.go f))
  (fun s r ih id f hs=>bif L3 Γ s f hs then A6 (Io Γ call s id f) fun x=>SD all r x fun j=>ih (id+1) j (bif BK s.op then f.h::hs else Mq id (KY f.h j.h id) hs)else none) l
def BQ (l:List Step):Nat:=List.rec (motive:=fun _=>Nat) 0 (fun _ _ ih=>ih+1) l
def Hg (n:Nat) (f:Fr):Fr:=⟨f.tm,⟨f.h.DE,f.h.next+n,f.h.fx⟩,f.df⟩
inductive AX where
 |normal
 |exit (id:Nat)
 |ret
 |panic (v:Ab)
def F5 (r:Cb):AX×Fr:=
 match r with
 |.go f=>(.normal,f)
 |.panic v f=>(.panic v,f)
def AgY (b q len x j:Nat) (v:Ab):Ab:=
 match v with
 |.agg cs=>.agg (Lx b q len x j cs)
 |.tuple cs=>.tuple (Lx b q len x j cs)
 |v=>UO b q len x j v
def Akl (b q len v j:Nat) (B:Block):Block:=
 match B with
 |.cells vs=>.cells (Lx b q len v j vs)
 |.typed e vs=>.typed e (Lx b q len v j vs)
 |B=>B
def QV (b i j:Nat) (t:ST) (v:Ab):Ab:=
 match v with
 |.vec b' es' n=>bif Nat.beq b b'&&(Nat.beq j es'&&n.eq t)then .lst false i j t else v
 |v=>v
def Hq (b i j:Nat) (t:ST) (l:List Ab):List Ab:=
 List.rec (motive:=fun _=>List Ab) [] (fun v _ ih=>QV b i j t v::ih) l
def AdU (b i j:Nat) (t:ST) (v:Ab):Ab:=
 match v with
 |.agg cs=>.agg (Hq b i j t cs)
 |.tuple cs=>.tuple (Hq b i j t cs)
 |v=>QV b i j t v
def Akk (b i j:Nat) (t:ST) (B:Block):Block:=
 match B with
 |.cells vs=>.cells (Hq b i j t vs)
 |.typed e vs=>.typed e (Hq b i j t vs)
 |B=>B
def QX (Γ:Ao) (z:Nat×Nat×Nat×Nat×Nat) (f:Fr):Fr:=
 match f.h.get z.1 with
 |some (.cells vs)=>bif Pa Γ z.2.1 z.2.2.1 z.2.2.2.1 z.2.2.2.2 vs then
   ⟨Tr.map (AgY z.1 z.2.1 z.2.2.1 z.2.2.2.1 z.2.2.2.2) f.tm,⟨Tr.map (Akl z.1 z.2.1 z.2.2.1 z.2.2.2.1 z.2.2.2.2) (Tr.set f.h.DE z.1 none),f.h.next,f.h.fx⟩,f.df⟩else f
 |some (.list i es)=>bif Nat.beq i z.2.2.2.2 then (match EB i Γ.Br with
  |some t=>⟨Tr.map (AdU z.1 i es t) f.tm,⟨Tr.map (Akk z.1 i es t) (Tr.set f.h.DE z.1 none),f.h.next,f.h.fx⟩,f.df⟩
  |none=>f)else f
 |_=>f
def UP (Γ:Ao) (l:List (Nat×Nat×Nat×Nat×Nat)):Fr->Fr:=
 List.rec (motive:=fun _=>Fr->Fr) (fun f=>f) (fun z _ ih f=>ih (QX Γ z f)) l
def Qm (Γ:Ao) (r:AX×Fr):AX×Fr:=
 match r.1,Γ.Oh with
 |.normal,z::l=>(.normal,UP Γ (z::l) r.2)
 |_,_=>r
def Qr (Γ:Ao) (call:Cm) (q:Bool) (j:List Step) (f:Fr):Option (AX×Fr):=
 A6 (bif q then Lg Γ call j j f.h.next (Hg (BQ j) f) []else Ud Γ call j f) fun r=>some (Qm Γ (F5 r))
def andThen (r:AX×Fr) (k:Fr->Option (AX×Fr)):Option (AX×Fr):=
 match r.1 with
 |.normal=>k r.2
 |_=>some r
def AbA (v:Ab) (t e:Option (AX×Fr)):Option (AX×Fr):=
 match v with
 |.bool (.lit b)=>bif b then t else e
 |_=>none
def Gk (id:Nat) (r:AX×Fr):AX×Fr:=
 match r.1 with
 |.exit i=>(bif Nat.beq i id then .normal else .exit i,r.2)
 |_=>r
def T0 (tm:Tr Ab) (l:List (Nat×Ab)):List Nat->List Nat:=
 List.rec (motive:=fun _=>List Nat->List Nat) (fun σ=>σ) (fun p _ ih σ=>ih (Ac5 (W8 p.2) (W8 (Ep (Tr.get tm p.1))) σ)) l
def WA (Γ:Ao) (σ:List Nat) (tm:Tr Ab) (l:List (Nat×Ab)):Bool:=
 List.rec (motive:=fun _=>Bool) true (fun p _ ih=>Nq Γ σ p.2 (Ep (Tr.get tm p.1))&&ih) l
def Ui (σ:List Nat) (l:List (Nat×Ab)):Tr Ab->Option (Tr Ab):=
 List.rec (motive:=fun _=>Tr Ab->Option (Tr Ab)) (fun t=>some t) (fun p _ ih t=>A6 (Uj σ p.2) fun v=>ih (Tr.set t p.1 (some v))) l
def O0 (l:List (Nat×Ab)):Tr Ab->Tr Ab:=
 List.rec (motive:=fun _=>Tr Ab->Tr Ab) (fun t=>t) (fun p _ ih t=>ih (Tr.set t p.1 (some p.2))) l
def Adn (Γ:Ao) (σ:List Nat) (p a:List (FuncId×List Ab)):Bool:=
 match p,a with
 |[],[]=>true
 |[p],[a]=>Nat.beq p.1 a.1&&K6 Γ σ p.2 a.2
 |_,_=>false
def Yo (p a:List (FuncId×List Ab)) (σ:List Nat):List Nat:=
 match p,a with
 |[p],[a]=>Ac5 p.2 a.2 σ
 |_,_=>σ
def Aa6 (σ:List Nat) (p:List (FuncId×List Ab)):Option (List (FuncId×List Ab)):=
 match p with
 |[]=>some []
 |[p]=>A6 (Mx σ p.2) fun l=>some [(p.1,l)]
 |_=>none
def AdW (Γ:Ao) (k:B5) (f:Fr) (σ:List Nat):Bool:=
 Adn Γ σ k.df f.df&&(Nat.beq (Ii σ) (Gy k.pre)&&(Nat.ble (Gy k.pre) (Sy k.post)&&(I8 σ&&(WA Γ σ f.tm k.Xe&&XK Γ f.h σ k.pre 0))))
def B5.Nf (k:B5):AX:=bif k.out then .ret else .exit k.id
def AbN (k:B5) (h:Al) (σ:List Nat):Option (AX×Fr):=
 A6 (OH σ k.post 0 ⟨h.DE,h.next+(Sy k.post-Gy k.pre),h.fx⟩) fun j=>A6 (Ui σ k.NR .nil) fun tm=>A6 (Aa6 σ k.df) fun df=>some (k.Nf,⟨tm,j,df⟩)
def L6 (Γ:Ao) (k:B5) (f:Fr):Option (AX×Fr):=
 bif AdW Γ k f (RH f.h k.pre 0 (Yo k.df f.df (T0 f.tm k.Xe [])))then AbN k f.h (RH f.h k.pre 0 (Yo k.df f.df (T0 f.tm k.Xe []))++KX k.post (Gy k.pre) f.h.next)else none
def It (Γ:Ao) (cur:Nat) (f:Fr) (l:List B5):Option (AX×Fr):=
 List.rec (motive:=fun _=>Option (AX×Fr)) none (fun k _ ih=>bif Nat.beq k.id cur then (match L6 Γ k f with|some x=>some x|none=>ih)else ih) l
def iter (o body:Fr->Option (AX×Fr)) (n:Nat):Fr->Option (AX×Fr):=
 Nat.rec (motive:=fun _=>Fr->Option (AX×Fr)) (fun _=>none) (fun _ ih f=>match o f with
  |some r=>some r
  |none=>A6 (body f) fun r=>andThen r ih) n
def Fp (Γ:Ao) (call:Cm) (fuel:Nat) (c:IC):Nat->Fr->Option (AX×Fr):=
 IC.rec (motive:=fun _=>Nat->Fr->Option (AX×Fr))
  (fun _ f=>some (.normal,f))
  (fun d j _ f=>Qr Γ call d j f)
  (fun _ _ a b k f=>A6 (a k f) fun r=>andThen r fun q=>b k q)
  (fun c _ _ t e k f=>AbA (ev f.tm c) (t k f) (e k f))
  (fun id _ b _ f=>A6 (b id f) fun r=>some (Gk id r))
  (fun _ b k f=>iter (fun f=>It Γ k f Γ.loops) (fun f=>b k f) fuel f)
  (fun id _ f=>some (.exit id,f))
  (fun _ f=>some (.ret,f)) c
def NC (l:List Ab):Nat->Tr Ab->Tr Ab:=
 List.rec (motive:=fun _=>Nat->Tr Ab->Tr Ab) (fun _ t=>t) (fun v _ ih i t=>ih (i+1) (Tr.set t i (some v))) l
def exec (Γ:Ao) (call:Cm) (fuel:Nat) (c:IC) (f:Fr):Option (AX×Fr):=Fp Γ call fuel c 0 f
def Qp (tm:Tr Ab) (h:Al) (r:RE):Option Ab:=
 match r with
 |.tmp t=>some (Ep (Tr.get tm t))
 |.cell t n=>MI h.fx h n (Ep (Tr.get tm t))
def Aa1 (tm:Tr Ab) (h:Al) (l:List RE):Option (List Ab):=
 List.rec (motive:=fun _=>Option (List Ab)) (some []) (fun x _ ih=>A6 (Qp tm h x) fun v=>A6 ih fun vs=>some (v::vs)) l
def oneOf (vs:List Ab):Ab:=
 match vs with
 |[v]=>v
 |vs=>.tuple vs
inductive C9 where
 |returning
 |panicking (v:Ab)
abbrev RF:=FuncId->List Ab->C9->Al->Option (C9×Al)
def QC (j:RF) (l:List (FuncId×List Ab)):C9->Al->Option (C9×Al):=
 List.rec (motive:=fun _=>C9->Al->Option (C9×Al)) (fun m h=>some (m,h)) (fun d _ ih m h=>A6 (j d.1 d.2 m h) fun r=>ih r.1 r.2) l
def AdP (F:Ex) (tm:Tr Ab) (r:C9×Al):Option (NK×Al):=
 match r.1 with
 |.returning=>A6 (Aa1 tm r.2 F.results) fun vs=>some (.ret (oneOf vs),r.2)
 |.panicking v=>some (.panic v,r.2)
def Q6 (e:AX):Option C9:=
 match e with
 |.normal=>some .returning
 |.ret=>some .returning
 |.panic v=>some (.panicking v)
 |.exit _=>none
def GW (F:Ex) (args:List Ab) (h:Al):Fr:=⟨NC args 0 (Tr.full Ab F.depth),h,[]⟩
def Pu (Γ:Ao) (call:Cm) (j:RF) (fuel:Nat) (F:Ex) (args:List Ab) (h:Al):Option (NK×Al):=
 A6 (exec Γ call fuel F.body (GW F args h)) fun r=>A6 (Q6 r.1) fun m=>A6 (QC j r.2.df m r.2.h) fun x=>AdP F r.2.tm x
def FR (m:C9) (r:AX×Fr):Option (C9×Al):=
 match r.1,r.2.df with
 |.normal,[]=>some (m,r.2.h)
 |.ret,[]=>some (m,r.2.h)
 |_,_=>none
def recovered (m:C9):Ab:=
 match m with
 |.panicking v=>v
 |.returning=>.nilIface
def K9 (Γ:Ao) (call:Cm) (fuel:Nat) (F:Ex) (args:List Ab) (m:C9) (h:Al):Option (C9×Al):=
 match F.body,F.results with
 |.seq (.region false (⟨dst,none,.m .recover,_⟩::steps)) rest,[]=>
  A6 (Ud Γ call steps ⟨DK (GW F args h).tm dst (recovered m),h,[]⟩) fun r=>A6 (andThen (F5 r) fun f=>exec Γ call fuel rest f) fun r=>FR .returning r
 |body,[]=>A6 (exec Γ call fuel body (GW F args h)) fun r=>FR m r
 |_,_=>none
abbrev Bg:=List Ab->Al->Option (NK×Al)
def Q0 (o:Option Bg) (args:List Ab) (h:Al) (k:Unit->Option (NK×Al)):Option (NK×Al):=
 match o with
 |some f=>(match f args h with|some r=>some r|none=>k ())
 |none=>k ()
def Ll (Γ:Ao) (j:FuncId->Option Bg) (DE:FuncId->Option Ex) (fuel d:Nat):Cm:=
 Nat.rec (motive:=fun _=>Cm) (fun _ _ _=>none)
  (fun _ ih f args h=>Q0 (j f) args h (fun _=>A6 (DE f) fun F=>Pu Γ ih (fun f args m h=>A6 (DE f) fun F=>K9 Γ ih fuel F args m h) fuel F args h)) d
def Ao.bare (Γ:Ao):Ao:={Γ with loops:=[]}
def Ae3 (Γ:Ao) (j:FuncId->Option Bg) (DE:FuncId->Option Ex) (fuel d:Nat):Cm:=fun f args h=>
 A6 (DE f) fun F=>Pu Γ (Ll Γ.bare j DE fuel d) (fun f args m h=>A6 (DE f) fun F=>K9 Γ.bare (Ll Γ.bare j DE fuel d) fuel F args m h) fuel F args h
def inK (k:IntKind) (t:ST):Bool:=
 match t with
 |.lit n=>bif HT k then ile (.negSucc (modulus k/2-1)) n&&ile n (.ofNat (modulus k/2-1))else ile (.ofNat 0) n&&ile n (.ofNat (modulus k-1))
 |_=>false
def Wx (Γ:Ao) (t:ST):Bool:=
 match t with
 |.lit n=>inK .i64 (.lit n)
 |.conv k _=>U8 k .i64
 |.bin .add k _ _=>U8 k .i64
 |t=>Dh (BS Γ.tests .geq t (.lit (.negSucc 9223372036854775807)))&&Dh (BS Γ.tests .leq t (.lit (.ofNat 9223372036854775807)))
def MM (Γ:Ao):Bg:=fun args h=>
 match args with
 |[.int .i64 n,.int .i64 (.lit (.ofNat 10))]=>bif Wx Γ n then some (.ret (.anyStr 21),h)else none
 |_=>none
def MN (Γ:Ao):Bg:=fun args h=>
 match args with
 |[.int .i64 n]=>bif Wx Γ n then some (.ret (.anyStr 21),h)else none
 |_=>none
def Sv (f:Nat) (l:List (Nat×Bg)):Option Bg:=
 List.rec (motive:=fun _=>Option Bg) none (fun x _ ih=>bif Nat.beq x.1 f then some x.2 else ih) l
def AbO (x:By) (h:Al) (σ:List Nat):Option (NK×Al):=
 A6 (OH σ x.post 0 ⟨h.DE,h.next+(Sy x.post-Gy x.pre),h.fx⟩) fun j=>A6 (Uj σ x.res) fun v=>some (.ret v,j)
def Rq (x:By):Bg:=fun args h=>
 let σ:=RH h x.pre 0 (V5 x.args args [])
 bif AdV x args h σ then AbO x h (σ++KX x.post (Gy x.pre) h.next)else none
def JG (l:List By):Bg:=
 List.rec (motive:=fun _=>Bg) (fun _ _=>none) (fun x _ ih args h=>match Rq x args h with|some y=>some y|none=>ih args h) l
def Yz:Bg:=fun args h=>
 match args with
 |[]=>some (.ret yes,h)
 |_=>none
end
end
section
def strOf (s:ByteArray):List Nat:=s.data.toList.map (·.toNat)
mutual
def GA:Value->Ab
 |.bool b=>.bool (.lit b)
 |.int k n=>.int k (.lit n)
 |.string s=>.str (strOf s)
 |.pointer none=>.nilPtr
 |.slice none 0 0=>.nilSlice
 |.map none=>.nilMap
 |.nilFunc=>.nilFunc
 |.nilIface=>.nilIface
 |.agg ⟨cs⟩=>if (Tt cs).all (·.single)then .agg (Tt cs)else .any
 |_=>.any
def Tt:List Value->List Ab
 |[]=>[]
 |v::r=>GA v::Tt r
end
def A8:Operand->Cr
 |.tmp t=>.tmp t
 |.const v=>.con (GA v)
 |.func f=>.con (.func f [] [])
 |.global _=>.con .any
def BT (l:List Operand):List Cr:=l.map A8
def AU (P:Program) (t:TypeId):Option Nat:=(P.info? t).map (·.size)
def DR (P:Program) (t:TypeId):Option (Option Nat):=
 match P.underlying t,P.info? t with
 |some (.struct _),some i|some (.array _ _),some i=>some (some i.size)
 |some _,some _=>some none
 |_,_=>none
def GO (P:Program) (t:TypeId):Option (List Ab):=
 match P.info? t with
 |some i=>i.zero.bind fun v=>(GA v).cells.bind fun cs=>if cs.all (·.single)then some cs else none
 |none=>none
def Dx {α:Type}:List (Option (List α))->Option (List α)
 |[]=>some []
 |some a::r=>(Dx r).map (a++·)
 |none::_=>none
def LK.no:LK->Nat
 |.bool=>0
 |.int=>1
 |.str=>2
def Cp (k:Nat) (l:List (Nat×LK)):List (Nat×LK):=l.map fun x=>(k+x.1,x.2)
def below (n:Nat) (l:List (Nat×LK)):Bool:=l.all fun x=>Nat.blt x.1 n
def leaves (P:Program):Nat->TypeId->Option (List (Nat×LK))
 |0,_=>none
 |d+1,t=>match P.underlying t with
  |some .bool=>some [(0,.bool)]
  |some (.int _)=>some [(0,.int)]
  |some .string=>some [(0,.str)]
  |some (.struct fs)=>if P.stoodInHeld t then none else Dx (fs.toList.map fun f=>if f.name= "_" then none else
    match leaves P d f.type,AU P f.type with
    |some l,some n=>if below n l&&Nat.ble (f.offset+n) (P.cellsOf t)then some (Cp f.offset l)else none
    |_,_=>none)
  |some (.array k e)=>match leaves P d e,AU P e with
   |some l,some n=>if below n l&&Nat.ble (k*n) (P.cellsOf t)then some ((List.range k).flatMap fun i=>Cp (i*n) l)else none
   |_,_=>none
  |_=>none
def DW:List (Nat×LK)->List (Nat×LK)->Bool
 |[],[]=>true
 |a::x,b::y=>Nat.beq a.1 b.1&&Nat.beq a.2.no b.2.no&&DW x y
 |_,_=>false
def Ky (P:Program) (t:TypeId):Bool:=
 match DR P t with
 |some (some _)=>true
 |_=>false
def QK (P:Program) (pl:List Co):Bool:=
 pl.all fun x=>(match leaves P 6 x.t with|some l=>DW l x.Sz|none=>false)&&((P.info? x.t).map (·.comparable)).getD false&&beq (Ky P x.t) x.agg
def X6 (P:Program) (t:TypeId):Option LK:=
 match P.underlying t with
 |some .bool=>some .bool
 |some (.int _)=>some .int
 |some .string=>some .str
 |_=>none
def Ea:Operand->Bool
 |.const .nilIface=>true
 |_=>false
def partsOf (j:Nat->Option (Nat×Nat)):List (Nat×Operand)->Option (List (Nat×Nat×Cr))
 |[]=>some []
 |(i,x)::r=>match j i,partsOf j r with
  |some (off,size),some ps=>some ((off,size,A8 x)::ps)
  |_,_=>none
def Rw (P:Program) (pl:List Co) (j:Bool) (t:TypeId) (x y:Operand):Option POp:=
 match P.underlying t with
 |some .bool=>some (.eqs j .bool (A8 x) (A8 y))
 |some (.pointer e)=>(AU P e).bind fun _=>some (.eqs j .ptr (A8 x) (A8 y))
 |some (.slice _)=>some (.eqs j .slice (A8 x) (A8 y))
 |some (.map _ _)=>some (.eqs j .map (A8 x) (A8 y))
 |some (.func _ _ _)=>some (.eqs j .func (A8 x) (A8 y))
 |some (.struct _) |some (.array _ _)=>match leaves P 6 t with
  |some l=>if P.eqGuardType P.depth t then none else some (.eqs j (.plain l) (A8 x) (A8 y))
  |none=>none
 |some (.interface ms)=>if QK P pl then some (.eqs j (.iface (ms.isEmpty||Ea x||Ea y) pl) (A8 x) (A8 y))else none
 |_=>none
def WI (P:Program) (pl:List Co) (op:BinOp) (t:TypeId) (x y:Operand):Option POp:=
 match P.underlying t,op with
 |some (.int _),_=>some (.bin op (A8 x) (A8 y))
 |some .string,_=>some (.bin op (A8 x) (A8 y))
 |some _,.eql=>Rw P pl false t x y
 |some _,.neq=>Rw P pl true t x y
 |_,_=>none
def u8T (P:Program) (e:TypeId) (size:Nat):Option Nat:=
 match P.underlying e,P.info? e with
 |some (.int .u8),some i=>(match i.zero with|some (.int .u8 (.ofNat 0))=>if Nat.beq size 1 then some e else none|_=>none)
 |_,_=>none
def EE (P:Program) (e:TypeId) (bytes:Bool) (x y:Operand):Option DD:=
 match P.info? e with
 |some i=>if i.bytes<=1048576&&(i.zero.map fun v=>Nat.beq v.cells.size i.size).getD false then some (.m (.append i.size (u8T P e i.size) bytes (A8 x) (A8 y)))else none
 |none=>none
def fieldsOf (P:Program) (t:TypeId):List Field:=
 match P.underlying t with
 |some (.struct fs)=>fs.toList
 |_=>[]
def AaI (P:Program) (t:TypeId):Bool:=
 match fieldsOf P t with
 |f::_=>(match P.underlying f.type with|some (.pointer u)=>Nat.beq u t|_=>false)
 |[]=>false
def AaT (P:Program) (t:TypeId):Bool:=
 AaI P t||(match fieldsOf P t with|f::_=>AaI P f.type|[]=>false)
def RL (P:Program) (t:TypeId):Option Nat:=if AaT P t then some t else none
def GS (P:Program) (p:TypeId->Nat->Bool):List (Nat×Nat):=
 (List.range P.types.size).filterMap fun e=>if AaT P e then (match P.info? e with|some i=>if Nat.ble 1 i.size&&p e i.size then some (e,i.size)else none|none=>none)else none
def Nx (P:Program) (s d:TypeId) (x:Operand):Option DD:=
 match P.underlying s,P.underlying d with
 |some (.int _),some (.int k)=>some (.p (.conv k (A8 x)))
 |some .string,some .string=>some (.p (.same (A8 x)))
 |some (.slice e),some .string=>(match P.underlying e with|some (.int .u8)=>some (.r (.bstr (A8 x))) |_=>none)
 |some (.pointer t),some .unsafePointer=>(match AU P t with|some (_+1)=>some (.r (.uptr (GS P fun _ _=>true) (A8 x))) |_=>none)
 |some .unsafePointer,some (.pointer u)=>(AU P u).map fun _=>.r (.uptr (GS P fun e n=>liesAt P P.depth e (n/P.cellsOf e) 0 u 1) (A8 x))
 |_,_=>none
def IP (P:Program) (t:TypeId) (ok:Bool) (x:Operand):Option DD:=
 match P.underlying t,P.info? t with
 |some (.interface _),_=>none
 |some _,some i=>if ok then i.zero.map fun z=>.p (.assert t (some (GA z)) (A8 x))else some (.p (.assert t none (A8 x)))
 |_,_=>none
def EV (P:Program) (c:Call):Option DD:=
 match c.callee with
 |.value (.func f)=>match P.funcs[f]? with
  |some fn=>if fn.body.isSome then some (.m (.call (A8 (.func f)) (BT c.args.toList)))
   else if fn.name== "maps.clone" &&fn.origin== "" then (match c.args.toList with|[x]=>some (.m (.clone (A8 x))) |_=>none)
   else if fn.name== "internal/abi.NoEscape" &&fn.origin== "" then (match c.args.toList with|[x]=>some (.m (.AaR (A8 x))) |_=>none)
   else none
  |none=>none
 |.value f=>some (.m (.call (A8 f) (BT c.args.toList)))
 |.invoke _ _=>none
 |.builtin b=>match b,c.args.toList,c.argTypes.toList with
  |.len,[x],[t]=>match P.underlying t with
   |some .string=>some (.p (.AgL (A8 x)))
   |some (.slice _)=>some (.p (.AgM (A8 x)))
   |some (.array n _)=>some (.p (.mv (.con (lit .i64 (.ofNat n)))))
   |some (.map _ _)=>some (.r (.lenM (A8 x)))
   |_=>none
  |.append,[x,y],[t,u]=>match P.underlying t,P.underlying u with
   |some (.slice e),some (.slice _)=>EE P e false x y
   |some (.slice e),some .string=>EE P e true x y
   |_,_=>none
  |.copy,[x,y],[t,u]=>match P.underlying t,P.underlying u with
   |some (.slice e),some (.slice _)=>(AU P e).map fun n=>.m (.copy n false (A8 x) (A8 y))
   |some (.slice e),some .string=>(AU P e).map fun n=>.m (.copy n true (A8 x) (A8 y))
   |_,_=>none
  |.max,xs,_=>some (.p (.big true (BT xs)))
  |.min,xs,_=>some (.p (.big false (BT xs)))
  |.recover,[],_=>some (.m .recover)
  |.unsafeSliceData,[x],_=>some (.p (.Aaw (A8 x)))
  |.unsafeString,[p,n],[pt,_]=>match P.underlying pt with
   |some (.pointer e)=>if Nat.beq (P.cellsOf e) 1 then some (.m (.Aez e (A8 p) (A8 n)))else none
   |_=>none
  |_,_,_=>none
def Dq (P:Program) (pl:List Co) (o:Oper):Option DD:=
 match o.op with
 |.move x|.assign x=>some (.p (.mv (A8 x)))
 |.pick c a b=>some (.p (.pick (A8 c) (A8 a) (A8 b)))
 |.alloc t=>(GO P t).map fun z=>.a (.zero (RL P t) z)
 |.box t x=>some (.a (.box (RL P t) (A8 x)))
 |.build t parts=>match P.underlying t,GO P t with
  |some (.struct fs),some z=>if fs.all fun f=>(P.info? f.type).isSome then (partsOf (fun i=>(fs[i]?).bind fun f=>(AU P f.type).map fun n=>(f.offset,n)) parts.toList).map fun ps=>.p (.build z ps)else none
  |some (.array _ e),some z=>(AU P e).bind fun n=>(partsOf (fun i=>some (i*n,n)) parts.toList).map fun ps=>.p (.build z ps)
  |_,_=>none
 |.buildSlice t len parts=>match P.underlying t with
  |some (.slice e)=>match AU P e,GO P e with
   |some n,some z=>if len*n<=65536&&z.length==n then (partsOf (fun i=>some (i*n,n)) parts.toList).map fun ps=>.a (.bslice len (List.replicate len z).flatten ps)else none
   |_,_=>none
  |_=>none
 |.insert t m k v|.mapUpdate t m k v=>match P.underlying t with
  |some (.map kt _)=>(X6 P kt).map fun kk=>.m (.mapUp kk (A8 m) (A8 k) (A8 v))
  |_=>none
 |.load t x=>(DR P t).map fun n=>.r (.load n (A8 x))
 |.store t a x=>(AU P t).map fun n=>.m (.store n (A8 a) (A8 x))
 |.nilCheck x=>some (.p (.AgH (A8 x)))
 |.binOp op t x y _=>(WI P pl op t x y).map .p
 |.unOp op _ x=>some (.p (.un op (A8 x)))
 |.convert s d x=>Nx P s d x
 |.typeAssert x _ t ok=>IP P t ok x
 |.makeInterface t x=>match P.underlying t with
  |some (.interface _)=>none
  |some _=>some (.p (.iface t (A8 x)))
  |none=>none
 |.makeFunc (.func f) a c=>some (.p (.func f (BT a.toList) (BT c.toList)))
 |.makeMap t r=>match P.underlying t,r with
  |some (.map _ _),none|some (.map _ _),some (.const (.int _ _))=>some (.a .mkMap)
  |_,_=>none
 |.makeSlice t l c=>match P.underlying t with
  |some (.slice e)=>match P.info? e,GO P e with
   |some i,some z=>if i.bytes<=1048576&&z.length==i.size then some (.a (.mkSlice z (A8 l) (A8 c)))else none
   |_,_=>none
  |_=>none
 |.slice t x lo hi mx=>match P.underlying t,mx with
  |some .string,none=>some (.p (.subs (A8 x) (lo.map A8) (hi.map A8)))
  |some (.slice e),none=>(AU P e).map fun n=>.p (.reslice n (A8 x) (lo.map A8) (hi.map A8) none)
  |some (.slice e),some m=>if hi.isSome then (AU P e).map fun n=>.p (.reslice n (A8 x) (lo.map A8) (hi.map A8) (some (A8 m)))else none
  |_,_=>none
 |.fieldAddr t x f=>match P.underlying t with
  |some (.struct fs)=>(fs[f]?).bind fun g=>match AU P g.type with
   |some (_+1)=>some (.p (.UT g.offset (A8 x)))
   |_=>none
  |_=>none
 |.field t x f=>match P.underlying t with
  |some (.struct fs)=>(fs[f]?).bind fun g=>(DR P g.type).map fun n=>.p (.field g.offset n (A8 x))
  |_=>none
 |.indexAddr t x i=>match P.underlying t with
  |some (.slice e)=>(AU P e).map fun n=>.p (.AgU n (A8 x) (A8 i))
  |some (.array len e)=>(AU P e).map fun n=>.p (.UA len n (A8 x) (A8 i))
  |_=>none
 |.index t x i=>match P.underlying t with
  |some (.array len e)=>match AU P e,DR P e with
   |some n,some a=>some (.p (.idx len n a (A8 x) (A8 i)))
   |_,_=>none
  |some .string=>some (.p (.AgT (A8 x) (A8 i)))
  |_=>none
 |.lookup t x k ok=>match P.underlying t with
  |some (.map kt e)=>match P.info? e,X6 P kt with
   |some i,some kk=>i.zero.map fun z=>.r (.lookup kk (GA z) ok (A8 x) (A8 k))
   |_,_=>none
  |_=>none
 |.extract x i=>some (.p (.ext (A8 x) i))
 |.panic x=>some (.m (.panic (A8 x)))
 |.call c=>EV P c
 |.defer {callee:=.value f,args,.. }=>some (.m (.defer (A8 f) (BT args.toList)))
 |_=>none
def guardOf (q:Array Oper):Option (Nat×Bool)->Option (Option (Nat×Bool))
 |none=>some none
 |some (j,want)=>match (q[j]?).bind (·.dst)with
  |some d=>some (some (d,want))
  |none=>none
def stepOf (P:Program) (pl:List Co) (nt:Nat) (j:Array Oper) (o:Oper) (back:Nat):Option Step:=
 match Dq P pl o,guardOf j o.guard with
 |some op,some g=>if (o.dst.all fun d=>Nat.blt d nt)&&(g.all fun x=>Nat.blt x.1 nt)then some ⟨o.dst,g,op,back⟩else none
 |_,_=>none
def B3 {α:Type}:List (Option α)->Option (List α)
 |[]=>some []
 |some a::r=>(B3 r).map (a::·)
 |none::_=>none
def Qz (before:Array Nat) (n:Nat):List Nat->List Nat->List Nat
 |[],done=>done++(List.range n).filter fun i=>!done.contains i
 |m::ms,done=>Qz before n ms (done++(List.range n).filter fun i=>!done.contains i&&(i==m||(before.getD m 0).testBit i))
def Cr.names:Cr->List Nat
 |.tmp t=>[t]
 |.con _=>[]
def POp.BT:POp->List Cr
 |.mv x|.AgH x|.un _ x|.conv _ x|.same x|.iface _ x|.UT _ x|.field _ _ x|.ext x _|.AgL x|.AgM x|.assert _ _ x|.Aaw x=>[x]
 |.pick c a b=>[c,a,b]
 |.build _ ps=>ps.map (·.2.2)
 |.bin _ x y|.eqs _ _ x y|.AgU _ x y|.UA _ _ x y|.idx _ _ _ x y|.AgT x y=>[x,y]
 |.func _ a c=>a++c
 |.subs x lo hi=>x::(lo.toList++hi.toList)
 |.reslice _ x lo hi mx=>x::(lo.toList++(hi.toList++mx.toList))
 |.big _ xs=>xs
def NO.BT:NO->List Cr
 |.load _ x|.lenM x|.uptr _ x|.bstr x=>[x]
 |.lookup _ _ _ x k=>[x,k]
def AOp.BT:AOp->List Cr
 |.box _ x=>[x]
 |.zero _ _|.mkMap=>[]
 |.bslice _ _ ps=>ps.map (·.2.2)
 |.mkSlice _ l c=>[l,c]
def MOp.BT:MOp->List Cr
 |.store _ a x|.append _ _ _ a x|.copy _ _ a x|.Aez _ a x=>[a,x]
 |.call f args|.defer f args=>f::args
 |.mapUp _ m k v=>[m,k,v]
 |.clone x|.panic x|.AaR x=>[x]
 |.recover=>[]
def DD.BT:DD->List Cr
 |.p o=>o.BT
 |.r o=>o.BT
 |.a o=>o.BT
 |.m o=>o.BT
def Step.names (s:Step):List Nat:=
 match s.guard with
 |some g=>g.1::s.op.BT.flatMap Cr.names
 |none=>s.op.BT.flatMap Cr.names
def Vu (W:Nat->Nat->Bool) (x y:Nat×Step):Bool:=
 !(Nat.beq x.1 y.1)&&(!BK y.2.op||W x.1 y.1)&&
 (match x.2.dst with
  |some d=>(match y.2.dst with|some e=>!(Nat.beq e d) |none=>true)&&(!(y.2.names.any (Nat.beq d)) ||W x.1 y.1)
  |none=>true)&&
 (match y.2.dst with
  |some d=>!(x.2.names.any (Nat.beq d)) ||W x.1 y.1
  |none=>true)
def N9 (W:Nat->Nat->Bool) (x:Nat):List (Nat×Step)->Nat->Bool
 |[],_=>true
 |y::r,k=>if BK y.2.op then N9 W x r (k+1)else (Nat.blt k y.2.back||W x y.1)&&N9 W x r k
def AdJ (s:Step):Bool:=
 match s.dst with
 |some d=>!(s.names.any (Nat.beq d))
 |none=>true
def okD (W:Nat->Nat->Bool):List (Nat×Step)->Bool
 |[]=>true
 |x::r=>AdJ x.2&&(r.all (Vu W x)&&((!BK x.2.op||N9 W x.1 r 0)&&okD W r))
def CM (j:Array Oper) (i:Nat):List Nat:=
 match j[i]? with
 |some o=>(o.after.toList.filter (Region.binds .any)).map (·.on)
 |none=>[]
def X5 (j:Array Oper):List Nat->Bool
 |[]=>true
 |i::r=>(CM j i).all (fun e=>Nat.blt e i&&!(r.any (Nat.beq e)))&&X5 j r
def waits (before:List Nat) (i j:Nat):Bool:=(before.getD j 0).testBit i
def Ix (q:Array Oper) (before:List Nat):Bool:=
 (List.range q.size).all fun j=>(List.range q.size).all fun i=>!(waits before i j) ||
  (CM q j).any fun e=>Nat.blt e j&&(Nat.beq e i||waits before i e)
def AbL (before:Array Nat) (muts j:List Nat) (i:Nat):Nat:=
 let seen:=(j.takeWhile (·!=i)).filter muts.contains
 (seen.filter fun m=>!(before.getD i 0).testBit m).length
def Ab7 (q:Array Oper) (before j:List Nat) (v:List Step):Bool:=
 Nat.beq j.length v.length&&Nat.beq j.length q.size&&((List.range q.size).all (fun i=>j.any (Nat.beq i))&&(j.all (fun i=>Nat.blt i q.size)&&(X5 q j&&(Ix q before&&okD (waits before) (j.zip v)))))
def Nw (P:Program) (pl:List Co) (nt:Nat) (j:Array Oper):Option (List Step):=
 let before:=Region.before j
 match B3 (j.toList.map (Dq P pl))with
 |none=>none
 |some iops=>
  let muts:=(List.range j.size).filter fun i=>(iops[i]?.map BK).getD false
  let q:=Qz before j.size muts []
  match B3 (q.map fun i=>(j[i]?).bind fun o=>stepOf P pl nt j o (AbL before muts q i))with
  |some steps=>if Ab7 j before.toList q steps then some steps else none
  |none=>none
def Gu (P:Program) (pl:List Co) (nt:Nat) (j:Array Oper) (q:Bool):Option (List Step):=
 if q then Nw P pl nt j else B3 (j.toList.map fun o=>stepOf P pl nt j o 0)
def AO (P:Program) (pl:List Co) (nt:Nat):Code->Option IC
 |.skip=>some .skip
 |.region _ ops draw=>(Gu P pl nt ops draw).map (.region draw)
 |.seq a b=>match AO P pl nt a,AO P pl nt b with
  |some a,some b=>some (.seq a b)
  |_,_=>none
 |.cond c a b=>match AO P pl nt a,AO P pl nt b with
  |some a,some b=>some (.cond (A8 c) a b)
  |_,_=>none
 |.block id b=>(AO P pl nt b).map (.block id)
 |.loop b=>(AO P pl nt b).map .loop
 |.exit id=>some (.exit id)
 |.ret=>some .ret
 |.refuse _=>some (.cond (.con .any) .skip .skip)
 |_=>none
def Gt (P:Program):ResultVar->Option RE
 |.tmp t=>some (.tmp t)
 |.cell a t=>(DR P t).map (.cell a)
def Adq (n:Nat):Nat:=Nat.log2 (n+1)+1
def ED (P:Program) (pl:List Co) (fn:Func):Option Ex:=
 match fn.body with
 |none=>none
 |some c=>match AO P pl fn.ntmps c,B3 (fn.results.toList.map (Gt P))with
  |some body,some results=>some {depth:=Adq fn.ntmps,results,body}
  |_,_=>none
end
section
inductive PV where
 |bool (b:Bool)
 |int (k:IntKind) (n:Int)
 |str (s:List Nat)
 |list (es:Nat) (l:List (List PV))
 |nilp
structure Env where
 val:Nat->Int
 AJ:Nat->Option Obj:=fun _=>none
 str:Nat->List Nat:=fun _=>[]
 lst:Nat->List (List PV):=fun _=>[]
 map:Nat->List (List Nat×List PV):=fun _=>[]
instance:Coe Env (Nat->Int):=⟨Env.val⟩
theorem QF (a b:Int):ile a b=decide (a<=b):=by
 rw [Bool.eq_iff_iff]
 cases a<;>cases b<;>simp [ile]<;>omega
theorem QH (a b:Int):Yl a b=(a==b):=by
 rw [Bool.eq_iff_iff]
 cases a<;>cases b<;>simp [Yl]<;>omega
theorem QG {a b:Int}:Yl a b=true↔a=b:=by rw [QH];simp
theorem AgP (a b:Int):ilt a b=decide (a<b):=by
 unfold ilt;rw [QF,Bool.eq_iff_iff];simp
theorem Df {a b:IntKind}:U8 a b=true↔a=b:=by
 cases a<;>cases b<;>simp [U8,U7]
theorem Hh {a b:BinOp}:NV a b=true↔a=b:=by
 cases a<;>cases b<;>simp [NV,Xy]
theorem beq_eq (a b:Bool):beq a b=(a==b):=by cases a<;>cases b<;>rfl
theorem Wp (n:Int) (m:Nat) (j:0<m):(Q4 n m:Int)=n%(m:Int):=by
 cases n with
 |ofNat a=>simp [Q4]
 |negSucc a=>
  have h:=Nat.mod_lt a j
  simp only [Q4]
  rw [Int.negSucc_emod a (by omega:(0:Int)<(m:Int))]
  omega
theorem Ade (n:Int) (m:Nat) (j:0<m):Q4 n m<m:=by
 cases n with
 |ofNat a=>exact Nat.mod_lt _ j
 |negSucc a=>simp only [Q4];have h:=Nat.mod_lt a j;omega
theorem Hi (k:IntKind):0<modulus k:=by cases k<;>decide
theorem I9 (k:IntKind):(2:Int)^k.bits=(modulus k:Int):=by cases k<;>rfl
theorem Q5 (k:IntKind):(2:Int)^(k.bits-1)*2=(modulus k:Int):=by cases k<;>rfl
theorem Ub (k:IntKind):HT k=k.signed:=by cases k<;>rfl
theorem Ja (k:IntKind) (n:Int) (m:Nat) (h:n%(2^k.bits:Int)=(m:Int)) (v:m<modulus k):k.wrap n=back k m:=by
 have x:=Q5 k
 unfold IntKind.wrap back
 simp only [h]
 rw [I9,Ub]
 cases hs:k.signed with
 |false=>simp
 |true=>
  simp only [Bool.true_and]
  by_cases hc:modulus k<=m+m
  ·have q:Nat.ble (modulus k) (m+m)=true:=by simpa using hc
   have j:decide ((m:Int)>=2^(k.bits-1))=true:=by simp;omega
   rw [if_pos (by simpa using j),q]
   simp only [cond_true]
   omega
  ·have q:Nat.ble (modulus k) (m+m)=false:=by
    cases h':Nat.ble (modulus k) (m+m)with
    |false=>rfl
    |true=>exact absurd (Nat.le_of_ble_eq_true h') hc
   have j:¬((m:Int)>=2^(k.bits-1)):=by omega
   rw [if_neg (by simpa using j),q]
   rfl
theorem GQ (k:IntKind) (n:Int):KM k n=k.wrap n:=by
 unfold KM
 exact (Ja k n _ (by rw [I9,Wp _ _ (Hi k)]) (Ade _ _ (Hi k))).symm
theorem Wq (k:IntKind) (x:Int):Q4 x (modulus k)=(BitVec.ofInt k.bits x).toNat:=by
 rw [BitVec.toNat_ofInt]
 have h:=Wp x (modulus k) (Hi k)
 have e:((2^k.bits:Nat):Int)=(modulus k:Int):=by cases k<;>rfl
 rw [e,<-h]
 exact (Int.toNat_natCast _).symm
theorem Jd (k:IntKind):2^k.bits=modulus k:=by cases k<;>rfl
theorem AbJ (op:BinOp) (k:IntKind) (x y:Int) (h:op=.and∨op=.or∨op=.xor∨op=.andNot):Pv op k x y=bits op k x y:=by
 unfold Pv bits
 rw [Wq,Wq]
 generalize BitVec.ofInt k.bits x=a
 generalize BitVec.ofInt k.bits y=b
 have hb:∀r:BitVec k.bits,back k r.toNat=k.wrap (r.toNat:Int):=fun r=>by
  have j:r.toNat<modulus k:=by rw [<-Jd];exact r.isLt
  exact (Ja k _ _ (by rw [I9];exact Int.emod_eq_of_lt (by omega) (by omega)) j).symm
 rcases h with rfl|rfl|rfl|rfl<;>simp only [Wr]<;>rw [<-hb]
 ·rw [BitVec.toNat_and];rfl
 ·rw [BitVec.toNat_or];rfl
 ·rw [BitVec.toNat_xor];rfl
 ·rw [BitVec.toNat_and,BitVec.toNat_not,Jd];rfl
def Dy (op:BinOp) (k:IntKind) (x y:Int):Int:=
 match op with
 |.add=>k.wrap (x+y)
 |.sub=>k.wrap (x-y)
 |.mul=>k.wrap (x*y)
 |.quo=>k.wrap (x.tdiv y)
 |.rem=>x.tmod y
 |.shl=>k.wrap (x*2^min y.toNat k.bits)
 |.shr=>x.fdiv (2^min y.toNat k.bits)
 |op=>bits op k x y
def Ev (op:BinOp) (x y:Int):Bool:=
 match op with
 |.eql=>x==y
 |.neq=>x !=y
 |.lss=>decide (x<y)
 |.leq=>decide (x<=y)
 |.gtr=>decide (x>y)
 |_=>decide (x>=y)
def ST.den (ρ:Nat->Int):ST->Int
 |.lit n=>n
 |.var i=>ρ i
 |.bin op k a b=>Dy op k (a.den ρ) (b.den ρ)
 |.conv k a=>k.wrap (a.den ρ)
def SB.den (ρ:Nat->Int):SB->Bool
 |.lit b=>b
 |.cmp op a b=>Ev op (a.den ρ) (b.den ρ)
 |.no a=>!(a.den ρ)
theorem ST.AV:∀{a b:ST},a.eq b=true->a=b
 |.lit a,.lit b,h=>by simp only [ST.eq]at h;rw [QG.1 h]
 |.var i,.var j,h=>by simp only [ST.eq]at h;rw [Nat.eq_of_beq_eq_true h]
 |.bin o k a b,.bin o' k' a' b',h=>by
  simp only [ST.eq,aT]at h
  obtain ⟨⟨⟨x,z⟩,v⟩,q⟩:=h
  rw [Hh.1 x,Df.1 z,ST.AV v,ST.AV q]
 |.conv k a,.conv k' a',h=>by
  simp only [ST.eq,aT]at h
  rw [Df.1 h.1,ST.AV h.2]
 |.lit _,.var _,h|.lit _,.bin ..,h|.lit _,.conv ..,h|.var _,.lit _,h|.var _,.bin ..,h|.var _,.conv ..,h
 |.bin ..,.lit _,h|.bin ..,.var _,h|.bin ..,.conv ..,h|.conv ..,.lit _,h|.conv ..,.var _,h|.conv ..,.bin ..,h=>by simp [ST.eq]at h
theorem SB.AV:∀{a b:SB},a.eq b=true->a=b
 |.lit a,.lit b,h=>by simp only [SB.eq,beq_eq]at h;simp at h;rw [h]
 |.cmp o a b,.cmp o' a' b',h=>by
  simp only [SB.eq,aT]at h
  rw [Hh.1 h.1.1,ST.AV h.1.2,ST.AV h.2]
 |.no a,.no b,h=>by simp only [SB.eq]at h;rw [SB.AV h]
 |.lit _,.cmp ..,h|.lit _,.no _,h|.cmp ..,.lit _,h|.cmp ..,.no _,h|.no _,.lit _,h|.no _,.cmp ..,h=>by simp [SB.eq]at h
def DV (ρ:Env):Ab->Option (List Nat)
 |.str s=>some s
 |.svar i=>some (ρ.str i)
 |_=>none
def L0 (ρ:Env):Ab->PV->Prop
 |.bool b,p=>p=.bool (b.den ρ)
 |.int k n,p=>p=.int k (n.den ρ)
 |.str s,p=>p=.str s
 |.svar i,p=>p=.str (ρ.str i)
 |.lst f i es n,p=>f=false/\p=.list es (ρ.lst i)/\n.den ρ=((ρ.lst i).length:Int)
 |.nilPtr,p=>p=.nilp
 |_,_=>False
def Fw (ρ:Env):List Ab->List PV->Prop
 |[],ps=>ps=[]
 |a::as,ps=>∃p rest,ps=p::rest/\L0 ρ a p/\Fw ρ as rest
def V4 (ρ:Env) (a:Ab) (p:PV):Prop:=
 match a with
 |.nilSlice=>∃j,p=.list j []
 |a=>L0 ρ a p
def C8 (ρ:Env):List Ab->List PV->Prop
 |[],ps=>ps=[]
 |a::as,ps=>∃p rest,ps=p::rest/\V4 ρ a p/\C8 ρ as rest
def DT (ρ:Env):List (List Ab)->List (List PV)->Prop
 |[],ps=>ps=[]
 |a::as,ps=>∃p rest,ps=p::rest/\C8 ρ a p/\DT ρ as rest
def Ft (ρ:Env):AE->List (List PV)->Prop
 |.els es,l=>DT ρ es l
 |.all i,l=>l=ρ.lst i
 |.take i n,l=>0<=n.den ρ/\n.den ρ<=((ρ.lst i).length:Int)/\l=(ρ.lst i).take (n.den ρ).toNat
 |.drop i n,l=>0<=n.den ρ/\n.den ρ<=((ρ.lst i).length:Int)/\l=(ρ.lst i).drop (n.den ρ).toNat
def Bv (ρ:Env):List AE->List (List PV)->Prop
 |[],l=>l=[]
 |p::ps,l=>∃a b,l=a++b/\Ft ρ p a/\Bv ρ ps b
def Acf (ρ:Env):List (Ab×List Ab)->List (List Nat×List PV)->Prop
 |[],l=>l=[]
 |x::r,l=>∃s ps rest,l=(s,ps)::rest/\DV ρ x.1=some s/\C8 ρ x.2 ps/\Acf ρ r rest
def AR:List (List Nat×List PV)->List Nat->Option (List PV)
 |[],_=>none
 |e::r,k=>if e.1=k then some e.2 else AR r k
def Bw:List (List Nat×List PV)->List Nat->List PV->List (List Nat×List PV)
 |[],k,v=>[(k,v)]
 |e::r,k,v=>if e.1=k then (k,v)::r else e::Bw r k v
structure Ao.AB (Γ:Ao) (ρ:Env):Prop where
 DL:∀x∈Γ.DL,x.1.den ρ=x.2
 tests:∀x∈Γ.tests,Ev x.1 (x.2.1.den ρ) (x.2.2.1.den ρ)=x.2.2.2
 strs:∀x∈Γ.strs,∃s t,DV ρ x.1=some s/\DV ρ x.2.1=some t/\x.2.2=decide (s=t):=by intro _ h;cases h
 E4:∀x∈Γ.E4,∃s t,DV ρ x.1=some s/\DV ρ x.2.1=some t/\DV ρ x.2.2=some (s++t)/\s.length+t.length<=1048576:=by intro _ h;cases h
 BQ:∀x∈Γ.BQ,x.2.1.den ρ=((ρ.str x.1).length:Int)/\x.2.2.1<=(ρ.str x.1).length/\(ρ.str x.1).length<=x.2.2.2:=by intro _ h;cases h
 Br:∀x∈Γ.Br,x.2.den ρ=((ρ.lst x.1).length:Int):=by intro _ h;cases h
 elems:∀x∈Γ.elems,∃ps,0<=x.2.1.den ρ/\(ρ.lst x.1)[(x.2.1.den ρ).toNat]?=some ps/\Fw ρ x.2.2 ps:=by intro _ h;cases h
 defs:∀x∈Γ.defs,Bv ρ x.2 (ρ.lst x.1):=by intro _ h;cases h
 looks:∀x∈Γ.looks,∃s,DV ρ x.2.1=some s/\(match x.2.2 with
  |some cs=>∃ps,AR (ρ.map x.1) s=some ps/\Fw ρ cs ps
  |none=>AR (ρ.map x.1) s=none):=by intro _ h;cases h
 Ls:∀x∈Γ.Ls,∃s ps,DV ρ x.2.1=some s/\C8 ρ x.2.2.1 ps/\ρ.map x.2.2.2=Bw (ρ.map x.1) s ps:=by intro _ h;cases h
 C7:∀x∈Γ.C7,x.1.den ρ+x.2.1<=x.2.2.den ρ/\x.2.2.den ρ<=1048576:=by intro _ h;cases h
 C5:∀x∈Γ.C5,Acf ρ x.2 (ρ.map x.1):=by intro _ h;cases h
theorem Ao.AB.none (ρ:Env):({}:Ao).AB ρ where
 DL:=fun _ h=>(by cases h)
 tests:=fun _ h=>(by cases h)
theorem La:∀{l:List (ST×Int)} {t:ST} {n:Int},Jx l t=some n->(t,n)∈l
 |[],_,_,h=>by simp [Jx]at h
 |(s,m)::r,t,n,h=>by
  simp only [Jx]at h
  cases e:s.eq t with
  |true=>
   rw [e]at h
   simp only [cond_true,oI]at h
   rw [ST.AV e,h]
   exact List.mem_cons_self
  |false=>rw [e]at h;exact List.mem_cons_of_mem _ (La h)
theorem De:∀{l:List (BinOp×ST×ST×Bool)} {op:BinOp} {a b:ST} {v:Bool},BS l op a b=some v->(op,a,b,v)∈l
 |[],_,_,_,_,h=>by simp [BS]at h
 |(o,s,t,u)::r,op,a,b,v,h=>by
  simp only [BS]at h
  cases e:NV o op&&s.eq a&&t.eq b with
  |true=>
   rw [e]at h
   simp only [cond_true,oI]at h
   simp only [aT]at e
   rw [Hh.1 e.1.1,ST.AV e.1.2,ST.AV e.2,h]
   exact List.mem_cons_self
  |false=>rw [e]at h;exact List.mem_cons_of_mem _ (De h)
section
variable {Γ:Ao} {ρ:Env} (hΓ:Γ.AB ρ)
include hΓ
theorem Ko (t:ST):(numOf Γ t).den ρ=t.den ρ:=by
 unfold numOf
 split
 ·rename_i n h;exact (hΓ.DL _ (La h)).symm
 ·rfl
omit hΓ in
theorem R5 {op:BinOp} {k:IntKind} {a b n:Int} (h:R6 op k a b=some n):
  n=Dy op k a b/\(op=.quo∨op=.rem->b≠0)/\Fl op=false/\DM op=false:=by
 cases op<;>simp only [R6,oI,reduceCtorEq]at h
 case add|sub|mul=>exact ⟨by rw [<-h,GQ];rfl,by simp,rfl,rfl⟩
 case quo|rem=>
  cases e:Yl b 0 with
  |true=>rw [e]at h;simp at h
  |false=>
   rw [e]at h
   simp only [cond_false,oI]at h
   refine ⟨by rw [<-h];first|(rw [GQ];rfl) |rfl,fun _ hb=>?_,rfl,rfl⟩
   rw [QG.2 hb]at e;cases e
 case and|or|xor|andNot=>exact ⟨by rw [<-h,AbJ _ _ _ _ (by simp)];rfl,by simp,rfl,rfl⟩
theorem HK {op:BinOp} {k:IntKind} {a b t:ST} (h:arith Γ op k a b=some t):
  t.den ρ=Dy op k (a.den ρ) (b.den ρ)/\(op=.quo∨op=.rem->b.den ρ≠0)/\Fl op=false/\DM op=false:=by
 have A:∀{t},Vt Γ op k a b=some t->t.den ρ=Dy op k (a.den ρ) (b.den ρ)/\(op=.quo∨op=.rem->b.den ρ≠0)/\Fl op=false/\DM op=false:=fun {t} h=>by
  unfold Vt at h
  cases e:total op b||WE Γ op b with
  |false=>rw [e]at h;simp at h
  |true=>
   rw [e]at h
   simp only [cond_true,oI]at h
   rw [Bool.or_eq_true]at e
   refine ⟨by rw [<-h,Ko hΓ];rfl,fun q=>?_,?_,?_⟩
   ·rcases e with e|e
    ·rcases q with rfl|rfl<;>cases b<;>simp [total,QH]at e<;>simpa [ST.den]using e
    ·have key:BS Γ.tests .eql b (.lit 0)=some false:=by
      have j:(match BS Γ.tests .eql b (.lit 0)with|some v=>!v|none=>false)=true:=by rcases q with rfl|rfl<;>exact e
      cases hv:BS Γ.tests .eql b (.lit 0)with
      |none=>rw [hv]at j;cases j
      |some v=>
       rw [hv]at j
       cases v with
       |false=>rfl
       |true=>cases j
     have z:Ev .eql (b.den ρ) ((ST.lit 0).den ρ)=false:=hΓ.tests _ (De key)
     simpa [Ev,ST.den]using z
   ·rcases e with e|e<;>cases op<;>first|rfl|(simp [total]at e) |(simp [WE]at e)
   ·rcases e with e|e<;>cases op<;>first|rfl|(simp [total]at e) |(simp [WE]at e)
 unfold arith at h
 split at h
 ·rename_i x y
  cases e:R6 op k x y with
  |none=>rw [e]at h;simp [A6]at h
  |some n=>
   rw [e]at h
   simp only [A6,oI]at h
   rw [<-h]
   exact R5 e
 ·exact A h
omit hΓ in
theorem Ny {op:BinOp} {a b:Int} {v:Bool} (h:AbB op a b=some v):v=Ev op a b/\Fl op=true:=by
 cases op<;>simp only [AbB,oI,reduceCtorEq]at h<;>subst h<;>refine ⟨?_,rfl⟩<;>simp [Ev,QH,QF,AgP,bne]<;>rfl
theorem CB {op:BinOp} {a b:ST} {s:SB} (h:compare Γ op a b=some s):s.den ρ=Ev op (a.den ρ) (b.den ρ)/\Fl op=true:=by
 have q:∀{s},Nv Γ op a b=some s->s.den ρ=Ev op (a.den ρ) (b.den ρ)/\Fl op=true:=fun {s} h=>by
  unfold Nv at h
  cases e:Fl op with
  |false=>rw [e]at h;simp at h
  |true=>
   rw [e]at h
   simp only [cond_true]at h
   split at h
   ·rename_i v j
    simp only [oI]at h
    subst h
    exact ⟨(hΓ.tests _ (De j)).symm,rfl⟩
   ·simp only [oI]at h
    subst h
    exact ⟨rfl,rfl⟩
 unfold compare at h
 split at h
 ·rename_i x y
  cases e:AbB op x y with
  |none=>rw [e]at h;simp [A6]at h
  |some v=>
   rw [e]at h
   simp only [A6,oI]at h
   rw [<-h]
   exact Ny e
 ·exact q h
theorem Ou (k:IntKind) (a:ST):(convert Γ k a).den ρ=k.wrap (a.den ρ):=by
 unfold convert
 split
 ·simp [ST.den,GQ]
 ·rw [Ko hΓ];rfl
theorem NW {b:ST} (h:natural Γ b=true):0<=b.den ρ:=by
 unfold natural at h
 split at h
 ·rw [QF]at h;simpa [ST.den]using h
 ·rename_i hb
  cases e:BS Γ.tests .geq b (.lit (.ofNat 0))with
  |none=>rw [e]at h;cases h
  |some v=>
   rw [e]at h
   cases v with
   |false=>cases h
   |true=>
    have:=hΓ.tests _ (De e)
    simpa [Ev,ST.den]using this
end
theorem Jk {op:BinOp} {k yk:IntKind} {x y n:Int} (h:Qk op k x y=some n):Op.shift op k x yk y=pure (.int k n):=by
 cases y with
 |negSucc y=>simp [Qk]at h
 |ofNat y=>
  simp only [Qk]at h
  have q:(bif Nat.ble y k.bits then y else k.bits)=min y k.bits:=by
   cases e:Nat.ble y k.bits with
   |true=>simp only [cond_true];have:=Nat.le_of_ble_eq_true e;omega
   |false=>
         simp only [cond_false];have:¬y<=k.bits:=fun h=>by rw [Nat.ble_eq_true_of_le h]at e;cases e
         omega
  rw [q]at h
  have j:Int.ofNat (2^min y k.bits)=(2:Int)^min y k.bits:=by simp
  unfold Op.shift
  rw [if_neg (by simp)]
  cases op<;>simp only [Mn,oI,reduceCtorEq]at h
  ·rw [<-h,GQ,j];rfl
  ·rw [<-h,j];rfl
theorem Sg {op:BinOp} {k yk:IntKind} {x y:Int} (hs:DM op=true) (v:0<=y):Op.shift op k x yk y=pure (.int k (Dy op k x y)):=by
 obtain ⟨n,rfl⟩:=Int.eq_ofNat_of_zero_le v
 refine Jk ?_
 have q:(bif Nat.ble n k.bits then n else k.bits)=min n k.bits:=by
  cases e:Nat.ble n k.bits with
  |true=>simp only [cond_true];have:=Nat.le_of_ble_eq_true e;omega
  |false=>
        simp only [cond_false];have:¬n<=k.bits:=fun h=>by rw [Nat.ble_eq_true_of_le h]at e;cases e
        omega
 have j:Int.ofNat (2^min n k.bits)=(2:Int)^min n k.bits:=by simp
 show Mn op k x (bif Nat.ble n k.bits then n else k.bits)=_
 rw [q]
 cases op<;>simp only [DM,Bool.false_eq_true]at hs
 ·simp only [Mn,Dy,GQ,j,Int.toNat_natCast]
 ·simp only [Mn,Dy,j,Int.toNat_natCast]
theorem Tk {op:BinOp} {t:TypeId} {k:IntKind} {x y:Int} (h:op=.quo∨op=.rem->y≠0) (hc:Fl op=false) (hs:DM op=false):
  binOp op t (.int k x) (.int k y)=pure (.int k (Dy op k x y)):=by
 cases op<;>first|(simp [Fl,Xy]at hc;done) |(simp [DM]at hs;done) |skip
 case add|sub|mul=>simp [binOp,Op.intArith,Dy]
 case quo|rem=>have:=h (by simp);simp [binOp,Op.intDiv,Dy,this]
 case and|or|xor|andNot=>simp [binOp,Dy];rfl
theorem XU {op:BinOp} {t:TypeId} {k:IntKind} {x y:Int} (hc:Fl op=true):binOp op t (.int k x) (.int k y)=pure (.bool (Ev op x y)):=by
 cases op<;>first|(simp [Fl,Xy]at hc;done) |skip
 all_goals (simp [binOp,Op.intCmp,Ev])
end
section
section
variable {α:Type}
theorem Tr.DN (v:Option α) (l r:Tr α) (n:Nat):
  (Tr.node v l r).get n=bif Nat.beq n 0 then v else bif Nat.beq (n%2) 1 then l.get (n/2)else r.get (n/2-1):=rfl
theorem Tr.ES (m:Nat) (v:Option α) (t:Tr α) (n:Nat):(Tr.over m v t).get n=bif Nat.beq n m then v else t.get n:=rfl
theorem Tr.set_nil (n:Nat) (x:Option α):(Tr.nil:Tr α).set n x=.over n x .nil:=rfl
theorem Tr.Aau (v:Option α) (l r:Tr α) (n:Nat) (x:Option α):
  (Tr.node v l r).set n x=bif Nat.beq n 0 then .node x l r else bif Nat.beq (n%2) 1 then .node v (l.set (n/2) x) r else .node v l (r.set (n/2-1) x):=rfl
theorem Tr.Aat (m:Nat) (v:Option α) (t:Tr α) (n:Nat) (x:Option α):
  (Tr.over m v t).set n x=bif Nat.beq n m then .over m x t else .over m v (t.set n x):=rfl
theorem AA {β:Type} (m n:Nat) (a b:β):(bif Nat.beq m n then a else b)=if m=n then a else b:=by
 by_cases h:m=n
 ·subst h;simp
 ·have:Nat.beq m n=false:=by
   cases e:Nat.beq m n with
   |false=>rfl
   |true=>exact absurd (Nat.eq_of_beq_eq_true e) h
  rw [this,if_neg h];rfl
theorem Tr.AY:∀(t:Tr α) (n m:Nat) (x:Option α),(t.set n x).get m=if m=n then x else t.get m
 |.nil,n,m,x=>by rw [Tr.set_nil,Tr.ES,AA]
 |.over k v t,n,m,x=>by
  rw [Tr.Aat,AA]
  by_cases h:n=k
  ·subst h
   rw [if_pos rfl,Tr.ES,Tr.ES,AA,AA]
   by_cases h2:m=n<;>simp [h2]
  ·rw [if_neg h,Tr.ES,Tr.ES,AA,AA,Tr.AY t n m x]
   by_cases h2:m=k
   ·subst h2;rw [if_pos rfl,if_neg (Ne.symm h),if_pos rfl]
   ·rw [if_neg h2,if_neg h2]
 |.node v l r,n,m,x=>by
  rw [Tr.Aau,AA,AA]
  by_cases h0:n=0
  ·rw [if_pos h0,Tr.DN,Tr.DN]
   simp only [AA]
   by_cases h2:m=0
   ·rw [if_pos h2,if_pos (by omega)]
   ·rw [if_neg h2,if_neg (by omega:¬m=n),if_neg h2]
  ·rw [if_neg h0]
   by_cases h1:n%2=1
   ·rw [if_pos h1,Tr.DN,Tr.DN]
    simp only [AA]
    rw [Tr.AY l]
    by_cases h2:m=0
    ·rw [if_pos h2,if_neg (by omega),if_pos h2]
    ·rw [if_neg h2,if_neg h2]
     by_cases h3:m%2=1
     ·rw [if_pos h3,if_pos h3]
      by_cases h4:m=n
      ·rw [if_pos h4,if_pos (by omega)]
      ·rw [if_neg h4,if_neg (by omega)]
     ·rw [if_neg h3,if_neg h3,if_neg (by intro e;subst e;exact h3 h1)]
   ·rw [if_neg h1,Tr.DN,Tr.DN]
    simp only [AA]
    rw [Tr.AY r]
    by_cases h2:m=0
    ·rw [if_pos h2,if_neg (by omega),if_pos h2]
    ·rw [if_neg h2,if_neg h2]
     by_cases h3:m%2=1
     ·rw [if_pos h3,if_pos h3,if_neg (by intro e;subst e;exact h1 h3)]
     ·rw [if_neg h3,if_neg h3]
      by_cases h4:m=n
      ·rw [if_pos h4,if_pos (by omega)]
      ·rw [if_neg h4,if_neg (by omega)]
theorem Tr.J5:∀(n m:Nat),(Tr.full α n).get m=none
 |0,m=>rfl
 |n+1,m=>by
  show (Tr.node none (Tr.full α n) (Tr.full α n)).get m=none
  rw [Tr.DN,AA,AA,Tr.J5,Tr.J5]
  split<;>first|rfl|(split<;>rfl)
end
def BD (m:Nat):Nat:=m%1048577
def BM (m:Nat):Nat:=m/1048577
def Oc (len cap:Nat):Nat:=len+1048577*cap
theorem Bt {len cap:Nat} (h:len<=1048576):BD (Oc len cap)=len:=by unfold BD Oc;omega
theorem BE {len cap:Nat} (h:len<=1048576):BM (Oc len cap)=cap:=by unfold BM Oc;omega
abbrev Ya:=Nat×Nat×Nat
structure As where
 spot:Nat->Option Ya
 AQ:Nat->Option Obj
instance:CoeFun As fun _=>Nat->Option Ya:=⟨As.spot⟩
def As.none:As:=⟨fun _=>Option.none,fun _=>Option.none⟩
def Iv (AQ:Nat->Option Obj) (r:Nat) (a:Array Value) (e:TypeId):Prop:=∃fr:Nat×Nat,AQ r=some (.cells a e fr)
theorem Iv.mono {AQ ice':Nat->Option Obj} (j:∀g o,AQ g=some o->ice' g=some o) {r:Nat} {a:Array Value} {e:TypeId} (h:Iv AQ r a e):Iv ice' r a e:=by obtain ⟨fr,h⟩:=h;exact ⟨fr,j _ _ h⟩
section
variable (AQ:Nat->Option Obj)
mutual
def Ij:PV->Value->Prop
 |.bool b,v=>v=.bool b
 |.int k n,v=>v=.int k n
 |.str s,v=>∃b:ByteArray,v=.string b/\strOf b=s
 |.list es l,v=>∃c,l.length<=c/\((l=[]/\∃p,v=.slice p 0 c)∨∃r δ a e,v=.slice (some ⟨r,δ,none⟩) l.length c/\Iv AQ r a e/\BF es a δ l)
 |.nilp,v=>v=.pointer none
def AG (a:Array Value) (δ:Nat):List PV->Prop
 |[]=>True
 |p::ps=>(∃u,a[δ]?=some u/\Ij p u)/\AG a (δ+1) ps
def BF (j:Nat) (a:Array Value) (δ:Nat):List (List PV)->Prop
 |[]=>True
 |ps::r=>ps.length=j/\AG a δ ps/\BF j a (δ+j) r
end
def IV:List (List Nat×List PV)->List MapEntry->Prop
 |[],ms=>ms=[]
 |e::es,ms=>∃m rest,ms=m::rest/\(∃b:ByteArray,m.key=.string b/\strOf b=e.1)/\(∃a:Array Value,m.val=.agg a/\a.size=e.2.length/\AG AQ a 0 e.2)/\IV es rest
end
section
variable (ρ:Env) (μ:As)
mutual
def Ah:Ab->Value->Prop
 |.any,_=>True
 |.bool b,v=>v=.bool (b.den ρ)
 |.int k n,v=>v=.int k (n.den ρ)
 |.str s,v=>∃b:ByteArray,v=.string b/\strOf b=s
 |.ptr b off,v=>∃r δ m,μ b=some (r,δ,m)/\v=.pointer (some ⟨r,δ+off,none⟩)
 |.nilPtr,v=>v=.pointer none
 |.slice b off len c,v=>∃r δ m,μ b=some (r,δ,m)/\v=.slice (some ⟨r,δ+off,none⟩) len c/\len<=c
 |.gslice b off len es,v=>∃r δ m c,μ b=some (r,δ,m)/\v=.slice (some ⟨r,δ+off,none⟩) len c/\len<=c/\off+c*es<=m
 |.nilSlice,v=>v=.slice none 0 0
 |.map b,v=>∃r,μ b=some (r,0,0)/\v=.map (some r)
 |.nilMap,v=>v=.map none
 |.func f a c,v=>∃q z:Array Value,v=.func (.func f) q z/\A4 a q.toList/\A4 c z.toList
 |.nilFunc,v=>v=.nilFunc
 |.iface t x,v=>∃u,v=.iface t u/\Ah x u
 |.nilIface,v=>v=.nilIface
 |.agg cs,v=>∃a:Array Value,v=.agg a/\Aw cs a.toList
 |.tuple vs,v=>∃a:Array Value,v=.tuple a/\A4 vs a.toList
 |.anyStr n,v=>∃b:ByteArray,v=.string b/\1<=b.size/\b.size<=n
 |.gbytes b,v=>∃r m,μ b=some (r,0,m)/\v=.slice (some ⟨r,0,none⟩) (BD m) (BM m)/\1<=BD m/\BD m<=BM m
 |.glen b,v=>∃r m,μ b=some (r,0,m)/\v=.int .i64 (BD m:Nat)
 |.svar i,v=>∃b:ByteArray,v=.string b/\strOf b=ρ.str i
 |.lst full i es n,v=>Ij μ.AQ (.list es (ρ.lst i)) v/\n.den ρ=((ρ.lst i).length:Int)/\(full=true->∃p,v=.slice p (ρ.lst i).length (ρ.lst i).length)
 |.lptr i j off,v=>∃r δ a e ps,v=.pointer (some ⟨r,δ+off,none⟩)/\Iv μ.AQ r a e/\0<=j.den ρ/\(ρ.lst i)[(j.den ρ).toNat]?=some ps/\AG μ.AQ a δ ps
 |.vec b _ n,v=>∃r m k,μ b=some (r,0,m)/\v=.slice (some ⟨r,0,none⟩) k (BM m)/\n.den ρ=(k:Int)/\k<=BD m/\BD m<=BM m
 |.vptr b es j off,v=>∃r m,μ b=some (r,0,m)/\v=.pointer (some ⟨r,(j.den ρ).toNat*es+off,none⟩)/\0<=j.den ρ
def A4:List Ab->List Value->Prop
 |[],vs=>vs=[]
 |a::as,vs=>∃v rest,vs=v::rest/\Ah a v/\A4 as rest
def Aw:List Ab->List Value->Prop
 |[],vs=>vs=[]
 |a::as,vs=>∃v rest,vs=v::rest/\(a.single=true/\Ah a v)/\Aw as rest
end
end
structure As.le (μ μ':As):Prop where
 to:∀b x,μ b=some x->μ' b=some x
 AQ:∀g o,μ.AQ g=some o->μ'.AQ g=some o
theorem As.le_refl (μ:As):μ.le μ:=⟨fun _ _ h=>h,fun _ _ h=>h⟩
theorem As.le_trans {μ μ' j:As} (h:μ.le μ') (q:μ'.le j):μ.le j:=⟨fun _ _ e=>q.to _ _ (h.to _ _ e),fun _ _ e=>q.AQ _ _ (h.AQ _ _ e)⟩
section
variable {AQ ice':Nat->Option Obj} (h:∀g o,AQ g=some o->ice' g=some o)
include h
mutual
theorem Ij.mono:∀{p:PV} {v:Value},Ij AQ p v->Ij ice' p v
 |.bool _,_,e=>e
 |.int _ _,_,e=>e
 |.str _,_,e=>e
 |.nilp,_,e=>e
 |.list es l,v,e=>by
  simp only [Ij]at e⊢
  obtain ⟨c,hc,e⟩:=e
  refine ⟨c,hc,?_⟩
  rcases e with e|⟨r,δ,a,t,e1,e2,e3⟩
  ·exact .inl e
  ·exact .inr ⟨r,δ,a,t,e1,e2.mono h,BF.mono e3⟩
theorem AG.mono:∀{ps:List PV} {a:Array Value} {δ:Nat},AG AQ a δ ps->AG ice' a δ ps
 |[],_,_,_=>trivial
 |p::ps,a,δ,e=>by
  simp only [AG]at e⊢
  obtain ⟨⟨u,q,v⟩,j⟩:=e
  exact ⟨⟨u,q,Ij.mono v⟩,AG.mono j⟩
theorem BF.mono:∀{l:List (List PV)} {j:Nat} {a:Array Value} {δ:Nat},BF AQ j a δ l->BF ice' j a δ l
 |[],_,_,_,_=>trivial
 |ps::r,j,a,δ,e=>by
  simp only [BF]at e⊢
  obtain ⟨q,v,x⟩:=e
  exact ⟨q,AG.mono v,BF.mono x⟩
end
theorem IV.mono:∀{l:List (List Nat×List PV)} {ms:List MapEntry},IV AQ l ms->IV ice' l ms
 |[],_,e=>e
 |_::_,_,e=>let ⟨m,rest,e1,e2,⟨a,e3,e4,e5⟩,e6⟩:=e;⟨m,rest,e1,e2,⟨a,e3,e4,AG.mono h e5⟩,IV.mono e6⟩
end
section
variable {ρ:Env} {μ μ':As} (h:μ.le μ')
include h
mutual
theorem Ah.mono:∀{a:Ab} {v:Value},Ah ρ μ a v->Ah ρ μ' a v
 |.any,_,_=>trivial
 |.bool _,_,e=>e
 |.int _ _,_,e=>e
 |.str _,_,e=>e
 |.ptr b off,_,e=>let ⟨r,δ,m,e1,e2⟩:=e;⟨r,δ,m,h.to _ _ e1,e2⟩
 |.nilPtr,_,e=>e
 |.slice b off len cap,_,e=>let ⟨r,δ,m,e1,e2⟩:=e;⟨r,δ,m,h.to _ _ e1,e2⟩
 |.gslice b off len es,_,e=>let ⟨r,δ,m,c,e1,e2⟩:=e;⟨r,δ,m,c,h.to _ _ e1,e2⟩
 |.nilSlice,_,e=>e
 |.map b,_,e=>let ⟨r,e1,e2⟩:=e;⟨r,h.to _ _ e1,e2⟩
 |.nilMap,_,e=>e
 |.func f a c,_,e=>let ⟨a',c',e1,e2,e3⟩:=e;⟨a',c',e1,A4.mono e2,A4.mono e3⟩
 |.nilFunc,_,e=>e
 |.iface t x,_,e=>let ⟨u,e1,e2⟩:=e;⟨u,e1,Ah.mono e2⟩
 |.nilIface,_,e=>e
 |.agg cs,_,e=>let ⟨a,e1,e2⟩:=e;⟨a,e1,Aw.mono e2⟩
 |.tuple vs,_,e=>let ⟨a,e1,e2⟩:=e;⟨a,e1,A4.mono e2⟩
 |.anyStr _,_,e=>e
 |.gbytes _,_,e=>let ⟨r,m,e1,e2⟩:=e;⟨r,m,h.to _ _ e1,e2⟩
 |.glen _,_,e=>let ⟨r,m,e1,e2⟩:=e;⟨r,m,h.to _ _ e1,e2⟩
 |.svar _,_,e=>e
 |.lst _ _ _ _,_,e=>⟨Ij.mono h.AQ e.1,e.2⟩
 |.lptr _ _ _,_,e=>let ⟨r,δ,a,t,ps,e1,e2,e3,e4,e5⟩:=e;⟨r,δ,a,t,ps,e1,(e2.mono h.AQ),e3,e4,AG.mono h.AQ e5⟩
 |.vec _ _ _,_,e=>let ⟨r,m,k,e1,e2⟩:=e;⟨r,m,k,h.to _ _ e1,e2⟩
 |.vptr _ _ _ _,_,e=>let ⟨r,m,e1,e2⟩:=e;⟨r,m,h.to _ _ e1,e2⟩
theorem A4.mono:∀{as:List Ab} {vs:List Value},A4 ρ μ as vs->A4 ρ μ' as vs
 |[],_,e=>e
 |_::_,_,e=>let ⟨v,rest,e1,e2,e3⟩:=e;⟨v,rest,e1,Ah.mono e2,A4.mono e3⟩
theorem Aw.mono:∀{as:List Ab} {vs:List Value},Aw ρ μ as vs->Aw ρ μ' as vs
 |[],_,e=>e
 |_::_,_,e=>let ⟨v,rest,e1,⟨e2,e2'⟩,e3⟩:=e;⟨v,rest,e1,⟨e2,Ah.mono e2'⟩,Aw.mono e3⟩
end
end
section
variable {ρ:Env} {μ:As}
theorem Aw.length:∀{as:List Ab} {vs:List Value},Aw ρ μ as vs->as.length=vs.length
 |[],_,e=>by simp only [Aw]at e;rw [e];rfl
 |_::_,_,e=>by
  simp only [Aw]at e
  obtain ⟨v,rest,rfl,_,h⟩:=e
  simp [Aw.length h]
theorem Aw.get:∀{as:List Ab} {vs:List Value} {i:Nat} {a:Ab},Aw ρ μ as vs->as[i]?=some a->∃v,vs[i]?=some v/\a.single=true/\Ah ρ μ a v
 |[],_,i,_,_,h=>by simp at h
 |b::as,_,i,a,e,h=>by
  simp only [Aw]at e
  obtain ⟨v,rest,rfl,hb,j⟩:=e
  cases i with
  |zero=>simp only [List.getElem?_cons_zero,oI]at h;subst h;exact ⟨v,rfl,hb⟩
  |succ i=>simpa using Aw.get j (by simpa using h)
theorem Aw.Kn:∀{as:List Ab} {vs:List Value},as.length=vs.length->(∀(i:Nat) (a:Ab),as[i]?=some a->∃v,vs[i]?=some v/\a.single=true/\Ah ρ μ a v)->Aw ρ μ as vs
 |[],vs,hl,_=>by simp only [Aw];exact List.eq_nil_of_length_eq_zero (by simpa using hl.symm)
 |a::as,[],hl,_=>by simp at hl
 |a::as,v::vs,hl,h=>by
  simp only [Aw]
  obtain ⟨u,j,q⟩:=h 0 a rfl
  simp only [List.getElem?_cons_zero,oI]at j
  subst j
  exact ⟨v,vs,rfl,q,Aw.Kn (by simpa using hl) fun i b hb=>by simpa using h (i+1) b (by simpa using hb)⟩
theorem Aw.append:∀{as bs:List Ab} {vs us:List Value},Aw ρ μ as vs->Aw ρ μ bs us->Aw ρ μ (as++bs) (vs++us)
 |[],_,_,_,h,h'=>by simp only [Aw]at h;subst h;exact h'
 |_::_,_,_,_,h,h'=>by
  simp only [Aw]at h
  obtain ⟨v,rest,rfl,q,j⟩:=h
  simp only [List.cons_append,Aw]
  exact ⟨v,_,rfl,q,Aw.append j h'⟩
theorem A4.append:∀{as bs:List Ab} {vs us:List Value},A4 ρ μ as vs->A4 ρ μ bs us->A4 ρ μ (as++bs) (vs++us)
 |[],_,_,_,h,h'=>by simp only [A4]at h;subst h;exact h'
 |_::_,_,_,_,h,h'=>by
  simp only [A4]at h
  obtain ⟨v,rest,rfl,q,j⟩:=h
  simp only [List.cons_append,A4]
  exact ⟨v,_,rfl,q,A4.append j h'⟩
theorem A4.get:∀{as:List Ab} {vs:List Value} {i:Nat} {a:Ab},A4 ρ μ as vs->as[i]?=some a->∃v,vs[i]?=some v/\Ah ρ μ a v
 |[],_,i,_,_,h=>by simp at h
 |b::as,_,i,a,e,h=>by
  simp only [A4]at e
  obtain ⟨v,rest,rfl,hb,j⟩:=e
  cases i with
  |zero=>simp only [List.getElem?_cons_zero,oI]at h;subst h;exact ⟨v,rfl,hb⟩
  |succ i=>simpa using A4.get j (by simpa using h)
theorem Ah.Q1 {a:Ab} {v:Value} (h:Ah ρ μ a v) (hs:a.single=true):v.oneCell'=true:=by
 cases a<;>simp only [Ab.single,Bool.false_eq_true]at hs<;>simp only [Ah]at h
 case bool|int|nilPtr|nilSlice|nilMap|nilFunc|nilIface=>subst h;rfl
 case str=>obtain ⟨_,rfl,_⟩:=h;rfl
 case ptr=>obtain ⟨_,_,_,_,rfl⟩:=h;rfl
 case slice=>obtain ⟨_,_,_,_,rfl,_⟩:=h;rfl
 case gslice=>obtain ⟨_,_,_,_,_,rfl,_⟩:=h;rfl
 case map=>obtain ⟨_,_,rfl⟩:=h;rfl
 case func=>obtain ⟨_,_,rfl,_⟩:=h;rfl
 case iface=>obtain ⟨_,rfl,_⟩:=h;rfl
 case anyStr=>obtain ⟨_,rfl,_⟩:=h;rfl
 case gbytes=>obtain ⟨_,_,_,rfl,_⟩:=h;rfl
 case glen=>obtain ⟨_,_,_,rfl⟩:=h;rfl
 case svar=>obtain ⟨_,rfl,_⟩:=h;rfl
 case lst=>
  simp only [Ij]at h
  obtain ⟨⟨_,_,⟨_,_,rfl⟩|⟨_,_,_,_,rfl,_⟩⟩,_⟩:=h<;>rfl
 case lptr=>obtain ⟨_,_,_,_,_,rfl,_⟩:=h;rfl
 case vec=>obtain ⟨_,_,_,_,rfl,_⟩:=h;rfl
 case vptr=>obtain ⟨_,_,_,rfl,_⟩:=h;rfl
theorem Ah.cells {a:Ab} {v:Value} {cs:List Ab} (h:Ah ρ μ a v) (hc:a.cells=some cs):Aw ρ μ cs v.cells.toList:=by
 cases a<;>simp only [Ab.cells,oI,reduceCtorEq]at hc
 case agg=>
  subst hc
  simp only [Ah]at h
  obtain ⟨a,rfl,h⟩:=h
  exact h
 all_goals
  subst hc
  have q:v.cells.toList=[v]:=by
   have j:=h.Q1 (by rfl)
   cases v<;>first|rfl|(simp [Value.oneCell']at j)
  rw [q]
  simp only [Aw]
  exact ⟨v,[],rfl,⟨by rfl,h⟩,rfl⟩
end
section
variable (ρ:Env) (μ:As)
def Acu (e:Entry) (m:MapEntry):Prop:=e.key.single=true/\Ah ρ μ e.key m.key/\Ah ρ μ e.val m.val/\m.born=e.born
def BN:List Entry->List MapEntry->Prop
 |[],ms=>ms=[]
 |e::es,ms=>∃m rest,ms=m::rest/\Acu ρ μ e m/\BN es rest
def C3:Block->Option Obj->Nat×Nat->Prop
 |.cells vs,o,(δ,m)=>∃c e,o=some (.cells c e (0,0))/\δ+m<=c.size/\∀(i:Nat) (a:Ab),vs[i]?=some a->∃v,c[δ+i]?=some v/\a.single=true/\Ah ρ μ a v
 |.map es j,o,δ=>δ=(0,0)/\∃ms:Array MapEntry,o=some (.map ms j)/\BN ρ μ es ms.toList
 |.typed e vs,o,(δ,m)=>∃c,o=some (.cells c e (0,0))/\(δ=0/\c.size=vs.length)/\δ+m<=c.size/\∀(i:Nat) (a:Ab),vs[i]?=some a->∃v,c[δ+i]?=some v/\a.single=true/\Ah ρ μ a v
 |.bytes n e,o,(δ,m)=>∃c,o=some (.cells c e (0,0))/\δ=0/\1<=BD m/\BD m<=n/\n<=1048576/\BD m<=BM m/\BM m<=c.size/\∀i,i<BM m->∃x:UInt8,c[i]?=some (.int .u8 x.toNat)
 |.sbytes t e,o,(δ,m)=>∃c,o=some (.cells c e (0,0))/\δ=0/\1<=BD m/\(BD m:Int)<=t.den ρ/\t.den ρ<=1048576/\BD m<=BM m/\BM m<=c.size/\∀i,i<BM m->∃x:UInt8,c[i]?=some (.int .u8 x.toNat)
 |.list i es,o,(δ,m)=>∃c e,o=some (.cells c e (0,0))/\δ=0/\(ρ.lst i).length<=BD m/\BD m<=1048576/\BD m<=BM m/\BM m*es<=c.size/\BF μ.AQ es c 0 (ρ.lst i)
 |.smap i,o,δ=>δ=(0,0)/\∃(ms:Array MapEntry) (j:Nat),o=some (.map ms j)/\IV μ.AQ (ρ.map i) ms.toList
def AF (h:Al) (r:Nat):Prop:=∃b B δ,h.get b=some B/\μ b=some (r,δ)
structure Yi (h:Al) (w:World):Prop where
 AJ:∀g o,ρ.AJ g=some o->w.heap[g]?=some o/\¬AF μ h g
 AQ:∀g o,μ.AQ g=some o->w.heap[g]?=some o/\¬AF μ h g
 facts:h.fx.AB ρ
structure AD (h:Al) (w:World):Prop where
 fresh:∀b,h.next<=b->μ b=none
 blk:∀b B,h.get b=some B->∃r δ,μ b=some (r,δ)/\C3 ρ μ B w.heap[r]? δ
 inj:∀b b' B B' r δ δ',h.get b=some B->h.get b'=some B'->μ b=some (r,δ)->μ b'=some (r,δ')->b=b'
 AJ:Yi ρ μ h w
end
section
variable {ρ:Env} {μ μ':As}
theorem Acu.mono (h:μ.le μ') {e:Entry} {m:MapEntry} (x:Acu ρ μ e m):Acu ρ μ' e m:=⟨x.1,x.2.1.mono h,x.2.2.1.mono h,x.2.2.2⟩
theorem BN.mono (h:μ.le μ'):∀{j:List Entry} {ms:List MapEntry},BN ρ μ j ms->BN ρ μ' j ms
 |[],_,e=>e
 |_::_,_,e=>let ⟨m,rest,e1,e2,e3⟩:=e;⟨m,rest,e1,e2.mono h,BN.mono h e3⟩
theorem C3.mono (h:μ.le μ') {B:Block} {o:Option Obj} {δ:Nat×Nat} (x:C3 ρ μ B o δ):C3 ρ μ' B o δ:=by
 cases B with
 |cells vs=>
  obtain ⟨c,e,j,q,hc⟩:=x
  exact ⟨c,e,j,q,fun i a ha=>let ⟨v,h1,h2,h3⟩:=hc i a ha;⟨v,h1,h2,h3.mono h⟩⟩
 |map es clock=>
  obtain ⟨A,ms,j,M⟩:=x
  exact ⟨A,ms,j,M.mono h⟩
 |typed t vs=>
  obtain ⟨c,j,hs,q,hc⟩:=x
  exact ⟨c,j,hs,q,fun i a ha=>let ⟨v,h1,h2,h3⟩:=hc i a ha;⟨v,h1,h2,h3.mono h⟩⟩
 |bytes n t=>exact x
 |sbytes n t=>exact x
 |list i es=>obtain ⟨c,e,z,C,N,L,I,J,H⟩:=x;exact ⟨c,e,z,C,N,L,I,J,BF.mono h.AQ H⟩
 |smap i=>obtain ⟨A,ms,c,z,C⟩:=x;exact ⟨A,ms,c,z,IV.mono h.AQ C⟩
theorem C3.some {B:Block} {o:Option Obj} {δ:Nat×Nat} (x:C3 ρ μ B o δ):∃x,o=some x:=by
 cases B with
 |cells vs=>obtain ⟨c,e,j,_⟩:=x;exact ⟨_,j⟩
 |map es clock=>obtain ⟨_,ms,j,_⟩:=x;exact ⟨_,j⟩
 |typed t vs=>obtain ⟨c,j,_⟩:=x;exact ⟨_,j⟩
 |bytes n t=>obtain ⟨c,j,_⟩:=x;exact ⟨_,j⟩
 |sbytes n t=>obtain ⟨c,j,_⟩:=x;exact ⟨_,j⟩
 |list i es=>obtain ⟨c,e,j,_⟩:=x;exact ⟨_,j⟩
 |smap i=>obtain ⟨_,ms,c,j,_⟩:=x;exact ⟨_,j⟩
theorem AD.lt {h:Al} {w:World} (H:AD ρ μ h w) {b:Nat} {B:Block} {r:Nat} {δ:Nat×Nat} (hb:h.get b=some B) (q:μ b=some (r,δ)):r<w.heap.size:=by
 obtain ⟨z,A,j,hB⟩:=H.blk b B hb
 rw [q]at j
 simp only [oI,Prod.mk.injEq]at j
 obtain ⟨rfl,rfl⟩:=j
 obtain ⟨x,v⟩:=hB.some
 rcases Nat.lt_or_ge r w.heap.size with h'|h'
 ·exact h'
 ·simp [Array.getElem?_eq_none h']at v
theorem AD.Fj {h:Al} {w:World} (H:AD ρ μ h w) {b:Nat} {B:Block} (hb:h.get b=some B):b<h.next:=by
 obtain ⟨r,δ,j,_⟩:=H.blk b B hb
 rcases Nat.lt_or_ge b h.next with h'|h'
 ·exact h'
 ·rw [H.fresh b h']at j;cases j
end
structure Av (ρ:Env) (μ:As) (h:Al) (w:World) (μ':As) (h':Al) (w':World):Prop where
 le:μ.le μ'
 rel:AD ρ μ' h' w'
 size:w.heap.size<=w'.heap.size
 kept:∀r,r<w.heap.size->¬AF μ h r->w'.heap[r]?=w.heap[r]?/\¬AF μ' h' r
 os:w'.os=w.os
 output:w'.output=w.output
 next:h.next<=h'.next
 old:∀b,b<h.next->μ' b=μ b
 icy:∀g o,μ'.AQ g=some o->μ.AQ g=some o∨AF μ h g∨w.heap.size<=g
 fx:h'.fx=h.fx
theorem Av.refl {ρ:Env} {μ:As} {h:Al} {w:World} (H:AD ρ μ h w):Av ρ μ h w μ h w:=
 ⟨μ.le_refl,H,Nat.le_refl _,fun _ _ h=>⟨rfl,h⟩,rfl,rfl,Nat.le_refl _,fun _ _=>rfl,fun _ _ h=>.inl h,rfl⟩
theorem Av.trans {ρ:Env} {μ μ' z:As} {h B v:Al} {w w' x:World} (g:Av ρ μ h w μ' B w') (j:Av ρ μ' B w' z v x):
  Av ρ μ h w z v x where
 le:=As.le_trans g.le j.le
 rel:=j.rel
 size:=Nat.le_trans g.size j.size
 kept:=fun r H q=>by
  obtain ⟨e,C⟩:=g.kept r H q
  obtain ⟨I,A⟩:=j.kept r (Nat.lt_of_lt_of_le H g.size) C
  exact ⟨I.trans e,A⟩
 os:=j.os.trans g.os
 output:=j.output.trans g.output
 next:=Nat.le_trans g.next j.next
 old:=fun b hb=>(j.old b (Nat.lt_of_lt_of_le hb g.next)).trans (g.old b hb)
 icy:=fun k o J=>by
  rcases j.icy k o J with h1|h1|h1
  ·exact g.icy k o h1
  ·rcases Nat.lt_or_ge k w.heap.size with hlt|hge
   ·by_cases q:AF μ h k
    ·exact .inr (.inl q)
    ·exact absurd h1 (g.kept k hlt q).2
   ·exact .inr (.inr hge)
  ·exact .inr (.inr (Nat.le_trans g.size h1))
 fx:=j.fx.trans g.fx
theorem AD.drew {ρ:Env} {μ:As} {h:Al} {w:World} (H:AD ρ μ h w):AD ρ μ h {w with drawn:=w.drawn+1}:=⟨H.fresh,H.blk,H.inj,⟨H.AJ.AJ,H.AJ.AQ,H.AJ.facts⟩⟩
theorem Yi.of {ρ:Env} {μ μ':As} {h j:Al} {w w':World} (F:Yi ρ μ h w) (q:∀r,r<w.heap.size->¬AF μ h r->w'.heap[r]?=w.heap[r]?/\¬AF μ' j r) (A:μ'.AQ=μ.AQ) (v:j.fx=h.fx):Yi ρ μ' j w':=by
 have key:∀g (o:Obj),w.heap[g]?=some o/\¬AF μ h g->w'.heap[g]?=some o/\¬AF μ' j g:=fun g o ⟨h1,h2⟩=>by
  obtain ⟨x,z⟩:=q g (Array.getElem?_eq_some_iff.1 h1).1 h2
  exact ⟨x.trans h1,z⟩
 exact ⟨fun g o hg=>key g o (F.AJ g o hg),fun g o hg=>key g o (F.AQ g o (A▸hg)),v▸F.facts⟩
theorem AD.FZ {ρ:Env} {μ μ':As} {h j:Al} {w w':World} (H:AD ρ μ h w) (q:∀r,r<w.heap.size->¬AF μ h r->w'.heap[r]?=w.heap[r]?/\¬AF μ' j r) (x:μ'.AQ=μ.AQ:=by rfl) (v:j.fx=h.fx:=by rfl):
  Yi ρ μ' j w':=H.AJ.of q x v
theorem Av.drew {ρ:Env} {μ:As} {h:Al} {w:World} (H:AD ρ μ h w):Av ρ μ h w μ h {w with drawn:=w.drawn+1}:=
 ⟨μ.le_refl,H.drew,Nat.le_refl _,fun _ _ h=>⟨rfl,h⟩,rfl,rfl,Nat.le_refl _,fun _ _=>rfl,fun _ _ h=>.inl h,rfl⟩
def As.put (μ:As) (b:Nat) (x:Ya):As:=⟨fun c=>if c=b then some x else μ c,μ.AQ⟩
theorem As.QD {μ:As} {b:Nat} {x:Ya} (h:μ b=Option.none):μ.le (μ.put b x):=⟨fun c y e=>by
 simp only [As.put]
 by_cases hc:c=b
 ·subst hc;rw [h]at e;cases e
 ·rw [if_neg hc];exact e,fun _ _ e=>e⟩
theorem As.BC (μ:As) (b:Nat) (x:Ya):μ.put b x b=some x:=by simp [As.put]
theorem As.BX (μ:As) {b c:Nat} (x:Ya) (h:c≠b):μ.put b x c=μ c:=by simp [As.put,h]
theorem Al.AY (h:Al) (b c:Nat) (o:Option Block):(h.set b o).get c=if c=b then o else h.get c:=Tr.AY _ _ _ _
theorem Al.J6 (h:Al) (c:Nat) (B:Block):(h.add B).get c=if c=h.next then some B else h.get c:=Tr.AY _ _ _ _
theorem Al.Jv (h:Al) (b:Nat) (o:Option Block):(h.set b o).next=h.next:=rfl
theorem Al.Jw (h:Al) (B:Block):(h.add B).next=h.next+1:=rfl
theorem World.Ds (w:World) (o:Obj) {r:Nat} (j:r<w.heap.size):(w.alloc o).heap[r]?=w.heap[r]?:=by
 show (w.heap.push o)[r]?=_
 rw [Array.getElem?_push,if_neg (by omega)]
theorem World.heap_alloc_new (w:World) (o:Obj):(w.alloc o).heap[w.heap.size]?=some o:=by
 show (w.heap.push o)[w.heap.size]?=_
 simp
theorem Av.add {ρ:Env} {μ:As} {h:Al} {w:World} (H:AD ρ μ h w) (B:Block) (o:Obj) (δ:Nat×Nat)
  (hB:∀μ':As,μ.le μ'->C3 ρ μ' B (some o) δ):Av ρ μ h w (μ.put h.next (w.heap.size,δ)) (h.add B) (w.alloc o):=by
 have z:μ.le (μ.put h.next (w.heap.size,δ)):=As.QD (H.fresh _ (Nat.le_refl _))
 have A:∀b q r v,(h.add B).get b=some q->μ.put h.next (w.heap.size,δ) b=some (r,v)->(b=h.next/\r=w.heap.size)∨(h.get b=some q/\μ b=some (r,v)/\r<w.heap.size):=fun b q r v hb j=>by
  rw [Al.J6]at hb
  by_cases e:b=h.next
  ·subst e
   rw [As.BC]at j
   simp only [oI,Prod.mk.injEq]at j
   exact .inl ⟨rfl,j.1.symm⟩
  ·rw [if_neg e]at hb
   rw [As.BX _ _ e]at j
   exact .inr ⟨hb,j,H.lt hb j⟩
 have x:∀r,r<w.heap.size->¬AF μ h r->(w.alloc o).heap[r]?=w.heap[r]?/\¬AF (μ.put h.next (w.heap.size,δ)) (h.add B) r:=fun r C L=>⟨World.Ds _ _ C,by
  rintro ⟨b,q,v,hb,j⟩
  rcases A _ _ _ _ hb j with ⟨_,e⟩|⟨g,n,_⟩
  ·omega
  ·exact L ⟨b,q,v,g,n⟩⟩
 refine ⟨z,⟨fun b hb=>?_,fun b q hb=>?_,fun b M B1 N r P O I J m1 m2=>?_,H.FZ x⟩,?_,x,rfl,rfl,Nat.le_succ _,fun b hb=>As.BX _ _ (by omega),fun _ _ h=>.inl h,rfl⟩
 ·rw [Al.Jw]at hb
  rw [As.BX _ _ (by omega)]
  exact H.fresh b (by omega)
 ·rw [Al.J6]at hb
  by_cases e:b=h.next
  ·subst e
   rw [if_pos rfl]at hb
   simp only [oI]at hb
   subst hb
   exact ⟨_,_,As.BC _ _ _,by rw [World.heap_alloc_new];exact hB _ z⟩
  ·rw [if_neg e]at hb
   obtain ⟨r,v,j,C⟩:=H.blk b q hb
   exact ⟨r,v,by rw [As.BX _ _ e];exact j,by rw [World.Ds _ _ (H.lt hb j)];exact C.mono z⟩
 ·rcases A _ _ _ _ I m1 with ⟨e1,e2⟩|⟨g1,n1,l1⟩<;>rcases A _ _ _ _ J m2 with ⟨e3,e4⟩|⟨g2,n2,l2⟩
  ·rw [e1,e3]
  ·omega
  ·omega
  ·exact H.inj _ _ _ _ _ _ _ g1 g2 n1 n2
 ·show w.heap.size<=(w.heap.push o).size;simp
theorem AD.drop {ρ:Env} {μ:As} {h:Al} {w:World} (H:AD ρ μ h w) (j:Al) (z:j.next=h.next) (q:j.fx=h.fx) (hs:∀b B,j.get b=some B->h.get b=some B):AD ρ μ j w:=
 ⟨fun b hb=>H.fresh b (z▸hb),fun b B hb=>H.blk b B (hs b B hb),fun _ _ _ _ _ _ _ x A m1 m2=>H.inj _ _ _ _ _ _ _ (hs _ _ x) (hs _ _ A) m1 m2,
  H.FZ (fun _ _ v=>⟨rfl,fun ⟨c,B,δ,hc,hm⟩=>v ⟨c,B,δ,hs c B hc,hm⟩⟩) rfl q⟩
theorem Av.change {ρ:Env} {μ:As} {h:Al} {w w':World} (H:AD ρ μ h w) {b:Nat} {B0:Block} {r:Nat} {δ:Nat×Nat} (hb:h.get b=some B0) (x:μ b=some (r,δ)) (B:Block)
  (L:∀i,i≠r->w'.heap[i]?=w.heap[i]?) (U:w'.heap.size=w.heap.size) (J:w'.os=w.os) (A:w'.output=w.output) (hB:C3 ρ μ B w'.heap[r]? δ):Av ρ μ h w μ (h.set b (some B)) w':=by
 have v:∀s,s<w.heap.size->¬AF μ h s->w'.heap[s]?=w.heap[s]?/\¬AF μ (h.set b (some B)) s:=fun s hs N=>by
  have z:s≠r:=fun e=>N ⟨b,B0,δ,hb,e▸x⟩
  refine ⟨L s z,?_⟩
  rintro ⟨c,q,C,hc,j⟩
  rw [Al.AY]at hc
  by_cases e:c=b
  ·subst e
   rw [x]at j
   simp only [oI,Prod.mk.injEq]at j
   exact z j.1.symm
  ·rw [if_neg e]at hc
   exact N ⟨c,q,C,hc,j⟩
 refine ⟨μ.le_refl,⟨fun c hc=>H.fresh c hc,fun c q hc=>?_,fun c X B1 V s Z Y O P m1 m2=>?_,H.FZ v⟩,by omega,v,J,A,Nat.le_refl _,fun _ _=>rfl,fun _ _ h=>.inl h,rfl⟩
 ·rw [Al.AY]at hc
  by_cases e:c=b
  ·subst e
   rw [if_pos rfl]at hc
   simp only [oI]at hc
   subst hc
   exact ⟨r,δ,x,hB⟩
  ·rw [if_neg e]at hc
   obtain ⟨s,C,j,Q⟩:=H.blk c q hc
   refine ⟨s,C,j,?_⟩
   rw [L s (fun R=>e (H.inj _ _ _ _ _ _ _ hc hb j (R▸x)))]
   exact Q
 ·have I:∀c q,(h.set b (some B)).get c=some q->∃M,h.get c=some M:=fun c q hc=>by
   rw [Al.AY]at hc
   by_cases e:c=b
   ·exact ⟨B0,e▸hb⟩
   ·rw [if_neg e]at hc;exact ⟨q,hc⟩
  obtain ⟨_,g1⟩:=I _ _ O
  obtain ⟨_,g2⟩:=I _ _ P
  exact H.inj _ _ _ _ _ _ _ g1 g2 m1 m2
end
section
theorem Ac {α β:Type} {o:Option α} {f:α->Option β} {b:β} (h:A6 o f=some b):∃a,o=some a/\f a=some b:=by
 cases o with
 |none=>exact absurd h (by simp [A6])
 |some a=>exact ⟨a,rfl,h⟩
theorem Ap {α:Type} {c:Bool} {x:Option α} {b:α} (h:(bif c then x else none)=some b):c=true/\x=some b:=by
 cases c with
 |false=>simp at h
 |true=>exact ⟨rfl,h⟩
theorem AI {a b:Nat}:Nat.ble a b=true↔a<=b:=⟨Nat.le_of_ble_eq_true,Nat.ble_eq_true_of_le⟩
theorem Ib {a b:Nat}:Nat.blt a b=true↔a<b:=AI
theorem An {a b:Nat}:Nat.beq a b=true↔a=b:=⟨Nat.eq_of_beq_eq_true,fun h=>by subst h;simp⟩
theorem Jz:∀l:List Ab,Br l=l.length
 |[]=>rfl
 |_::r=>by show Br r+1=_;rw [Jz r];rfl
theorem Kp:∀(l:List Ab) (n:Nat),nth l n=l[n]?
 |[],n=>by simp;rfl
 |x::r,0=>rfl
 |x::r,n+1=>by show nth r n=_;rw [Kp r n];simp
theorem IN:∀(n:Nat) (l:List Ab),dropped n l=l.drop n
 |0,l=>rfl
 |n+1,[]=>rfl
 |n+1,x::r=>by show dropped n r=_;rw [IN n r];rfl
theorem FY:∀{n:Nat} {l r:List Ab},taken n l=some r->r=l.take n/\n<=l.length
 |0,l,r,h=>by
  have h:some []=some r:=h
  simp only [oI]at h
  subst h;simp
 |n+1,[],r,h=>by have h:none=some r:=h;cases h
 |n+1,x::l,r,h=>by
  have h:(A6 (taken n l) fun r=>some (x::r))=some r:=h
  obtain ⟨s,hs,j⟩:=Ac h
  simp only [oI]at j
  subst j
  obtain ⟨rfl,hl⟩:=FY hs
  exact ⟨rfl,by simp;omega⟩
theorem JI {j r:List Ab} {i n:Nat} (h:cut j i n=some r):r.length=n/\(n=0∨i+n<=j.length)/\∀k,r[k]?=if k<n then j[i+k]? else none:=by
 unfold cut at h
 rw [IN]at h
 obtain ⟨rfl,hl⟩:=FY h
 rw [List.length_drop]at hl
 refine ⟨by simp;omega,by omega,fun k=>?_⟩
 rw [List.getElem?_take]
 split
 ·rw [List.getElem?_drop]
 ·rfl
theorem OI:∀{vs j r:List Ab},over vs j=some r->r.length=j.length/\vs.length<=j.length/\∀k,r[k]?=if k<vs.length then vs[k]? else j[k]?
 |[],j,r,h=>by
  have h:some j=some r:=h
  simp only [oI]at h
  subst h;simp
 |v::vs,[],r,h=>by have h:none=some r:=h;cases h
 |v::vs,x::j,r,h=>by
  have h:(A6 (over vs j) fun r=>some (v::r))=some r:=h
  obtain ⟨s,hs,q⟩:=Ac h
  simp only [oI]at q
  subst q
  obtain ⟨B,z,A⟩:=OI hs
  refine ⟨by simp [B],by simpa using z,fun k=>?_⟩
  cases k with
  |zero=>simp
  |succ k=>simp [A k]
theorem GX {vs:List Ab}:∀{i:Nat} {j r:List Ab},splice vs i j=some r->
  r.length=j.length/\i+vs.length<=j.length/\∀k,r[k]?=if i<=k/\k<i+vs.length then vs[k-i]? else j[k]?
 |0,j,r,h=>by
  have h:over vs j=some r:=h
  obtain ⟨v,A,q⟩:=OI h
  exact ⟨v,by omega,fun k=>by rw [q k];simp⟩
 |i+1,[],r,h=>by have h:none=some r:=h;cases h
 |i+1,x::j,r,h=>by
  have h:(A6 (splice vs i j) fun r=>some (x::r))=some r:=h
  obtain ⟨s,hs,z⟩:=Ac h
  simp only [oI]at z
  subst z
  obtain ⟨v,A,q⟩:=GX hs
  refine ⟨by simp [v],by simp;omega,fun k=>?_⟩
  cases k with
  |zero=>rw [if_neg (by omega)];rfl
  |succ k=>
   rw [List.getElem?_cons_succ,List.getElem?_cons_succ,q k]
   by_cases hk:i<=k/\k<i+vs.length
   ·rw [if_pos hk,if_pos (by omega)];congr 1;omega
   ·rw [if_neg hk,if_neg (by omega)]
theorem Aa2 (z:List Ab):∀n,rep z n=(List.replicate n z).flatten
 |0=>rfl
 |n+1=>by show z++rep z n=_;rw [Aa2 z n,List.replicate_succ,List.flatten_cons]
theorem I6 (z:List Ab):∀n,(rep z n).length=n*z.length
 |0=>by simp [show rep z 0=[]from rfl]
 |n+1=>by
  show (z++rep z n).length=_
  rw [lA,I6 z n,Nat.succ_mul];omega
theorem Wh (z:List Ab):∀(n k:Nat),k<n*z.length->(rep z n)[k]?=z[k%z.length]?
 |0,k,h=>by omega
 |n+1,k,h=>by
  show (z++rep z n)[k]?=_
  by_cases hk:k<z.length
  ·rw [List.getElem?_append_left hk,Nat.mod_eq_of_lt hk]
  ·rw [List.getElem?_append_right (by omega),Wh z n _ (by rw [Nat.succ_mul]at h;omega)]
   rw [<-Nat.mod_eq_sub_mod (by omega)]
theorem Db:∀l:List Nat,Ii l=l.length
 |[]=>rfl
 |_::r=>by show Ii r+1=_;rw [Db r];rfl
theorem Fi:∀(l:List Nat) (n:Nat),BY l n=l[n]?
 |[],n=>by simp;rfl
 |x::r,0=>rfl
 |x::r,n+1=>by show BY r n=_;rw [Fi r n];simp
theorem KV:∀(n:Nat) (l:List Nat),MB n l=l.drop n
 |0,l=>rfl
 |n+1,[]=>rfl
 |n+1,x::r=>by show MB n r=_;rw [KV n r];rfl
theorem KU:∀{n:Nat} {l r:List Nat},Ur n l=some r->r=l.take n
 |0,l,r,h=>by
  have h:some []=some r:=h
  simp only [oI]at h
  subst h;simp
 |n+1,[],r,h=>by have h:none=some r:=h;cases h
 |n+1,x::l,r,h=>by
  have h:(A6 (Ur n l) fun r=>some (x::r))=some r:=h
  obtain ⟨s,hs,j⟩:=Ac h
  simp only [oI]at j
  subst j
  rw [KU hs];rfl
theorem Dt:∀{a b:List Nat},Ox a b=true↔a=b
 |[],[]=>by simp;rfl
 |[],b::y=>by constructor<;>intro h<;>(first|cases h|(have h:false=true:=h;cases h))
 |a::x,[]=>by constructor<;>intro h<;>(first|cases h|(have h:false=true:=h;cases h))
 |a::x,b::y=>by
  show (Nat.beq a b&&Ox x y)=true↔_
  rw [aT,An,Dt,List.cons.injEq]
theorem WC:∀l:List Entry,Adp l=l.length
 |[]=>rfl
 |_::r=>by show Adp r+1=_;rw [WC r];rfl
theorem JX {a b:ByteArray} (h:strOf a=strOf b):a=b:=by
 unfold strOf at h
 have:a.data.toList=b.data.toList:=by
  generalize a.data.toList=x at h
  generalize b.data.toList=y at h
  induction x generalizing y with
  |nil=>cases y with
   |nil=>rfl
   |cons _ _=>simp at h
  |cons c x ih=>cases y with
   |nil=>simp at h
   |cons d y=>
    simp only [List.map_cons,List.cons.injEq]at h
    rw [UInt8.toNat_inj.1 h.1,ih y h.2]
 cases a;cases b
 simp only at this
 congr 1
 exact Array.toList_inj.1 this
theorem CA (a b:ByteArray):Ox (strOf a) (strOf b)=(a.toList==b.toList):=by
 rw [Bool.eq_iff_iff,Dt,ByteArray.toList_eq,ByteArray.toList_eq]
 simp only [beq_iff_eq]
 constructor
 ·intro h;rw [JX h]
 ·intro h;unfold strOf;rw [h]
theorem Z9 (a b:ByteArray):ltL (strOf a) (strOf b)=Op.bytesLess a.toList b.toList:=by
 rw [ByteArray.toList_eq,ByteArray.toList_eq]
 unfold strOf
 generalize a.data.toList=x
 generalize b.data.toList=y
 induction x generalizing y with
 |nil=>cases y<;>rfl
 |cons c x ih=>
  cases y with
  |nil=>rfl
  |cons d y=>
   show (Nat.blt c.toNat d.toNat||(Nat.beq c.toNat d.toNat&&ltL (x.map (·.toNat)) (y.map (·.toNat))))=(decide (c<d) ||(c==d&&Op.bytesLess x y))
   rw [ih y]
   congr 1
   ·rw [Bool.eq_iff_iff,Ib];simp [UInt8.lt_iff_toNat_lt]
   ·congr 1
    rw [Bool.eq_iff_iff,An];simp [UInt8.toNat_inj]
theorem B6 (a:ByteArray):(strOf a).length=a.size:=by
 unfold strOf;rw [List.length_map];rfl
theorem beq_iff' {a b:Bool}:beq a b=true↔a=b:=by rw [beq_eq];simp
theorem Ab.SW {x y:Ab} (h:x.eqC y=true):x=y:=by
 unfold Ab.eqC at h
 split at h<;>first
  |rfl
  |(cases h;done)
  |(simp only [aT,An]at h;obtain ⟨⟨⟨rfl,rfl⟩,rfl⟩,rfl⟩:=h;rfl)
  |(simp only [aT,An]at h;obtain ⟨rfl,rfl⟩:=h;rfl)
  |(rw [An]at h;rw [h];done)
  |(rw [Dt]at h;rw [h];done)
  |(rw [SB.AV h];done)
  |(rw [aT,Df]at h;obtain ⟨rfl,h⟩:=h;rw [ST.AV h];done)
  |(rw [aT,aT,aT,beq_iff',An,An]at h;obtain ⟨rfl,rfl,rfl,h⟩:=h;rw [ST.AV h];done)
  |(rw [aT,aT,An,An]at h;obtain ⟨rfl,h,rfl⟩:=h;rw [ST.AV h];done)
  |(rw [aT,aT,An,An]at h;obtain ⟨rfl,rfl,h⟩:=h;rw [ST.AV h];done)
  |(rw [aT,aT,aT,An,An,An]at h;obtain ⟨rfl,rfl,h,rfl⟩:=h;rw [ST.AV h];done)
theorem Ab.K5:∀{x y:List Ab},Ab.Ado x y=true->x=y
 |[],[],_=>rfl
 |[],_::_,h=>by cases h
 |_::_,[],h=>by cases h
 |a::x,b::y,h=>by
  have h:(a.eqC b&&Ab.Ado x y)=true:=h
  rw [aT]at h
  rw [Ab.SW h.1,Ab.K5 h.2]
theorem Ab.Di {x y:Ab} (h:x.eq y=true):x=y:=by
 unfold Ab.eq at h
 split at h
 ·rw [aT,aT,An]at h
  obtain ⟨rfl,j,q⟩:=h
  rw [Ab.K5 j,Ab.K5 q]
 ·exact Ab.SW h
theorem Ab.CW:∀{x y:List Ab},Ab.Pk x y=true->x=y
 |[],[],_=>rfl
 |[],_::_,h=>by cases h
 |_::_,[],h=>by cases h
 |a::x,b::y,h=>by
  have h:(a.eq b&&Ab.Pk x y)=true:=h
  rw [aT]at h
  rw [Ab.Di h.1,Ab.CW h.2]
theorem Pj:∀{x y:List (List Ab)},Aha x y=true->x=y
 |[],[],_=>rfl
 |[],_::_,h=>by cases h
 |_::_,[],h=>by cases h
 |a::x,b::y,h=>by
  have h:(Ab.Pk a b&&Aha x y)=true:=h
  rw [aT]at h
  rw [Ab.CW h.1,Pj h.2]
theorem AE.Di {x y:AE} (h:x.eq y=true):x=y:=by
 unfold AE.eq at h
 split at h
 ·rw [Pj h]
 ·rw [Nat.eq_of_beq_eq_true h]
 ·rw [aT]at h;rw [Nat.eq_of_beq_eq_true h.1,ST.AV h.2]
 ·rw [aT]at h;rw [Nat.eq_of_beq_eq_true h.1,ST.AV h.2]
 ·cases h
theorem AE.CW:∀{x y:List AE},AE.Pk x y=true->x=y
 |[],[],_=>rfl
 |[],_::_,h=>by cases h
 |_::_,[],h=>by cases h
 |a::x,b::y,h=>by
  have h:(a.eq b&&AE.Pk x y)=true:=h
  rw [aT]at h
  rw [AE.Di h.1,AE.CW h.2]
theorem FM {x y:Ab} {v:Bool}:∀{l:List (Ab×Ab×Bool)},MF x y l=some v->(x,y,v)∈l
 |[],h=>by cases h
 |e::r,h=>by
  have h:(bif x.eq e.1&&y.eq e.2.1 then some e.2.2 else MF x y r)=some v:=h
  cases c:x.eq e.1&&y.eq e.2.1 with
  |true=>
   rw [c]at h
   simp only [cond_true,oI]at h
   rw [aT]at c
   rw [Ab.Di c.1,Ab.Di c.2,<-h]
   exact List.mem_cons_self
  |false=>rw [c]at h;exact List.mem_cons_of_mem _ (FM h)
theorem OR {x y v:Ab}:∀{l:List (Ab×Ab×Ab)},Abd x y l=some v->(x,y,v)∈l
 |[],h=>by cases h
 |e::r,h=>by
  have h:(bif x.eq e.1&&y.eq e.2.1 then some e.2.2 else Abd x y r)=some v:=h
  cases c:x.eq e.1&&y.eq e.2.1 with
  |true=>
   rw [c]at h
   simp only [cond_true,oI]at h
   rw [aT]at c
   rw [Ab.Di c.1,Ab.Di c.2,<-h]
   exact List.mem_cons_self
  |false=>rw [c]at h;exact List.mem_cons_of_mem _ (OR h)
theorem Ks {i:Nat} {v:ST×Nat×Nat}:∀{l:List (Nat×ST×Nat×Nat)},Wt i l=some v->(i,v)∈l
 |[],h=>by cases h
 |e::r,h=>by
  have h:(bif Nat.beq e.1 i then some e.2 else Wt i r)=some v:=h
  cases c:Nat.beq e.1 i with
  |true=>
   rw [c]at h
   simp only [cond_true,oI]at h
   rw [<-h,<-Nat.eq_of_beq_eq_true c]
   exact List.mem_cons_self
  |false=>rw [c]at h;exact List.mem_cons_of_mem _ (Ks h)
theorem Cw {i:Nat} {v:ST}:∀{l:List (Nat×ST)},EB i l=some v->(i,v)∈l
 |[],h=>by cases h
 |e::r,h=>by
  have h:(bif Nat.beq e.1 i then some e.2 else EB i r)=some v:=h
  cases c:Nat.beq e.1 i with
  |true=>
   rw [c]at h
   simp only [cond_true,oI]at h
   rw [<-h,<-Nat.eq_of_beq_eq_true c]
   exact List.mem_cons_self
  |false=>rw [c]at h;exact List.mem_cons_of_mem _ (Cw h)
theorem HX {i:Nat} {t:ST} {v:List Ab}:∀{l:List (Nat×ST×List Ab)},OQ i t l=some v->(i,t,v)∈l
 |[],h=>by cases h
 |e::r,h=>by
  have h:(bif Nat.beq e.1 i&&e.2.1.eq t then some e.2.2 else OQ i t r)=some v:=h
  cases c:Nat.beq e.1 i&&e.2.1.eq t with
  |true=>
   rw [c]at h
   simp only [cond_true,oI]at h
   rw [aT]at c
   rw [<-Nat.eq_of_beq_eq_true c.1,<-ST.AV c.2,<-h]
   exact List.mem_cons_self
  |false=>rw [c]at h;exact List.mem_cons_of_mem _ (HX h)
theorem OP {i:Nat} {k:Ab} {v:Option (List Ab)}:∀{l:List (Nat×Ab×Option (List Ab))},Abb i k l=some v->(i,k,v)∈l
 |[],h=>by cases h
 |e::r,h=>by
  have h:(bif Nat.beq e.1 i&&k.eq e.2.1 then some e.2.2 else Abb i k r)=some v:=h
  cases c:Nat.beq e.1 i&&k.eq e.2.1 with
  |true=>
   rw [c]at h
   simp only [cond_true,oI]at h
   rw [aT]at c
   rw [<-Nat.eq_of_beq_eq_true c.1,Ab.Di c.2,<-h]
   exact List.mem_cons_self
  |false=>rw [c]at h;exact List.mem_cons_of_mem _ (OP h)
theorem ON {i j:Nat} {k:Ab} {cs:List Ab}:∀{l:List (Nat×Ab×List Ab×Nat)},Aba i k cs l=some j->(i,k,cs,j)∈l
 |[],h=>by cases h
 |e::r,h=>by
  have h:(bif Nat.beq e.1 i&&(k.eq e.2.1&&Ab.Pk cs e.2.2.1)then some e.2.2.2 else Aba i k cs r)=some j:=h
  cases c:Nat.beq e.1 i&&(k.eq e.2.1&&Ab.Pk cs e.2.2.1)with
  |true=>
   rw [c]at h
   simp only [cond_true,oI]at h
   rw [aT,aT]at c
   rw [<-Nat.eq_of_beq_eq_true c.1,Ab.Di c.2.1,Ab.CW c.2.2,<-h]
   exact List.mem_cons_self
  |false=>rw [c]at h;exact List.mem_cons_of_mem _ (ON h)
theorem OS {t u:ST} {n:Nat}:∀{l:List (ST×Nat×ST)},Abe t n l=some u->∃m,n<=m/\(t,m,u)∈l
 |[],h=>by cases h
 |e::r,h=>by
  have h:(bif t.eq e.1&&Nat.ble n e.2.1 then some e.2.2 else Abe t n r)=some u:=h
  cases c:t.eq e.1&&Nat.ble n e.2.1 with
  |true=>
   rw [c]at h
   simp only [cond_true,oI]at h
   rw [aT]at c
   refine ⟨e.2.1,Nat.le_of_ble_eq_true c.2,?_⟩
   rw [ST.AV c.1,<-h]
   exact List.mem_cons_self
  |false=>
   rw [c]at h
   obtain ⟨m,j,q⟩:=OS h
   exact ⟨m,j,List.mem_cons_of_mem _ q⟩
theorem EJ {p:List AE} {j:Nat}:∀{l:List (Nat×List AE)},Jy p l=some j->(j,p)∈l
 |[],h=>by cases h
 |e::r,h=>by
  have h:(bif AE.Pk p e.2 then some e.1 else Jy p r)=some j:=h
  cases c:AE.Pk p e.2 with
  |true=>
   rw [c]at h
   simp only [cond_true,oI]at h
   rw [AE.CW c,<-h]
   exact List.mem_cons_self
  |false=>rw [c]at h;exact List.mem_cons_of_mem _ (EJ h)
theorem OD {p:List AE} {j:Nat}:∀{l:List (Nat×List AE)},Aav p l=some j->(j,p)∈l
 |[],h=>by cases h
 |e::r,h=>by
  have h:(bif AE.Pk p e.2 then some e.1 else Aav p r)=some j:=h
  cases c:AE.Pk p e.2 with
  |true=>
   rw [c]at h
   simp only [cond_true,oI]at h
   rw [AE.CW c,<-h]
   exact List.mem_cons_self
  |false=>rw [c]at h;exact List.mem_cons_of_mem _ (OD h)
end
section
section
variable {P:Program} {Γ:Ao} {ρ:Env} {μ:As} {tm:Tr Ab} {a:Act} {w:World}
def AP (ρ:Env) (μ:As) (tm:Tr Ab) (a:Act):Prop:=∀t,Ah ρ μ (Ep (tm.get t)) (a.tmps.getD t undef)
theorem AP.mono {j:As} (q:AP ρ μ tm a) (h:μ.le j):AP ρ j tm a:=fun t=>(q t).mono h
mutual
theorem CX:∀v:Value,Ah ρ μ (GA v) v
 |.bool b=>by simp only [GA,Ah,SB.den]
 |.int k n=>by simp only [GA,Ah,ST.den]
 |.string s=>by simp only [GA,Ah];exact ⟨s,rfl,rfl⟩
 |.pointer none=>by simp only [GA,Ah]
 |.pointer (some _)=>trivial
 |.slice none 0 0=>by simp only [GA,Ah]
 |.slice none 0 (_+1)=>trivial
 |.slice none (_+1) _=>trivial
 |.slice (some _) _ _=>trivial
 |.map none=>by simp only [GA,Ah]
 |.map (some _)=>trivial
 |.nilFunc=>by simp only [GA,Ah]
 |.nilIface=>by simp only [GA,Ah]
 |.agg ⟨cs⟩=>by
  simp only [GA]
  split
  ·rename_i h
   simp only [Ah]
   exact ⟨⟨cs⟩,rfl,NF cs h⟩
  ·trivial
 |.float _ _=>trivial
 |.complex _ _ _=>trivial
 |.chan _=>trivial
 |.func _ _ _=>trivial
 |.iface _ _=>trivial
 |.tuple _=>trivial
theorem NF:∀l:List Value,(Tt l).all (·.single)=true->Aw ρ μ (Tt l) l
 |[],_=>by simp only [Tt,Aw]
 |v::r,h=>by
  simp only [Tt,List.all_cons,aT]at h
  simp only [Tt,Aw]
  exact ⟨v,r,rfl,⟨h.1,CX v⟩,NF r h.2⟩
end
theorem Au (j:AP ρ μ tm a) (x:Operand):Ah ρ μ (ev tm (A8 x)) (a.eval x):=by
 cases x with
 |tmp t=>exact j t
 |const v=>exact CX v
 |global g=>trivial
 |func f=>
  show Ah ρ μ (.func f [] []) (.func (.func f) #[] #[])
  simp only [Ah]
  exact ⟨#[],#[],rfl,by simp only [A4],by simp only [A4]⟩
theorem FO (j:AP ρ μ tm a):∀l:List Operand,A4 ρ μ (RG tm (BT l)) (l.map a.eval)
 |[]=>by show A4 ρ μ [] [];simp only [A4]
 |x::r=>by
  show A4 ρ μ (ev tm (A8 x)::RG tm (BT r)) _
  simp only [A4,List.map_cons]
  exact ⟨_,_,rfl,Au j x,FO j r⟩
theorem AP.put (q:AP ρ μ tm a) {d:Option Tmp} {v:Ab} {u:Value} (hd:∀t,d=some t->t<a.tmps.size) (h:Ah ρ μ v u):AP ρ μ (DK tm d v) (a.put d u):=by
 cases d with
 |none=>exact q
 |some d=>
  intro t
  show Ah ρ μ (Ep ((tm.set d (some v)).get t)) ((a.tmps.setIfInBounds d u).getD t undef)
  rw [Tr.AY]
  have j:=hd d rfl
  by_cases e:t=d
  ·subst e
   rw [if_pos rfl]
   simpa [Array.getD_eq_getD_getElem?,j,Ep]using h
  ·rw [if_neg e]
   have:=q t
   simpa [Array.getD_eq_getD_getElem?,Array.getElem?_setIfInBounds_ne (Ne.symm e)]using this
theorem Act.Mm (d:Option Tmp) (u:Value):(a.put d u).tmps.size=a.tmps.size:=by
 cases d<;>simp [Act.put]
theorem Ah.int {k:IntKind} {n:ST} {v:Value} (h:Ah ρ μ (.int k n) v):v=.int k (n.den ρ):=by simpa only [Ah]using h
theorem Ah.bool {b:SB} {v:Value} (h:Ah ρ μ (.bool b) v):v=.bool (b.den ρ):=by simpa only [Ah]using h
theorem Ah.agg {cs:List Ab} {v:Value} (h:Ah ρ μ (.agg cs) v):∃a:Array Value,v=.agg a/\Aw ρ μ cs a.toList:=by simpa only [Ah]using h
theorem Ah.tuple {cs:List Ab} {v:Value} (h:Ah ρ μ (.tuple cs) v):∃a:Array Value,v=.tuple a/\A4 ρ μ cs a.toList:=by simpa only [Ah]using h
theorem Ah.str {s:List Nat} {v:Value} (h:Ah ρ μ (.str s) v):∃b:ByteArray,v=.string b/\strOf b=s:=by simpa only [Ah]using h
theorem Ah.ptr {b j:Nat} {v:Value} (h:Ah ρ μ (.ptr b j) v):∃r δ m,μ b=some (r,δ,m)/\v=.pointer (some ⟨r,δ+j,none⟩):=by simpa only [Ah]using h
theorem Ah.slice {b j len c:Nat} {v:Value} (h:Ah ρ μ (.slice b j len c) v):
  ∃r δ m,μ b=some (r,δ,m)/\v=.slice (some ⟨r,δ+j,none⟩) len c/\len<=c:=by simpa only [Ah]using h
theorem Ah.gslice {b j len q:Nat} {v:Value} (h:Ah ρ μ (.gslice b j len q) v):
  ∃r δ m c,μ b=some (r,δ,m)/\v=.slice (some ⟨r,δ+j,none⟩) len c/\len<=c/\j+c*q<=m:=by simpa only [Ah]using h
theorem Ah.NX {b:Nat} {v:Value} (h:Ah ρ μ (.map b) v):∃r,μ b=some (r,0,0)/\v=.map (some r):=by simpa only [Ah]using h
theorem Ah.func {f:FuncId} {x c:List Ab} {v:Value} (h:Ah ρ μ (.func f x c) v):∃j q:Array Value,v=.func (.func f) j q/\A4 ρ μ x j.toList/\A4 ρ μ c q.toList:=by simpa only [Ah]using h
theorem Ah.iface {t:TypeId} {x:Ab} {v:Value} (h:Ah ρ μ (.iface t x) v):∃u,v=.iface t u/\Ah ρ μ x u:=by simpa only [Ah]using h
theorem Ah.anyStr {n:Nat} {v:Value} (h:Ah ρ μ (.anyStr n) v):∃b:ByteArray,v=.string b/\1<=b.size/\b.size<=n:=by simpa only [Ah]using h
theorem Ah.gbytes {b:Nat} {v:Value} (h:Ah ρ μ (.gbytes b) v):∃r m,μ b=some (r,0,m)/\v=.slice (some ⟨r,0,none⟩) (BD m) (BM m)/\1<=BD m/\BD m<=BM m:=by simpa only [Ah]using h
theorem Ah.glen {b:Nat} {v:Value} (h:Ah ρ μ (.glen b) v):∃r m,μ b=some (r,0,m)/\v=.int .i64 (BD m:Nat):=by simpa only [Ah]using h
theorem Ah.svar {i:Nat} {v:Value} (h:Ah ρ μ (.svar i) v):∃b:ByteArray,v=.string b/\strOf b=ρ.str i:=by simpa only [Ah]using h
theorem Ah.lst {f:Bool} {i j:Nat} {n:ST} {v:Value} (h:Ah ρ μ (.lst f i j n) v):Ij μ.AQ (.list j (ρ.lst i)) v/\n.den ρ=((ρ.lst i).length:Int)/\(f=true->∃p,v=.slice p (ρ.lst i).length (ρ.lst i).length):=by simpa only [Ah]using h
theorem Ah.lptr {i q:Nat} {j:ST} {v:Value} (h:Ah ρ μ (.lptr i j q) v):∃r δ a e ps,v=.pointer (some ⟨r,δ+q,none⟩)/\Iv μ.AQ r a e/\0<=j.den ρ/\(ρ.lst i)[(j.den ρ).toNat]?=some ps/\AG μ.AQ a δ ps:=by simpa only [Ah]using h
theorem Ah.vec {b j:Nat} {n:ST} {v:Value} (h:Ah ρ μ (.vec b j n) v):∃r m k,μ b=some (r,0,m)/\v=.slice (some ⟨r,0,none⟩) k (BM m)/\n.den ρ=(k:Int)/\k<=BD m/\BD m<=BM m:=by simpa only [Ah]using h
theorem Ah.vptr {b x q:Nat} {j:ST} {v:Value} (h:Ah ρ μ (.vptr b x j q) v):∃r m,μ b=some (r,0,m)/\v=.pointer (some ⟨r,(j.den ρ).toNat*x+q,none⟩)/\0<=j.den ρ:=by simpa only [Ah]using h
theorem Ah.D7 {f:Bool} {i q:Nat} {n:ST} {v:Value} (h:Ah ρ μ (.lst f i q n) v):∃p c,v=.slice p (ρ.lst i).length c/\(ρ.lst i).length<=c/\n.den ρ=((ρ.lst i).length:Int)/\
  ((ρ.lst i).length≠0->∃r δ a e,p=some ⟨r,δ,none⟩/\Iv μ.AQ r a e/\BF μ.AQ q a δ (ρ.lst i)):=by
 obtain ⟨j,x,_⟩:=h.lst
 simp only [Ij]at j
 obtain ⟨c,hc,⟨e,p,rfl⟩|⟨r,δ,a,t,rfl,A,z⟩⟩:=j
 ·exact ⟨p,c,by rw [e];rfl,hc,x,fun h=>absurd (by rw [e];rfl) h⟩
 ·exact ⟨_,c,rfl,hc,x,fun _=>⟨r,δ,a,t,rfl,A,z⟩⟩
theorem BF.get {AQ:Nat->Option Obj} {j:Nat} {a:Array Value}:∀{l:List (List PV)} {δ:Nat},BF AQ j a δ l->∀(i:Nat) (ps:List PV),l[i]?=some ps->ps.length=j/\AG AQ a (δ+i*j) ps
 |[],_,_,i,ps,h=>by simp at h
 |qs::r,δ,e,i,ps,h=>by
  simp only [BF]at e
  obtain ⟨x,q,z⟩:=e
  cases i with
  |zero=>
   simp only [List.getElem?_cons_zero,oI]at h
   subst h
   exact ⟨x,by simpa using q⟩
  |succ i=>
   obtain ⟨k1,v⟩:=BF.get z i ps (by simpa using h)
   exact ⟨k1,by rw [Nat.add_mul,Nat.one_mul];rw [show δ+(i*j+j)=δ+j+i*j by omega];exact v⟩
section
variable {AQ:Nat->Option Obj} {a:Array Value}
theorem AG.append_iff:∀{x y:List PV} {δ:Nat},AG AQ a δ (x++y)↔AG AQ a δ x/\AG AQ a (δ+x.length) y
 |[],y,δ=>by simp only [List.nil_append,AG,true_and,lN,Nat.add_zero]
 |p::x,y,δ=>by
  simp only [List.cons_append,AG,lC]
  rw [AG.append_iff (x:=x) (y:=y) (δ:=δ+1),and_assoc]
  rw [show δ+1+x.length=δ+(x.length+1) by omega]
theorem Bx {j:Nat}:∀{l:List (List PV)} {δ:Nat},BF AQ j a δ l↔(∀ps∈l,ps.length=j)/\AG AQ a δ l.flatten
 |[],δ=>by simp only [BF,List.flatten_nil,AG,List.not_mem_nil,false_implies,implies_true,and_self]
 |ps::l,δ=>by
  simp only [BF,List.flatten_cons,AG.append_iff,Bx (l:=l),List.mem_cons,forall_eq_or_imp]
  constructor
  ·rintro ⟨h1,h2,h3,h4⟩
   exact ⟨⟨h1,h3⟩,h2,by rw [h1];exact h4⟩
  ·rintro ⟨⟨h1,h3⟩,h2,h4⟩
   exact ⟨h1,h2,h3,by rw [h1]at h4;exact h4⟩
theorem B9 {j:Nat}:∀{l:List (List PV)},(∀ps∈l,ps.length=j)->l.flatten.length=l.length*j
 |[],_=>by simp
 |ps::l,h=>by
  rw [List.flatten_cons,lA,B9 fun x q=>h x (List.mem_cons_of_mem _ q),h ps List.mem_cons_self,lC,Nat.add_mul]
  omega
end
theorem Ij.T2 {x:Ab} {p:PV} {v:Value} (hd:L0 ρ x p) (h:Ij μ.AQ p v):Ah ρ μ x v/\x.single=true:=by
 cases x<;>simp only [L0]at hd
 case bool|int|nilPtr=>subst hd;simp only [Ij]at h;exact ⟨by simp only [Ah];exact h,rfl⟩
 case str=>subst hd;simp only [Ij]at h;exact ⟨by simp only [Ah];exact h,rfl⟩
 case svar=>subst hd;simp only [Ij]at h;exact ⟨by simp only [Ah];exact h,rfl⟩
 case lst f i es n=>
  obtain ⟨rfl,rfl,j⟩:=hd
  exact ⟨by simp only [Ah];exact ⟨h,j,fun e=>by cases e⟩,rfl⟩
theorem AG.T2 {c:Array Value}:∀{j:List Ab} {ps:List PV} {δ:Nat},Fw ρ j ps->AG μ.AQ c δ ps->j.length=ps.length/\∀(i:Nat) (x:Ab),j[i]?=some x->∃v,c[δ+i]?=some v/\x.single=true/\Ah ρ μ x v
 |[],ps,δ,hd,h=>by
  simp only [Fw]at hd
  subst hd
  exact ⟨rfl,fun i x I=>by simp at I⟩
 |x::j,ps,δ,hd,h=>by
  simp only [Fw]at hd
  obtain ⟨p,rest,rfl,J,M⟩:=hd
  simp only [AG]at h
  obtain ⟨⟨u,C,L⟩,B⟩:=h
  obtain ⟨k1,H⟩:=AG.T2 M B
  refine ⟨by simp [k1],fun i y z=>?_⟩
  cases i with
  |zero=>
   simp only [List.getElem?_cons_zero,oI]at z
   subst z
   obtain ⟨q,A⟩:=L.T2 J
   exact ⟨u,C,A,q⟩
  |succ i=>
   obtain ⟨v,q,A⟩:=H i y (by simpa using z)
   exact ⟨v,by rw [<-q];congr 1;omega,A⟩
theorem AG.cs {c:Array Value} {j:List Ab} {ps:List PV} (hd:Fw ρ j ps) (h:AG μ.AQ c 0 ps) (hs:c.size=ps.length):Aw ρ μ j c.toList:=by
 obtain ⟨A,B⟩:=AG.T2 hd h
 refine Aw.Kn (by rw [A,<-hs];rfl) fun i x z=>?_
 obtain ⟨v,k1,q⟩:=B i x z
 exact ⟨v,by rw [Array.getElem?_toList];simpa using k1,q⟩
theorem BH {x:Ab} {s:List Nat} {v:Value} (hs:DV ρ x=some s) (h:Ah ρ μ x v):∃b:ByteArray,v=.string b/\strOf b=s:=by
 cases x<;>simp only [DV,oI,reduceCtorEq]at hs
 case str=>subst hs;exact h.str
 case svar=>subst hs;exact h.svar
theorem EC (hΓ:Γ.AB ρ) {op:BinOp} {x y:ST} (h:Cz Γ op x y=true):Ev op (x.den ρ) (y.den ρ)=true:=by
 unfold Cz at h
 split at h
 ·rename_i v j
  obtain ⟨k1,_⟩:=CB hΓ j
  subst h
  exact k1.symm
 ·cases h
theorem IE (hΓ:Γ.AB ρ) {x y:ST} (h:Cz Γ .geq x y=true):y.den ρ<=x.den ρ:=by simpa [Ev]using EC hΓ h
theorem U6 (hΓ:Γ.AB ρ) {x y:ST} (h:Cz Γ .gtr x y=true):y.den ρ<x.den ρ:=by simpa [Ev]using EC hΓ h
theorem ML (hΓ:Γ.AB ρ) {x y:ST} (h:Cz Γ .lss x y=true):x.den ρ<y.den ρ:=by simpa [Ev]using EC hΓ h
theorem ER (hΓ:Γ.AB ρ) {x y:ST} (h:Cz Γ .leq x y=true):x.den ρ<=y.den ρ:=by simpa [Ev]using EC hΓ h
theorem Uw {x:Ab} {n:Nat} (h:C4 x=some n):∃k,x=.int k (.lit (.ofNat n)):=by
 unfold C4 at h
 split at h
 ·rename_i k m
  simp only [oI]at h
  exact ⟨k,by rw [h]⟩
 ·cases h
theorem Ch {x:Ab} {n:Nat} {v:Value} (h:C4 x=some n) (j:Ah ρ μ x v):∃k,v=.int k (n:Int):=by
 obtain ⟨k,rfl⟩:=Uw h
 exact ⟨k,j.int⟩
def Bf (P:Program) (ρ:Env) (μ:As) (a:Act) (o:Oper) (w:World) (v:Ab):Prop:=∃j,(execOp a.eval o).run P w=.ok (.value j) w/\Ah ρ μ v j
theorem Eg (P:Program) (w:World) (t:TypeId) {n:Option Nat} (h:DR P t=some n):
  (isAgg t).run P w=.ok n.isSome w/\(∀m,n=some m->(sizeOf t).run P w=.ok m w):=by
 unfold DR at h
 split at h
 ·rename_i fs i q v
  simp only [oI]at h
  subst h
  refine ⟨by simp [isAgg,run_underlying q],fun m j=>?_⟩
  simp only [oI]at j
  subst j
  simp [sizeOf,typeInfo,v]
 ·rename_i k e i q v
  simp only [oI]at h
  subst h
  refine ⟨by simp [isAgg,run_underlying q],fun m j=>?_⟩
  simp only [oI]at j
  subst j
  simp [sizeOf,typeInfo,v]
 ·rename_i d i z x q v
  simp only [oI]at h
  subst h
  refine ⟨?_,fun m j=>by cases j⟩
  cases d<;>first|(simp [isAgg,run_underlying q];done) |skip
  ·exact (x _ _ rfl).elim
  ·exact (z _ rfl).elim
 ·cases h
theorem Bm {t:TypeId} {n:Nat} (h:AU P t=some n):(sizeOf t).run P w=.ok n w:=by
 unfold AU at h
 cases e:P.info? t with
 |none=>rw [e]at h;cases h
 |some i=>
  rw [e]at h
  simp only [Option.map_some,oI]at h
  simp [sizeOf,typeInfo,e,h]
theorem Aw.extract {cs r:List Ab} {x:Array Value} {j n:Nat} (h:Aw ρ μ cs x.toList) (hc:cut cs j n=some r):Aw ρ μ r (x.extract j (j+n)).toList:=by
 obtain ⟨B,H,A⟩:=JI hc
 have hl:cs.length=x.size:=by simpa using h.length
 refine Aw.Kn ?_ fun i b hb=>?_
 ·rw [B,Array.length_toList,Array.size_extract]
  omega
 ·rw [A]at hb
  split at hb
  ·rename_i C
   obtain ⟨v,q,hs,z⟩:=h.get hb
   refine ⟨v,?_,hs,z⟩
   rw [Array.getElem?_toList,Array.getElem?_extract]
   rw [Array.getElem?_toList]at q
   rw [if_pos (by omega)]
   exact q
  ·cases hb
theorem M7 {t:TypeId} {n:Option Nat} {cs:List Ab} {x:Array Value} {j:Nat} {v:Ab} (H:DR P t=some n) (C:Aw ρ μ cs x.toList) (h:Ju cs j n=some v):
  ∃q,(part t x j).run P w=.ok q w/\Ah ρ μ v q:=by
 obtain ⟨B,I⟩:=Eg P w t H
 unfold Ju at h
 cases n with
 |none=>
  simp only at h
  rw [Kp]at h
  obtain ⟨q,A,_,z⟩:=C.get h
  rw [Array.getElem?_toList]at A
  exact ⟨q,by simp [part,B,A],z⟩
 |some n=>
  simp only at h
  obtain ⟨r,z,h⟩:=Ac h
  simp only [oI]at h
  subst h
  refine ⟨.agg (x.extract j (j+n)),by simp [part,B,I n rfl],?_⟩
  simp only [Ah]
  exact ⟨_,rfl,C.extract z⟩
theorem SG {o:Oper} {x:Operand} (j:o.op=.move x∨o.op=.assign x) (q:AP ρ μ tm a):Bf P ρ μ a o w (ev tm (A8 x)):=
 ⟨a.eval x,by rcases j with j|j<;>simp [execOp,j],Au q x⟩
theorem UE {o:Oper} {c x y:Operand} (q:o.op=.pick c x y) (j:AP ρ μ tm a) {v:Ab} (h:AaG (ev tm (A8 c)) (ev tm (A8 x)) (ev tm (A8 y))=some v):Bf P ρ μ a o w v:=by
 have hc:=Au j c
 unfold AaG at h
 split at h
 ·rename_i b hb
  rw [hb]at hc
  have hc:=hc.bool
  simp only [oI]at h
  subst h
  refine ⟨if b then a.eval x else a.eval y,?_,?_⟩
  ·simp [execOp,q,hc,asBool,SB.den]
  ·cases b
   ·exact Au j y
   ·exact Au j x
 ·cases h
theorem UF {o:Oper} {x:Operand} (A:o.op=.nilCheck x) (C:AP ρ μ tm a) {v:Ab} (h:AaS (ev tm (A8 x))=some v):Bf P ρ μ a o w v:=by
 have q:=Au C x
 unfold AaS at h
 split at h
 ·rename_i b B hb
  simp only [oI]at h
  rw [hb]at q
  subst h
  have z:=q
  obtain ⟨r,δ,_,_,e⟩:=q.ptr
  exact ⟨a.eval x,by simp [execOp,A,e],z⟩
 ·rename_i f y c hb
  simp only [oI]at h
  rw [hb]at q
  subst h
  have z:=q
  obtain ⟨_,_,e,_⟩:=q.func
  exact ⟨a.eval x,by simp [execOp,A,e],z⟩
 ·rename_i i j B hb
  simp only [oI]at h
  rw [hb]at q
  subst h
  have z:=q
  obtain ⟨r,δ,_,_,_,e,_⟩:=q.lptr
  exact ⟨a.eval x,by simp [execOp,A,e],z⟩
 ·rename_i b H j B hb
  simp only [oI]at h
  rw [hb]at q
  subst h
  have z:=q
  obtain ⟨r,m,_,e,_⟩:=q.vptr
  exact ⟨a.eval x,by simp [execOp,A,e],z⟩
 ·cases h
theorem SH {o:Oper} {t:TypeId} {x:Operand} (j:o.op=.makeInterface t x) (q:AP ρ μ tm a) (hc:P.concrete t=true):Bf P ρ μ a o w (.iface t (ev tm (A8 x))):=
 ⟨.iface t (a.eval x),by simp [execOp,j,run_makeInterface,hc],by simp only [Ah];exact ⟨_,rfl,Au q x⟩⟩
theorem UK {o:Oper} {f:FuncId} {x c:Array Operand} (q:o.op=.makeFunc (.func f) x c) (j:AP ρ μ tm a):Bf P ρ μ a o w (.func f (RG tm (BT x.toList)) (RG tm (BT c.toList))):=
 ⟨.func (.func f) (x.map a.eval) (c.map a.eval),by simp [execOp,q,Instr.makeFunc],by
  simp only [Ah]
  exact ⟨_,_,rfl,by simpa using FO j x.toList,by simpa using FO j c.toList⟩⟩
theorem XC {o:Oper} {x:Operand} {i:Nat} (z:o.op=.extract x i) (A:AP ρ μ tm a) {v:Ab} (h:AgZ (ev tm (A8 x)) i=some v):Bf P ρ μ a o w v:=by
 have q:=Au A x
 unfold AgZ at h
 split at h
 ·rename_i vs hb
  rw [hb]at q
  obtain ⟨y,e,H⟩:=q.tuple
  rw [Kp]at h
  obtain ⟨C,j,B⟩:=H.get h
  rw [Array.getElem?_toList]at j
  exact ⟨C,by simp [execOp,z,e,Instr.extract,j],B⟩
 ·cases h
theorem Addr.AW (r o n:Nat):(⟨r,o,none⟩:Addr).add n=⟨r,o+n,none⟩:=by
 unfold Addr.add
 by_cases h:n=0
 ·subst h;simp
 ·rw [if_neg h]
theorem QM {o:Oper} {t:TypeId} {x:Operand} {f:Nat} (A:o.op=.fieldAddr t x f) (J:AP ρ μ tm a) {fs:Array Field} {g:Field} {n:Nat} (B:P.underlying t=some (.struct fs)) (hf:fs[f]?=some g)
  (I:AU P g.type=some (n+1)) {v:Ab} (h:Re g.offset (ev tm (A8 x))=some v):Bf P ρ μ a o w v:=by
 have z:=Au J x
 unfold Re at h
 split at h
 ·rename_i b q hb
  simp only [oI]at h
  subst h
  rw [hb]at z
  obtain ⟨r,δ,m,C,e⟩:=z.ptr
  refine ⟨.pointer (some ⟨r,δ+(q+g.offset),none⟩),?_,?_⟩
  ·have hs:=Bm (w:=w) I
   simp [execOp,A,e,Instr.fieldAt,run_underlying B,hf,Instr.sureAddr,fieldPlace,hs,Addr.AW,Nat.add_assoc]
  ·simp only [Ah];exact ⟨r,δ,_,C,rfl⟩
 ·rename_i i j q hb
  simp only [oI]at h
  subst h
  rw [hb]at z
  obtain ⟨r,δ,c,t,ps,e,H,M⟩:=z.lptr
  refine ⟨.pointer (some ⟨r,δ+(q+g.offset),none⟩),?_,?_⟩
  ·have hs:=Bm (w:=w) I
   simp [execOp,A,e,Instr.fieldAt,run_underlying B,hf,Instr.sureAddr,fieldPlace,hs,Addr.AW,Nat.add_assoc]
  ·simp only [Ah];exact ⟨r,δ,c,t,ps,rfl,H,M⟩
 ·rename_i b L j q hb
  simp only [oI]at h
  subst h
  rw [hb]at z
  obtain ⟨r,m,C,e,H⟩:=z.vptr
  refine ⟨.pointer (some ⟨r,(j.den ρ).toNat*L+(q+g.offset),none⟩),?_,?_⟩
  ·have hs:=Bm (w:=w) I
   simp [execOp,A,e,Instr.fieldAt,run_underlying B,hf,Instr.sureAddr,fieldPlace,hs,Addr.AW,Nat.add_assoc]
  ·simp only [Ah];exact ⟨r,m,C,rfl,H⟩
 ·cases h
theorem SI {o:Oper} {t:TypeId} {x:Operand} {f:Nat} (q:o.op=.field t x f) (z:AP ρ μ tm a) {fs:Array Field} {g:Field} {n:Option Nat} (A:P.underlying t=some (.struct fs)) (hf:fs[f]?=some g)
  (H:DR P g.type=some n) {v:Ab} (h:US g.offset n (ev tm (A8 x))=some v):Bf P ρ μ a o w v:=by
 have j:=Au z x
 unfold US at h
 split at h
 ·rename_i cs hb
  rw [hb]at j
  obtain ⟨y,e,I⟩:=j.agg
  obtain ⟨B,C,J⟩:=M7 (w:=w) H I h
  exact ⟨B,by simp [execOp,q,e,Instr.field,run_underlying A,hf,asAgg,C],J⟩
 ·cases h
theorem UJ (hΓ:Γ.AB ρ) {o:Oper} {t e:TypeId} {x i:Operand} (R:o.op=.indexAddr t x i) (V:AP ρ μ tm a) {n:Nat} (U:P.underlying t=some (.slice e)) (Q:AU P e=some n) {v:Ab}
  (h:Abo Γ n (ev tm (A8 x)) (ev tm (A8 i)) (C4 (ev tm (A8 i)))=some v):Bf P ρ μ a o w v:=by
 have I:=Au V x
 have O:=Au V i
 have key:∀(b C len r δ m c:Nat),Wy n b C len (C4 (ev tm (A8 i)))=some v->μ b=some (r,δ,m)->a.eval x=.slice (some ⟨r,δ+C,none⟩) len c->Bf P ρ μ a o w v:=fun b C len r δ m c h B H=>by
  unfold Wy at h
  obtain ⟨j,Z,h⟩:=Ac h
  obtain ⟨z,h⟩:=Ap h
  simp only [oI]at h
  subst h
  obtain ⟨k,M⟩:=Ch Z O
  have hs:=Bm (w:=w) Q
  have z:=Ib.1 z
  refine ⟨.pointer (some ⟨r,δ+(C+j*n),none⟩),?_,?_⟩
  ·simp [execOp,R,H,M,Instr.indexAt,asIntOf,run_underlying U,hs,z,Addr.AW,Nat.add_assoc]
  ·simp only [Ah];exact ⟨r,δ,_,B,rfl⟩
 unfold Abo at h
 split at h
 ·rename_i b es len hb
  rw [hb]at I
  unfold AdS at h
  split at h
  ·rename_i k t N
   obtain ⟨hc,h⟩:=Ap h
   simp only [oI]at h
   subst h
   rw [aT,aT,An]at hc
   obtain ⟨rfl,A,J⟩:=hc
   have A:=IE hΓ A
   have J:=ML hΓ J
   rw [N]at O
   have M:=O.int
   obtain ⟨r,m,c,B,H,L,_,_⟩:=I.vec
   rw [L]at J
   have A:0<=t.den ρ:=A
   obtain ⟨q,hq⟩:∃q:Nat,t.den ρ=(q:Int):=⟨(t.den ρ).toNat,by omega⟩
   have z:q<c:=by omega
   have hs:=Bm (w:=w) Q
   refine ⟨.pointer (some ⟨r,(t.den ρ).toNat*n+0,none⟩),?_,?_⟩
   ·rw [hq]at M⊢
    simp [execOp,R,H,M,Instr.indexAt,asIntOf,run_underlying U,hs,z,Addr.AW,Nat.add_assoc]
   ·simp only [Ah]
    exact ⟨r,m,B,rfl,A⟩
  ·cases h
 ·rename_i f j es len hb
  rw [hb]at I
  unfold AdT at h
  split at h
  ·rename_i k t N
   obtain ⟨hc,h⟩:=Ap h
   simp only [oI]at h
   subst h
   rw [aT,aT,An]at hc
   obtain ⟨rfl,A,J⟩:=hc
   have A:=IE hΓ A
   have J:=ML hΓ J
   rw [N]at O
   have M:=O.int
   obtain ⟨p,c,H,hc,L,Y⟩:=I.D7
   rw [L]at J
   have A:0<=t.den ρ:=A
   obtain ⟨m,B⟩:∃m:Nat,t.den ρ=(m:Int):=⟨(t.den ρ).toNat,by omega⟩
   have z:m<(ρ.lst j).length:=by omega
   obtain ⟨r,δ,cs,ty,rfl,k1,X⟩:=Y (by omega)
   have hs:=Bm (w:=w) Q
   obtain ⟨ps,hps⟩:∃ps,(ρ.lst j)[m]?=some ps:=⟨_,List.getElem?_eq_getElem z⟩
   refine ⟨.pointer (some ⟨r,δ+m*n,none⟩),?_,?_⟩
   ·rw [B]at M
    simp [execOp,R,H,M,Instr.indexAt,asIntOf,run_underlying U,hs,z,Addr.AW,Nat.add_assoc]
   ·simp only [Ah]
    refine ⟨r,δ+m*n,cs,ty,ps,rfl,k1,A,?_,(X.get m ps hps).2⟩
    rw [B];exact hps
  ·cases h
 ·rename_i b C len cap hb
  rw [hb]at I
  obtain ⟨r,δ,m,B,H,_⟩:=I.slice
  exact key _ _ _ _ _ _ _ h B H
 ·rename_i b C len cap hb
  rw [hb]at I
  obtain ⟨r,δ,m,c,B,H,_⟩:=I.gslice
  exact key _ _ _ _ _ _ _ h B H
 ·cases h
theorem QL {o:Oper} {t e:TypeId} {x i:Operand} {len:Nat} (C:o.op=.indexAddr t x i) (A:AP ρ μ tm a) {n:Nat} (I:P.underlying t=some (.array len e)) (M:AU P e=some n) {v:Ab}
  (h:QI len n (ev tm (A8 x)) (C4 (ev tm (A8 i)))=some v):Bf P ρ μ a o w v:=by
 have B:=Au A x
 have N:=Au A i
 unfold QI at h
 split at h
 ·rename_i b z hb
  obtain ⟨j,L,h⟩:=Ac h
  obtain ⟨q,h⟩:=Ap h
  simp only [oI]at h
  subst h
  rw [hb]at B
  obtain ⟨r,δ,m,H,J⟩:=B.ptr
  obtain ⟨k,O⟩:=Ch L N
  have hs:=Bm (w:=w) M
  have q:=Ib.1 q
  refine ⟨.pointer (some ⟨r,δ+(z+j*n),none⟩),?_,?_⟩
  ·simp [execOp,C,J,O,Instr.indexAt,asIntOf,run_underlying I,hs,q,Addr.AW,Nat.add_assoc,Instr.sureAddr]
  ·simp only [Ah];exact ⟨r,δ,_,H,rfl⟩
 ·cases h
theorem XB {o:Oper} {t e:TypeId} {x i:Operand} {len:Nat} (C:o.op=.index t x i) (z:AP ρ μ tm a) {n:Nat} {A:Option Nat} (H:P.underlying t=some (.array len e)) (O:AU P e=some n) (ha:DR P e=some A) {v:Ab}
  (h:AgS len n A (ev tm (A8 x)) (C4 (ev tm (A8 i)))=some v):Bf P ρ μ a o w v:=by
 have B:=Au z x
 have Q:=Au z i
 unfold AgS at h
 split at h
 ·rename_i cs hb
  obtain ⟨j,L,h⟩:=Ac h
  obtain ⟨q,h⟩:=Ap h
  rw [hb]at B
  obtain ⟨y,I,R⟩:=B.agg
  obtain ⟨k,U⟩:=Ch L Q
  have hs:=Bm (w:=w) O
  have q:=Ib.1 q
  obtain ⟨J,N,M⟩:=M7 (w:=w) ha R h
  refine ⟨J,?_,M⟩
  simp [execOp,C,I,U,Instr.index,asIntOf,run_underlying H,hs,q,N]
 ·cases h
theorem UI {o:Oper} {t:TypeId} {x i:Operand} (H:o.op=.index t x i) (A:AP ρ μ tm a) (I:P.underlying t=some .string) {v:Ab}
  (h:Abn (ev tm (A8 x)) (C4 (ev tm (A8 i)))=some v):Bf P ρ μ a o w v:=by
 have C:=Au A x
 have M:=Au A i
 unfold Abn at h
 split at h
 ·rename_i s hb
  obtain ⟨j,L,h⟩:=Ac h
  obtain ⟨c,hc,h⟩:=Ac h
  simp only [oI]at h
  subst h
  rw [hb]at C
  obtain ⟨B,J,rfl⟩:=C.str
  obtain ⟨k,N⟩:=Ch L M
  rw [Fi]at hc
  unfold strOf at hc
  rw [List.getElem?_map]at hc
  obtain ⟨u,q,rfl⟩:=mS hc
  have z:j<B.size:=by
   have:=(List.getElem?_eq_some_iff.1 q).1
   simpa using this
  refine ⟨.int .u8 u.toNat,?_,by simp only [Ah,ST.den];rfl⟩
  have hg:B[j]?=some u:=by
   rw [ByteArray.getElem?_lt' _ _ z]
   rw [Array.getElem?_toList]at q
   have:=(Array.getElem?_eq_some_iff.1 q).2
   rw [<-this];rfl
  simp [execOp,H,J,N,Instr.index,asIntOf,run_underlying I,hg]
 ·cases h
theorem UG (hΓ:Γ.AB ρ) {o:Oper} {t:TypeId} {x:Operand} {c:Call} (H:o.op=.call c) (q:c.callee=.builtin .len) (j:c.args=#[x]) (z:c.argTypes=#[t]) (L:AP ρ μ tm a)
  (I:P.underlying t=some .string) {v:Ab} (h:Abf Γ (ev tm (A8 x))=some v):Bf P ρ μ a o w v:=by
 have A:=Au L x
 unfold Abf at h
 split at h
 ·rename_i i hb
  obtain ⟨r,N,h⟩:=Ac h
  simp only [oI]at h
  subst h
  rw [hb]at A
  obtain ⟨B,C,O⟩:=A.svar
  refine ⟨.int .i64 B.size,?_,?_⟩
  ·simp [execOp,H,resolve,q,j,z,invoke,builtin,C,Builtin.len_,run_underlying I,goInt]
  ·have M:=Ks N
   have J:=(hΓ.BQ _ M).1
   simp only [Ah]
   rw [show (i,r).2.1=r.1 from rfl]at J
   rw [J,<-O,B6]
 ·rename_i s hb
  simp only [oI]at h
  subst h
  rw [hb]at A
  obtain ⟨B,C,rfl⟩:=A.str
  refine ⟨.int .i64 B.size,?_,?_⟩
  ·simp [execOp,H,resolve,q,j,z,invoke,builtin,C,Builtin.len_,run_underlying I,goInt]
  ·simp only [lit,Ah,ST.den];rw [Db,B6];rfl
 ·rename_i n hb
  simp only [oI]at h
  subst h
  rw [hb]at A
  obtain ⟨B,C,_⟩:=A.anyStr
  refine ⟨.int .i64 B.size,?_,trivial⟩
  simp [execOp,H,resolve,q,j,z,invoke,builtin,C,Builtin.len_,run_underlying I,goInt]
 ·cases h
theorem UH {o:Oper} {t e:TypeId} {x:Operand} {c:Call} (C:o.op=.call c) (q:c.callee=.builtin .len) (j:c.args=#[x]) (z:c.argTypes=#[t]) (L:AP ρ μ tm a)
  (H:P.underlying t=some (.slice e)) {v:Ab} (h:Abg (ev tm (A8 x))=some v):Bf P ρ μ a o w v:=by
 have A:=Au L x
 unfold Abg at h
 split at h
 ·rename_i b J n cap hb
  simp only [oI]at h
  subst h
  rw [hb]at A
  obtain ⟨r,δ,m,_,B,_⟩:=A.slice
  refine ⟨.int .i64 n,?_,?_⟩
  ·simp [execOp,C,resolve,q,j,z,invoke,builtin,B,Builtin.len_,run_underlying H,goInt]
  ·simp only [lit,Ah,ST.den];rfl
 ·rename_i b J n cap hb
  simp only [oI]at h
  subst h
  rw [hb]at A
  obtain ⟨r,δ,m,N,_,B,_⟩:=A.gslice
  refine ⟨.int .i64 n,?_,?_⟩
  ·simp [execOp,C,resolve,q,j,z,invoke,builtin,B,Builtin.len_,run_underlying H,goInt]
  ·simp only [lit,Ah,ST.den];rfl
 ·rename_i hb
  simp only [oI]at h
  subst h
  rw [hb]at A
  have B:a.eval x=.slice none 0 0:=by simpa only [Ah]using A
  refine ⟨.int .i64 0,?_,?_⟩
  ·simp [execOp,C,resolve,q,j,z,invoke,builtin,B,Builtin.len_,run_underlying H,goInt]
  ·simp only [lit,Ah,ST.den];rfl
 ·rename_i b hb
  simp only [oI]at h
  subst h
  rw [hb]at A
  obtain ⟨r,m,M,B,_⟩:=A.gbytes
  refine ⟨.int .i64 (BD m:Nat),?_,?_⟩
  ·simp [execOp,C,resolve,q,j,z,invoke,builtin,B,Builtin.len_,run_underlying H,goInt]
  ·simp only [Ah];exact ⟨r,m,M,rfl⟩
 ·rename_i f i O n hb
  simp only [oI]at h
  subst h
  rw [hb]at A
  obtain ⟨p,N,B,_,I,_⟩:=A.D7
  refine ⟨.int .i64 (ρ.lst i).length,?_,?_⟩
  ·simp [execOp,C,resolve,q,j,z,invoke,builtin,B,Builtin.len_,run_underlying H,goInt]
  ·simp only [Ah];rw [I]
 ·rename_i b O n hb
  simp only [oI]at h
  subst h
  rw [hb]at A
  obtain ⟨r,m,k,_,B,I,_⟩:=A.vec
  refine ⟨.int .i64 k,?_,?_⟩
  ·simp [execOp,C,resolve,q,j,z,invoke,builtin,B,Builtin.len_,run_underlying H,goInt]
  ·simp only [Ah];rw [I]
 ·cases h
theorem NS (ts:Array TypeId) (t:TypeId) (l c:Nat):Builtin.unsafeSliceData_ ts t #[.slice none l c]=pure (.pointer none):=rfl
theorem Ml (ts:Array TypeId) (t:TypeId) (p:Addr) (l c:Nat) (hc:c≠0):Builtin.unsafeSliceData_ ts t #[.slice (some p) l c]=pure (.pointer (some p)):=by
 have:Builtin.unsafeSliceData_ ts t #[.slice (some p) l c]=(if c≠0 then pure (.pointer (some p))else (viewAt p.block>>=fun v=>if v.isSome then pure (.pointer (some p))else (elemOf t>>=fun e=>newObj (.view p e)>>=fun n=>pure (.pointer (some ⟨n,0,none⟩))))):=rfl
 rw [this,if_pos hc]
theorem SE {o:Oper} {x:Operand} {c:Call} (B:o.op=.call c) (q:c.callee=.builtin .unsafeSliceData) (j:c.args=#[x]) (C:AP ρ μ tm a)
  {v:Ab} (h:Ue (ev tm (A8 x))=some v):Bf P ρ μ a o w v:=by
 have z:=Au C x
 unfold Ue at h
 split at h
 ·rename_i hb
  simp only [oI]at h
  subst h
  rw [hb]at z
  have A:a.eval x=.slice none 0 0:=by simpa only [Ah]using z
  refine ⟨.pointer none,?_,by simp only [Ah]⟩
  simp [execOp,B,resolve,q,j,invoke,builtin,A,NS]
 ·rename_i b hb
  simp only [oI]at h
  subst h
  rw [hb]at z
  obtain ⟨r,m,H,A,I,J⟩:=z.gbytes
  refine ⟨.pointer (some ⟨r,0,none⟩),?_,by simp only [Ah];exact ⟨r,0,m,H,rfl⟩⟩
  have hc:¬BM m=0:=by omega
  simp [execOp,B,resolve,q,j,invoke,builtin,A,Ml _ _ _ _ _ hc]
 ·cases h
end
end
section
section
variable {P:Program} {Γ:Ao} {ρ:Env} {μ:As} {tm:Tr Ab} {a:Act} {w:World}
theorem Hs (j:Nat):∀(l:List Value) (k:Nat) (cells:Array Value),j+k+l.length<=cells.size->
  ((l.zipIdx k).foldl (fun (cs:Array Value) (x:Value×Nat)=>cs.setIfInBounds (j+x.2) x.1) cells).size=cells.size/\
  ∀i,((l.zipIdx k).foldl (fun (cs:Array Value) (x:Value×Nat)=>cs.setIfInBounds (j+x.2) x.1) cells)[i]?=if j+k<=i/\i<j+k+l.length then l[i-(j+k)]? else cells[i]?
 |[],k,cells,h=>⟨rfl,fun i=>by rw [if_neg (by simp only [lN];omega)];rfl⟩
 |v::l,k,cells,h=>by
  simp only [lC]at h
  rw [List.zipIdx_cons,List.foldl_cons]
  obtain ⟨q,z⟩:=Hs j l (k+1) (cells.setIfInBounds (j+k) v) (by simp;omega)
  refine ⟨by rw [q];simp,fun i=>?_⟩
  rw [z i]
  simp only [lC]
  by_cases hi:j+k=i
  ·subst hi
   rw [if_neg (by omega),if_pos (by omega),Array.getElem?_setIfInBounds_self_of_lt (by omega)]
   simp
  ·by_cases hj:j+(k+1)<=i/\i<j+(k+1)+l.length
   ·rw [if_pos hj,if_pos (by omega)]
    have:i-(j+k)=(i-(j+(k+1)))+1:=by omega
    rw [this,List.getElem?_cons_succ]
   ·rw [if_neg hj,if_neg (by omega),Array.getElem?_setIfInBounds_ne hi]
theorem XE (j:Nat) (v cells:Array Value) (h:j+v.size<=cells.size):
  (v.zipIdx.foldl (fun (cs:Array Value) (x:Value×Nat)=>cs.setIfInBounds (j+x.2) x.1) cells).size=cells.size/\
  ∀i,(v.zipIdx.foldl (fun (cs:Array Value) (x:Value×Nat)=>cs.setIfInBounds (j+x.2) x.1) cells)[i]?=if j<=i/\i<j+v.size then v[i-j]? else cells[i]?:=by
 have:=Hs j v.toList 0 cells (by simpa using h)
 rw [<-Array.foldl_toList,Array.toList_zipIdx]
 simpa using this
theorem Aw.spliced {vs cs r:List Ab} {x y:Array Value} {j:Nat} (v:Aw ρ μ cs x.toList) (q:Aw ρ μ vs y.toList) (h:splice vs j cs=some r):
  j+y.size<=x.size/\∀z:Array Value,z.size=x.size->(∀i,z[i]?=if j<=i/\i<j+y.size then y[i-j]? else x[i]?)->Aw ρ μ r z.toList:=by
 obtain ⟨C,J,B⟩:=GX h
 have I:cs.length=x.size:=by simpa using v.length
 have A:vs.length=y.size:=by simpa using q.length
 refine ⟨by omega,fun z H hg=>Aw.Kn (by rw [C,I,<-H];simp) fun i b hb=>?_⟩
 rw [B i]at hb
 rw [Array.getElem?_toList,hg i]
 rw [A]at hb
 split at hb
 ·rename_i hc
  rw [if_pos hc]
  simpa using q.get hb
 ·rename_i hc
  rw [if_neg hc]
  simpa using v.get hb
theorem Oi {cs r:List Ab} {x:Array Value} {v:Ab} {u:Value} {j size:Nat} (I:Aw ρ μ cs x.toList) (B:Ah ρ μ v u) (h:Fo cs v j size=some r):
  u.cells.size=size/\j+u.cells.size<=x.size/\∀z:Array Value,z.size=x.size->(∀i,z[i]?=if j<=i/\i<j+u.cells.size then u.cells[i-j]? else x[i]?)->Aw ρ μ r z.toList:=by
 unfold Fo at h
 obtain ⟨vs,q,h⟩:=Ac h
 obtain ⟨hl,h⟩:=Ap h
 have A:=B.cells q
 obtain ⟨H,C⟩:=I.spliced A h
 refine ⟨?_,H,C⟩
 have:=An.1 hl
 rw [Jz]at this
 rw [<-this]
 simpa using A.length.symm
theorem Gm (v:AP ρ μ tm a):∀{parts:List (Nat×Operand)} {ps:List (Nat×Nat×Cr)} {j place':Nat->Option (Nat×Nat)} {cs r:List Ab} {x:Array Value},
  partsOf j parts=some ps->(∀i y,j i=some y->place' i=some y)->Aw ρ μ cs x.toList->Hw tm ps cs=some r->
  ∃z:Array Value,Instr.fill place' x (parts.map fun p=>(p.1,a.eval p.2))=some z/\Aw ρ μ r z.toList
 |[],ps,j,place',cs,r,x,hp,hpl,hx,h=>by
  simp only [partsOf,oI]at hp
  subst hp
  have h:some cs=some r:=h
  simp only [oI]at h
  subst h
  exact ⟨x,rfl,hx⟩
 |(i,y)::parts,ps,j,place',cs,r,x,hp,hpl,hx,h=>by
  simp only [partsOf]at hp
  split at hp
  ·rename_i q size A M L
   simp only [oI]at hp
   subst hp
   have h:(A6 (Fo cs (ev tm (A8 y)) q size) (Hw tm A))=some r:=h
   obtain ⟨P,hc,h⟩:=Ac h
   obtain ⟨Q,O,C⟩:=Oi hx (Au v y) hc
   obtain ⟨J,I⟩:=XE q (a.eval y).cells x O
   have B:=C _ J I
   obtain ⟨z,N,H⟩:=Gm v L hpl B h
   refine ⟨z,?_,H⟩
   simp only [List.map_cons,Instr.fill,hpl i _ M]
   rw [if_neg (by simp;omega)]
   exact N
  ·cases hp
theorem Ei {t:TypeId} {cs:List Ab} (h:GO P t=some cs):∃v,(zeroValue t).run P w=.ok v w/\Aw ρ μ cs v.cells.toList:=by
 unfold GO at h
 cases e:P.info? t with
 |none=>rw [e]at h;cases h
 |some i=>
  rw [e]at h
  simp only at h
  obtain ⟨v,j,h⟩:=Option.bind_eq_some_iff.1 h
  obtain ⟨q,hc,h⟩:=Option.bind_eq_some_iff.1 h
  split at h
  ·simp only [oI]at h
   subst h
   exact ⟨v,by simp [zeroValue,typeInfo,e,j],(CX v).cells hc⟩
  ·cases h
theorem GC:∀(fs:List Field),fs.all (fun f=>(P.info? f.type).isSome)=true->
  (fs.mapM fun f=>Functor.map (Prod.mk f.offset) (sizeOf f.type)).run P w=.ok (fs.map fun f=>(f.offset,P.cellsOf f.type)) w
 |[],_=>by simp
 |f::fs,h=>by
  simp only [List.all_cons,aT]at h
  obtain ⟨i,j⟩:=Option.isSome_iff_exists.1 h.1
  have hs:(sizeOf f.type).run P w=.ok i.size w:=by simp [sizeOf,typeInfo,j]
  simp [List.mapM_cons,GC fs h.2,hs,Program.cellsOf,j]
theorem IF {o:Oper} {t:TypeId} {parts:Array (Nat×Operand)} (O:o.op=.build t parts) (H:AP ρ μ tm a) {fs:Array Field} {z:List Ab} {ps:List (Nat×Nat×Cr)}
  (Q:P.underlying t=some (.struct fs)) (M:GO P t=some z) (A:fs.all (fun f=>(P.info? f.type).isSome)=true)
  (L:partsOf (fun i=>(fs[i]?).bind fun f=>(AU P f.type).map fun n=>(f.offset,n)) parts.toList=some ps) {v:Ab} (h:N3 (Hw tm ps z)=some v):Bf P ρ μ a o w v:=by
 obtain ⟨X,J,N⟩:=Ei (w:=w) (ρ:=ρ) (μ:=μ) M
 unfold N3 at h
 obtain ⟨r,R,h⟩:=Ac h
 simp only [oI]at h
 subst h
 have C:∀i y,((fs[i]?).bind fun (f:Field)=>(AU P f.type).map fun n=>(f.offset,n))=some y->(fs.map fun f=>(f.offset,P.cellsOf f.type))[i]?=some y:=fun i y e=>by
  obtain ⟨f,hf,e⟩:=Option.bind_eq_some_iff.1 e
  obtain ⟨n,B,e⟩:=mS e
  rw [Array.getElem?_map,hf,<-e]
  unfold AU at B
  simp [Program.cellsOf,B]
 obtain ⟨x,U,hc⟩:=Gm H L C N R
 refine ⟨.agg x,?_,by simp only [Ah];exact ⟨x,rfl,hc⟩⟩
 have j:fs.toList.all (fun f=>(P.info? f.type).isSome)=true:=by rw [<-A];simp
 have I:=GC (w:=w) fs.toList j
 have V:(parts.map fun x=>(x.1,a.eval x.2)).toList=parts.toList.map fun p=>(p.1,a.eval p.2):=by simp
 have q:Instr.fill (fun i=>(fs.map fun f=>(f.offset,P.cellsOf f.type))[i]?) X.cells ((parts.map fun x=>(x.1,a.eval x.2)).toList)=some x:=by rw [V];exact U
 simp [execOp,O,Instr.build,J,run_underlying Q,Array.mapM_eq_mapM_toList,I]
 simp at q
 rw [q]
 simp
theorem J4 {o:Oper} {t e:TypeId} {len n:Nat} {parts:Array (Nat×Operand)} (J:o.op=.build t parts) (q:AP ρ μ tm a) {z:List Ab} {ps:List (Nat×Nat×Cr)}
  (L:P.underlying t=some (.array len e)) (H:GO P t=some z) (B:AU P e=some n)
  (C:partsOf (fun i=>some (i*n,n)) parts.toList=some ps) {v:Ab} (h:N3 (Hw tm ps z)=some v):Bf P ρ μ a o w v:=by
 obtain ⟨Q,A,I⟩:=Ei (w:=w) (ρ:=ρ) (μ:=μ) H
 unfold N3 at h
 obtain ⟨r,M,h⟩:=Ac h
 simp only [oI]at h
 subst h
 obtain ⟨x,N,hc⟩:=Gm (place':=fun i=>some (i*n,n)) q C (fun i y e=>e) I M
 refine ⟨.agg x,?_,by simp only [Ah];exact ⟨x,rfl,hc⟩⟩
 have O:(parts.map fun x=>(x.1,a.eval x.2)).toList=parts.toList.map fun p=>(p.1,a.eval p.2):=by simp
 have j:Instr.fill (fun i=>some (i*n,n)) Q.cells ((parts.map fun x=>(x.1,a.eval x.2)).toList)=some x:=by rw [O];exact N
 have hs:=Bm (w:=w) B
 simp [execOp,J,Instr.build,A,run_underlying L,hs]
 simp at j
 rw [j]
 simp
theorem Jf (b c:ByteArray):strOf (b++c)=strOf b++strOf c:=by simp [strOf,ByteArray.data_append]
theorem Z8 {x:Ab} {b:ByteArray} (h:DV ρ x=some (strOf b)):Ah ρ μ x (.string b):=by
 cases x<;>simp only [DV,oI,reduceCtorEq]at h
 case str=>simp only [Ah];exact ⟨b,rfl,h.symm⟩
 case svar=>simp only [Ah];exact ⟨b,rfl,h.symm⟩
theorem IT {o:Oper} {op:BinOp} {t N:TypeId} {x y:Operand} (H:o.op=.binOp op t x y N) (hΓ:Γ.AB ρ) {X Y:Ab} (I:Ah ρ μ X (a.eval x)) (J:Ah ρ μ Y (a.eval y)) {v:Ab} (h:AbK Γ op X Y=some v):Bf P ρ μ a o w v:=by
 unfold AbK at h
 split at h
 ·obtain ⟨b,hb,h⟩:=Ac h
  simp only [oI]at h
  subst h
  obtain ⟨s,u,A,C,j⟩:=hΓ.strs _ (FM hb)
  obtain ⟨q,z,rfl⟩:=BH A I
  obtain ⟨b2,B,rfl⟩:=BH C J
  have j:b=decide (strOf q=strOf b2):=j
  refine ⟨.bool (q.toList==b2.toList),?_,?_⟩
  ·simp only [execOp,H,z,B,eqGuard_at_string,binOp,Op.stringOp,Sem.run_bind,Sem.run_pure,Result.andThen_ok]
  ·simp only [Ah,SB.den]
   rw [<-CA,j]
   congr 1
   rw [Bool.eq_iff_iff,Dt];simp
 ·obtain ⟨b,hb,h⟩:=Ac h
  simp only [oI]at h
  subst h
  obtain ⟨s,u,A,C,j⟩:=hΓ.strs _ (FM hb)
  obtain ⟨q,z,rfl⟩:=BH A I
  obtain ⟨b2,B,rfl⟩:=BH C J
  have j:b=decide (strOf q=strOf b2):=j
  refine ⟨.bool (!(q.toList==b2.toList)),?_,?_⟩
  ·simp only [execOp,H,z,B,eqGuard_at_string,binOp,Op.stringOp,Sem.run_bind,Sem.run_pure,Result.andThen_ok]
  ·simp only [Ah,SB.den]
   rw [<-CA,j]
   congr 2
   rw [Bool.eq_iff_iff,Dt];simp
 ·obtain ⟨s,u,A,C,j,L⟩:=hΓ.E4 _ (OR h)
  obtain ⟨q,z,rfl⟩:=BH A I
  obtain ⟨b2,B,rfl⟩:=BH C J
  refine ⟨.string (q++b2),?_,Z8 (by rw [Jf];exact j)⟩
  rw [B6,B6]at L
  have M:¬(((q.size+b2.size:Nat):Int)>IntKind.i64.max):=by
   have:IntKind.i64.max=9223372036854775807:=by decide
   rw [this];omega
  simp only [execOp,H,z,B,eqGuard_at_string,binOp,Op.stringOp,Sem.run_bind,Sem.run_pure,Result.andThen_ok]
  rw [if_neg M]
  rfl
 ·cases h
theorem OY {o:Oper} {op:BinOp} {t O:TypeId} {x y:Operand} (A:o.op=.binOp op t x y O) (hΓ:Γ.AB ρ) (N:AP ρ μ tm a) {v:Ab} (h:Ahq Γ op (ev tm (A8 x)) (ev tm (A8 y))=some v):Bf P ρ μ a o w v:=by
 have z:=Au N x
 have j:=Au N y
 unfold Ahq at h
 split at h
 ·rename_i k m M n hb hc
  rw [hb]at z
  rw [hc]at j
  have B:=z.int
  have C:=j.int
  unfold Al2 at h
  cases hs:DM op with
  |true=>
   rw [hs]at h
   simp only [cond_true]at h
   unfold Aao at h
   split at h
   ·rename_i p q
    obtain ⟨r,R,h⟩:=Ac h
    simp only [oI]at h
    subst h
    refine ⟨.int k r,?_,by simp only [Ah,ST.den]⟩
    have H:=Jk (yk:=M) R
    cases op<;>simp only [DM,Bool.false_eq_true]at hs<;>simp [execOp,A,B,C,ST.den,eqGuard_at_int,binOp,H]
   ·unfold Aan at h
    obtain ⟨L,h⟩:=Ap h
    simp only [oI]at h
    subst h
    refine ⟨.int k (Dy op k (m.den ρ) (n.den ρ)),?_,by simp only [Ah];rw [Ko hΓ];rfl⟩
    have H:=Sg (k:=k) (yk:=M) (x:=m.den ρ) hs (NW hΓ L)
    cases op<;>simp only [DM,Bool.false_eq_true]at hs<;>simp [execOp,A,B,C,eqGuard_at_int,binOp,H]
  |false=>
   rw [hs]at h
   simp only [cond_false]at h
   cases hk:U8 k M with
   |false=>rw [hk]at h;simp at h
   |true=>
    have U:=Df.1 hk
    subst U
    rw [hk]at h
    simp only [Bool.not_true,cond_false]at h
    cases hcm:Fl op with
    |true=>
     rw [hcm]at h
     simp only [cond_true]at h
     obtain ⟨s,J,h⟩:=Ac h
     simp only [oI]at h
     subst h
     have hd:=(CB hΓ J).1
     refine ⟨.bool (Ev op (m.den ρ) (n.den ρ)),?_,by simp only [Ah];rw [hd]⟩
     simp [execOp,A,B,C,eqGuard_at_int,XU hcm]
    |false=>
     rw [hcm]at h
     simp only [cond_false]at h
     obtain ⟨s,J,h⟩:=Ac h
     simp only [oI]at h
     subst h
     obtain ⟨hd,Q,_,_⟩:=HK hΓ J
     refine ⟨.int k (Dy op k (m.den ρ) (n.den ρ)),?_,by simp only [Ah];rw [hd]⟩
     simp [execOp,A,B,C,eqGuard_at_int,Tk Q hcm hs]
 ·rename_i s V hb hc
  rw [hb]at z
  rw [hc]at j
  obtain ⟨b,B,rfl⟩:=z.str
  obtain ⟨c,C,rfl⟩:=j.str
  cases op
  case add=>
   simp only [T4]at h
   obtain ⟨I,h⟩:=Ap h
   have I:=AI.1 I
   simp only [oI]at h
   subst h
   refine ⟨.string (b++c),?_,by simp only [Ah];exact ⟨_,rfl,Jf _ _⟩⟩
   rw [Db,Db,B6,B6]at I
   have L:¬(((b.size+c.size:Nat):Int)>IntKind.i64.max):=by
    have:IntKind.i64.max=9223372036854775807:=by decide
    rw [this];omega
   simp only [execOp,A,B,C,eqGuard_at_string,binOp,Op.stringOp,Sem.run_bind,Sem.run_pure,Result.andThen_ok]
   rw [if_neg L]
   rfl
  all_goals
   simp only [T4,oI,reduceCtorEq]at h<;>subst h<;>
   refine ⟨_,by simp only [execOp,A,B,C,eqGuard_at_string,binOp,Op.stringOp,Sem.run_bind,Sem.run_pure,Result.andThen_ok];rfl,by simp only [Ah,SB.den,CA,Z9]⟩
 ·rename_i hb hc
  rw [hb]at z
  rw [hc]at j
  exact IT A hΓ z j h
 ·rename_i hb hc
  rw [hb]at z
  rw [hc]at j
  exact IT A hΓ z j h
 ·rename_i hb hc
  rw [hb]at z
  rw [hc]at j
  exact IT A hΓ z j h
 ·cases h
theorem Abq {o:Oper} {op:UnOp} {t:TypeId} {x:Operand} (q:o.op=.unOp op t x) (hΓ:Γ.AB ρ) (z:AP ρ μ tm a) {v:Ab} (h:unA Γ op (ev tm (A8 x))=some v):Bf P ρ μ a o w v:=by
 have j:=Au z x
 unfold unA at h
 split at h
 ·rename_i k n hb
  rw [hb]at j
  have e:=j.int
  obtain ⟨s,hs,h⟩:=Ac h
  simp only [oI]at h
  subst h
  obtain ⟨hd,_⟩:=HK hΓ hs
  refine ⟨.int k (s.den ρ),?_,by simp only [Ah]⟩
  rw [hd]
  simp [execOp,q,e,unary_neg,Op.intArith,Dy,ST.den]
 ·rename_i k n hb
  rw [hb]at j
  have e:=j.int
  obtain ⟨s,hs,h⟩:=Ac h
  simp only [oI]at h
  subst h
  obtain ⟨hd,_⟩:=HK hΓ hs
  refine ⟨.int k (s.den ρ),?_,by simp only [Ah]⟩
  rw [hd]
  have A:((.lit (bif HT k then Int.negSucc 0 else Int.ofNat (modulus k-1)):ST).den ρ)=if k.signed then -1 else k.max:=by
   cases k<;>rfl
  rw [A]
  simp [execOp,q,e,unary_xor,intBits_xor,Dy]
 ·rename_i b hb
  rw [hb]at j
  have e:=j.bool
  simp only [oI]at h
  subst h
  exact ⟨.bool (!b),by simp [execOp,q,e,unary_not,SB.den],by simp only [Ah,SB.den]⟩
 ·rename_i b _ hb
  rw [hb]at j
  have e:=j.bool
  simp only [oI]at h
  subst h
  exact ⟨.bool (!(b.den ρ)),by simp [execOp,q,e,unary_not],by simp only [Ah,SB.den]⟩
 ·cases h
theorem UL {o:Oper} {s d:TypeId} {k0 k:IntKind} {x:Operand} (q:o.op=.convert s d x) (hΓ:Γ.AB ρ) (z:AP ρ μ tm a) (hs:P.underlying s=some (.int k0)) (hd:P.underlying d=some (.int k))
  {v:Ab} (h:Ab9 Γ k (ev tm (A8 x))=some v):Bf P ρ μ a o w v:=by
 have j:=Au z x
 unfold Ab9 at h
 split at h
 ·rename_i k1 n hb
  rw [hb]at j
  have e:=j.int
  simp only [oI]at h
  subst h
  refine ⟨.int k (k.wrap (n.den ρ)),?_,by simp only [Ah];rw [Ou hΓ]⟩
  simp [execOp,q,e,Go.convert,run_underlying hs,run_underlying hd,Conv.intToInt]
 ·cases h
theorem UD {o:Oper} {s d:TypeId} {x:Operand} (z:o.op=.convert s d x) (A:AP ρ μ tm a) (hs:P.underlying s=some .string) (hd:P.underlying d=some .string)
  {v:Ab} (h:Aax (ev tm (A8 x))=some v):Bf P ρ μ a o w v:=by
 have j:=Au A x
 unfold Aax at h
 split at h
 ·rename_i c hb
  rw [hb]at j
  simp only [oI]at h
  subst h
  have q:=j
  obtain ⟨b,e,_⟩:=j.str
  refine ⟨a.eval x,?_,q⟩
  simp [execOp,z,e,Go.convert,run_underlying hs,run_underlying hd]
 ·cases h
theorem N6 {Γ:Ao} (hΓ:Γ.AB ρ) (most:Bool):∀{I:List Ab} {x v:Ab} {us:List Value} {u:Value},Ah ρ μ x u->A4 ρ μ I us->Ad0 Γ most I x=some v->
  ∃A,(us.foldlM (if most then Builtin.max2 else Builtin.min2) u).run P w=.ok A w/\Ah ρ μ v A
 |[],x,v,us,u,hu,hs,h=>by
  simp only [A4]at hs
  subst hs
  have h:some x=some v:=h
  simp only [oI]at h
  subst h
  exact ⟨u,by simp,hu⟩
 |y::ys,x,v,us,u,hu,hs,h=>by
  simp only [A4]at hs
  obtain ⟨Z,rest,rfl,V,N⟩:=hs
  have H:A6 (Vs Γ most x y) (Ad0 Γ most ys)=some v:=h
  clear h
  obtain ⟨z,q,B⟩:=Ac H
  clear H
  unfold Vs at q
  split at q
  ·rename_i k m Y n
   obtain ⟨Q,j⟩:=Ap q
   have O:=Df.1 Q
   subst O
   split at j
   case h_2=>cases j
   rename_i c C
   simp only [oI]at j
   have q:=j
   have M:=hu.int
   have U:=V.int
   subst M U
   have J:c=(bif most then decide (m.den ρ<n.den ρ)else decide (n.den ρ<m.den ρ)):=by
    cases most with
    |true=>exact (CB hΓ C).1
    |false=>exact (CB hΓ C).1
   have L:Ah ρ μ z (.int k (bif c then n.den ρ else m.den ρ)):=by rw [<-q];cases c<;>simp only [Ah,cond_true,cond_false]
   obtain ⟨A,R,X⟩:=N6 hΓ most L N B
   subst J
   generalize m.den ρ=m at*
   generalize n.den ρ=n at*
   refine ⟨A,?_,X⟩
   rw [<-R,List.foldlM_cons]
   cases most
   ·simp only [Bool.false_eq_true,if_false,cond_false,Sem.run_bind]
    simp only [Builtin.min2,Sem.run_pure,Result.andThen_ok]
    congr 2
    by_cases hc:n<m<;>simp [hc]
   ·simp only [if_true,cond_true,Sem.run_bind]
    simp only [Builtin.max2,Sem.run_pure,Result.andThen_ok]
    congr 2
    by_cases hc:m<n<;>simp [hc]
  ·cases q
theorem OZ {Γ:Ao} (hΓ:Γ.AB ρ) {o:Oper} {q:List Operand} {c:Call} {most:Bool} (C:o.op=.call c) (j:c.callee=.builtin (if most then .max else .min)) (z:c.args.toList=q) (H:AP ρ μ tm a)
  {v:Ab} (h:Al3 Γ most (RG tm (BT q))=some v):Bf P ρ μ a o w v:=by
 cases q with
 |nil=>have h:none=some v:=h;cases h
 |cons x q=>
  have h:Ad0 Γ most (RG tm (BT q)) (ev tm (A8 x))=some v:=h
  obtain ⟨B,A,I⟩:=N6 (P:=P) (w:=w) hΓ most (Au H x) (FO H q) h
  refine ⟨B,?_,I⟩
  cases most
  ·have j:c.callee=.builtin .min:=j
   have A:Sem.run P (List.foldlM Builtin.min2 (a.eval x) (List.map a.eval q)) w=.ok B w:=A
   simp [execOp,C,resolve,j,invoke,builtin,Builtin.min_,z,A]
  ·have j:c.callee=.builtin .max:=j
   have A:Sem.run P (List.foldlM Builtin.max2 (a.eval x) (List.map a.eval q)) w=.ok B w:=A
   simp [execOp,C,resolve,j,invoke,builtin,Builtin.max_,z,A]
end
end
section
section
variable {P:Program} {Γ:Ao} {ρ:Env} {μ:As} {tm:Tr Ab} {a:Act} {w:World}
theorem OT {o:Option SB} {v:Bool} (h:AgK o=some v):o=some (.lit v):=by
 unfold AgK at h
 split at h
 ·simp only [oI]at h;rw [h]
 ·cases h
def LK.fits (k:LK) (d:TypeDesc):Prop:=
 match k with
 |.bool=>d=.bool
 |.int=>∃i,d=.int i
 |.str=>d=.string
theorem Ro (hΓ:Γ.AB ρ) {k:LK} {x y:Ab} {u v:Value} {b:Bool} (B:Ah ρ μ x u) (z:Ah ρ μ y v) (h:IM Γ k x y=some b) {t:TypeId} {d:TypeDesc} (A:P.underlying t=some d) (j:k.fits d) (n:Nat):
  (Op.equalIn (n+1) t u v).run P w=.ok b w:=by
 unfold IM at h
 split at h
 ·rename_i k1 m R V
  obtain ⟨i,rfl⟩:=j
  obtain ⟨I,H⟩:=Ap h
  clear h
  have O:=Df.1 I
  subst O
  have hc:=(CB hΓ (OT H)).1
  rw [B.int,z.int,run_equalIn_int w n t k1 i _ _ A]
  simp only [SB.den,Ev]at hc
  rw [hc]
 ·rename_i p q
  have j:d=.bool:=j
  subst j
  simp only [oI]at h
  rw [B.bool,z.bool]
  simp only [SB.den]
  rw [run_equalIn_bool' w n t p q A,<-h,beq_eq]
 ·rename_i p q
  have j:d=.string:=j
  subst j
  simp only [oI]at h
  obtain ⟨s,rfl,M⟩:=B.str
  obtain ⟨N,rfl,Q⟩:=z.str
  rw [run_equalIn_string w n t s N A,<-h,<-M,<-Q,CA]
 all_goals first
  |(cases h;done)
  |(have j:d=.string:=j
    subst j
    obtain ⟨s,U,L,H,C⟩:=hΓ.strs _ (FM h)
    obtain ⟨J,rfl,rfl⟩:=BH L B
    obtain ⟨b2,rfl,rfl⟩:=BH H z
    have C:b=decide (strOf J=strOf b2):=C
    rw [run_equalIn_string w n t J b2 A,<-CA,C]
    congr 1
    rw [Bool.eq_iff_iff,Dt];simp)
theorem E3 (cs ds:List Ab):∀(j q:List (Nat×LK)),CV Γ cs ds (j++q)=A6 (CV Γ cs ds j) fun e=>bif e then CV Γ cs ds q else some false
 |[],q=>rfl
 |o::j,q=>by
  show (A6 (SX Γ cs ds o) fun e=>bif e then CV Γ cs ds (j++q)else some false)=A6 (A6 (SX Γ cs ds o) fun e=>bif e then CV Γ cs ds j else some false) _
  cases SX Γ cs ds o with
  |none=>rfl
  |some e=>
   cases e with
   |false=>rfl
   |true=>exact E3 cs ds j q
theorem GZ (k:Nat) (x y:List (Nat×LK)):Cp k (x++y)=Cp k x++Cp k y:=by simp [Cp]
theorem GB (k j:Nat) (x:List (Nat×LK)):Cp k (Cp j x)=Cp (k+j) x:=by
 unfold Cp;rw [List.map_map];apply List.map_congr_left;intro x _;simp [Nat.add_assoc]
theorem N7 {n:Nat} {l:List (Nat×LK)} (h:below n l=true):∀x∈l,x.1<n:=fun x j=>by
 unfold below at h
 have:=List.all_eq_true.1 h x j
 exact Ib.1 this
structure XW (X:Array Value) (base n:Nat) (Z:Array Value):Prop where
 cell:∀off,off<n->Z[off]?=X[base+off]?
 part:∀off m,off+m<=n->Z.extract off (off+m)=X.extract (base+off) (base+off+m)
theorem XW.whole (X:Array Value) (n:Nat):XW X 0 n X:=⟨fun j _=>by simp,fun j m _=>by simp⟩
theorem XW.sub {X Z:Array Value} {q n:Nat} (h:XW X q n Z) {j m:Nat} (x:j+m<=n):XW X (q+j) m (Z.extract j (j+m)) where
 cell:=fun i A=>by
  rw [Array.getElem?_extract]
  by_cases hz:i<min (j+m) Z.size-j
  ·rw [if_pos hz,h.cell _ (by omega),Nat.add_assoc]
  ·rw [if_neg hz]
   have v:¬j+i<Z.size:=by omega
   have e:=h.cell (j+i) (by omega)
   rw [Array.getElem?_eq_none (by omega)]at e
   rw [Nat.add_assoc]
   exact e
 part:=fun i k z=>by
  rw [Array.extract_extract,show min (j+(i+k)) (j+m)=(j+i)+k by omega,h.part _ _ (by omega)]
  congr 1<;>omega
theorem U5 {d:Nat} {t:TypeId} {l:List (Nat×LK)} (h:leaves P d t=some l) (j:DR P t=some none):∃v,l=[(0,v)]:=by
 cases d with
 |zero=>simp [leaves]at h
 |succ d=>
  simp only [leaves]at h
  split at h
  ·simp only [oI]at h;exact ⟨_,h.symm⟩
  ·simp only [oI]at h;exact ⟨_,h.symm⟩
  ·simp only [oI]at h;exact ⟨_,h.symm⟩
  ·rename_i fs q
   unfold DR at j
   rw [q]at j
   cases e:P.info? t<;>rw [e]at j<;>simp at j
  ·rename_i k e q
   unfold DR at j
   rw [q]at j
   cases e:P.info? t<;>rw [e]at j<;>simp at j
  ·cases h
theorem Vw {t:TypeId} {n:Nat} (q:AU P t=some n) {d:Nat} {l:List (Nat×LK)} (h:leaves P d t=some l):DR P t=some none∨DR P t=some (some n):=by
 unfold AU at q
 obtain ⟨i,v,e⟩:=mS q
 have j:∃u,P.underlying t=some u:=by
  cases j:P.underlying t with
  |some u=>exact ⟨u,rfl⟩
  |none=>
   cases d with
   |zero=>simp [leaves]at h
   |succ d=>simp [leaves,j]at h
 obtain ⟨u,j⟩:=j
 unfold DR
 rw [j,v]
 cases u<;>simp [e]
theorem Jn {t:TypeId} {X:Array Value} {j n:Nat} (B:AU P t=some n):
  (∀m,DR P t=some (some m)->(part t X j).run P w=.ok (.agg (X.extract j (j+m))) w)/\
  (DR P t=some none->∀x,X[j]?=some x->(part t X j).run P w=.ok x w):=by
 refine ⟨fun m z=>?_,fun h x A=>?_⟩
 ·obtain ⟨q,v⟩:=Eg P w t z
  simp [part,q,v m rfl]
 ·obtain ⟨q,v⟩:=Eg P w t h
  simp [part,q,A]
structure Acx (P:Program) (X Y:Array Value) (base:Nat) (t:TypeId) (x y:Value):Prop where
 agg:∀n,DR P t=some (some n)->∃X' Y',x=.agg X'/\y=.agg Y'/\XW X base n X'/\XW Y base n Y'
 one:DR P t=some none->X[base]?=some x/\Y[base]?=some y
theorem Jt {X Y X' Y':Array Value} {cs ds:List Ab} (hX:Aw ρ μ cs X.toList) (hY:Aw ρ μ ds Y.toList) {d:Nat} {t:TypeId} {l:List (Nat×LK)} {m n j z k:Nat} {e:Bool}
  (L:XW X j n X') (M:XW Y j n Y') (hl:leaves P d t=some l) (A:AU P t=some m) (C:z+m<=n) (N:∀x∈l,x.1<m)
  (R:CV Γ cs ds (Cp (j+z) l)=some e)
  (rec:∀(x y:Value),Acx P X Y (j+z) t x y->(Op.equalIn k t x y).run P w=.ok e w):
  ∃px U,(part t X' z).run P w=.ok px w/\(part t Y' z).run P w=.ok U w/\(Op.equalIn k t px U).run P w=.ok e w:=by
 rcases Vw A hl with ha|ha
 ·obtain ⟨lk,rfl⟩:=U5 hl ha
  have R:(A6 (SX Γ cs ds (j+z+0,lk)) fun e=>bif e then some true else some false)=some e:=R
  obtain ⟨e',J,_⟩:=Ac R
  unfold SX at J
  obtain ⟨p,O,J⟩:=Ac J
  obtain ⟨q,Q,_⟩:=Ac J
  rw [Kp]at O Q
  simp only [Nat.add_zero]at O Q
  obtain ⟨u,H,_,_⟩:=hX.get O
  obtain ⟨v,I,_,_⟩:=hY.get Q
  rw [Array.getElem?_toList]at H I
  have V:=N _ (List.mem_singleton.2 rfl)
  simp only at V
  refine ⟨u,v,(Jn A).2 ha _ (by rw [L.cell _ (by omega)];exact H),(Jn A).2 ha _ (by rw [M.cell _ (by omega)];exact I),rec u v ⟨fun n Z=>?_,fun _=>⟨H,I⟩⟩⟩
  rw [ha]at Z;cases Z
 ·refine ⟨_,_,(Jn A).1 m ha,(Jn A).1 m ha,rec _ _ ⟨fun n' B=>?_,fun h=>?_⟩⟩
  ·rw [ha]at B
   simp only [oI]at B
   subst B
   exact ⟨_,_,rfl,rfl,L.sub C,M.sub C⟩
  ·rw [ha]at h;cases h
theorem Ly {α:Type} {o:Option (List α)} {r:List (Option (List α))} {l:List α} (h:Dx (o::r)=some l):∃j q,o=some j/\Dx r=some q/\l=j++q:=by
 cases o with
 |none=>simp [Dx]at h
 |some j=>
  simp only [Dx]at h
  obtain ⟨q,v,x⟩:=mS h
  exact ⟨j,q,rfl,v,x.symm⟩
theorem GK {t:TypeId} {d:TypeDesc} (q:P.underlying t=some d) (h:(∀fs,d≠.struct fs)/\∀k e,d≠.array k e) (j:(P.info? t).isSome=true):DR P t=some none:=by
 obtain ⟨i,j⟩:=Option.isSome_iff_exists.1 j
 unfold DR
 rw [q,j]
 cases d<;>first|rfl|(exact absurd rfl (h.1 _)) |(exact absurd rfl (h.2 _ _))
theorem info_of_underlying {t:TypeId} {d:TypeDesc} (j:P.underlying t=some d):(P.info? t).isSome=true:=by
 unfold Program.underlying at j
 cases e:P.info? t with
 |none=>rw [e]at j;cases j
 |some i=>rfl
theorem Tq {t:TypeId} {fs:Array Field} {n:Nat} (v:P.underlying t=some (.struct fs)) (j:AU P t=some n):DR P t=some (some n):=by
 unfold AU at j
 obtain ⟨i,q,e⟩:=mS j
 unfold DR
 rw [v,q]
 simp [e]
theorem Vx {t e:TypeId} {k n:Nat} (q:P.underlying t=some (.array k e)) (j:AU P t=some n):DR P t=some (some n):=by
 unfold AU at j
 obtain ⟨i,v,e⟩:=mS j
 unfold DR
 rw [q,v]
 simp [e]
theorem Gj (hΓ:Γ.AB ρ) {X Y:Array Value} {cs ds:List Ab} (U:Aw ρ μ cs X.toList) (V:Aw ρ μ ds Y.toList):
  ∀(d:Nat) (t:TypeId) (ls:List (Nat×LK)),leaves P d t=some ls->∀(k H:Nat) (x y:Value) (b:Bool),d<=k->Acx P X Y H t x y->
   CV Γ cs ds (Cp H ls)=some b->(Op.equalIn k t x y).run P w=.ok b w
 |0,t,ls,h,k,H,x,y,b,hk,hxy,I=>by simp [leaves]at h
 |d+1,t,ls,h,k,H,x,y,b,hk,hxy,I=>by
  obtain ⟨k,rfl⟩:∃k',k=k'+1:=⟨k-1,by omega⟩
  have C:∀(J:TypeDesc) (lk:LK),P.underlying t=some J->(∀fs,J≠.struct fs)/\(∀k e,J≠.array k e)->lk.fits J->ls=[(0,lk)]->(Op.equalIn (k+1) t x y).run P w=.ok b w:=fun J lk A aC hf hl=>by
   subst hl
   obtain ⟨hx,hy⟩:=hxy.one (GK A aC (info_of_underlying A))
   have I:(A6 (SX Γ cs ds (H+0,lk)) fun e=>bif e then some true else some false)=some b:=I
   obtain ⟨e,z,h2⟩:=Ac I
   have hb:e=b:=by cases e<;>simpa using h2
   subst hb
   unfold SX at z
   obtain ⟨p,hp,z⟩:=Ac z
   obtain ⟨q,hq,z⟩:=Ac z
   rw [Kp]at hp hq
   simp only [Nat.add_zero]at hp hq
   obtain ⟨u,ac,_,aA⟩:=U.get hp
   obtain ⟨v,af,_,aB⟩:=V.get hq
   rw [Array.getElem?_toList,hx]at ac
   rw [Array.getElem?_toList,hy]at af
   simp only [oI]at ac af
   subst ac af
   exact Ro hΓ aA aB z A hf k
  simp only [leaves]at h
  split at h
  ·rename_i A
   simp only [oI]at h
   exact C _ .bool A ⟨by simp,by simp⟩ rfl h.symm
  ·rename_i i A
   simp only [oI]at h
   exact C _ .int A ⟨by simp,by simp⟩ ⟨_,rfl⟩ h.symm
  ·rename_i A
   simp only [oI]at h
   exact C _ .str A ⟨by simp,by simp⟩ rfl h.symm
  ·
   rename_i fs A
   split at h
   ·cases h
   ·rename_i Q
    have Q:P.stoodInHeld t=false:=by simpa using Q
    obtain ⟨n,hn⟩:∃n,AU P t=some n:=by
     obtain ⟨i,M⟩:=Option.isSome_iff_exists.1 (info_of_underlying A)
     exact ⟨i.size,by simp [AU,M]⟩
    obtain ⟨X',Y',rfl,rfl,R,ab⟩:=hxy.agg n (Tq A hn)
    have ad:P.fieldsOf t=fs:=by simp [Program.fieldsOf,A]
    rw [run_equalIn_struct w k t _ _ (by rw [ad];exact A) Q,ad]
    have Z:d<=k:=by omega
    clear hxy C A ad Q
    generalize fs.toList=fl at h
    induction fl generalizing ls b with
    |nil=>
     simp only [List.map_nil,Dx,oI]at h
     subst h
     have I:some true=some b:=I
     simp only [oI]at I
     subst I
     simp [Op.eqFields]
    |cons f fl ih=>
     simp only [List.map_cons]at h
     obtain ⟨l1,l2,z,h2,rfl⟩:=Ly h
     split at z
     ·cases z
     ·rename_i aj
      split at z
      ·rename_i l m hl hm
       split at z
       ·rename_i B
        simp only [oI]at z
        subst z
        rw [GZ,GB,E3]at I
        obtain ⟨e,al,N⟩:=Ac I
        have ae:∃px py,(part f.type X' f.offset).run P w=.ok px w/\(part f.type Y' f.offset).run P w=.ok py w/\(Op.equalIn k f.type px py).run P w=.ok e w:=by
         rw [aT]at B
         have aa:f.offset+m<=n:=by
          have:=AI.1 B.2
          unfold AU at hn
          simp only [Program.cellsOf,hn,Option.getD_some]at this
          exact this
         exact Jt U V R ab hl hm aa (N7 B.1) al fun x y z=>Gj hΓ U V d f.type l hl k _ x y e Z z al
        obtain ⟨px,py,r1,r2,r3⟩:=ae
        simp only [Op.eqFields,if_pos (show f.name≠ "_" from aj)]
        simp only [Sem.run_bind,r1,Result.andThen_ok,r2,r3]
        cases e with
        |false=>
         simp only [cond_false,oI]at N
         subst N
         simp
        |true=>
         simp only [cond_true]at N
         simp only [Bool.not_true,Bool.false_eq_true,if_false]
         exact ih l2 b N h2
       ·cases z
      ·cases z
  ·
   rename_i len e A
   split at h
   ·rename_i l m hl hm
    split at h
    ·rename_i B
     simp only [oI]at h
     rw [aT]at B
     obtain ⟨n,hn⟩:∃n,AU P t=some n:=by
      obtain ⟨i,M⟩:=Option.isSome_iff_exists.1 (info_of_underlying A)
      exact ⟨i.size,by simp [AU,M]⟩
     obtain ⟨X',Y',rfl,rfl,R,ab⟩:=hxy.agg n (Vx A hn)
     have aa:len*m<=n:=by
      have:=AI.1 B.2
      unfold AU at hn
      simp only [Program.cellsOf,hn,Option.getD_some]at this
      exact this
     have Z:d<=k:=by omega
     have hs:=Bm (w:=w) hm
     simp only [Op.equalIn,Sem.run_bind,run_underlying A,Result.andThen_ok,hs]
     have key:∀(L:List Nat) (b:Bool),(∀i∈L,i<len)->CV Γ cs ds (Cp H (L.flatMap fun i=>Cp (i*m) l))=some b->
       (forIn L ((none,()):Option Bool×Unit) fun i (_:Option Bool×Unit)=>do
        let p<-part e X' (i*m)
        let q<-part e Y' (i*m)
        let r<-Op.equalIn k e p q
        if (!r)=true then pure (ForInStep.done (some false,()))else pure (ForInStep.yield (none,())):Sem (Option Bool×Unit)).run P w=.ok (if b then none else some false,()) w:=by
      intro L
      induction L with
      |nil=>
       intro b _ hb
       have hb:some true=some b:=hb
       simp only [oI]at hb
       subst hb
       simp
      |cons i L ih=>
       intro b hL hb
       rw [List.flatMap_cons,GZ,GB,E3]at hb
       obtain ⟨r,an,O⟩:=Ac hb
       have M:i<len:=hL i List.mem_cons_self
       have aD:i*m+m<=n:=by
        have:=Nat.mul_le_mul_right m (show i+1<=len from M)
        rw [Nat.succ_mul]at this
        omega
       obtain ⟨px,py,r1,r2,r3⟩:=Jt (n:=n) (k:=k) (w:=w) U V R ab hl hm aD (N7 B.1) an fun x y z=>Gj hΓ U V d e l hl k _ x y r Z z an
       rw [List.forIn_cons]
       simp only [Sem.run_bind,r1,Result.andThen_ok,r2,r3]
       cases r with
       |false=>
        simp only [cond_false,oI]at O
        subst O
        simp
       |true=>
        simp only [cond_true]at O
        simp only [Bool.not_true,Bool.false_eq_true,if_false,Sem.run_pure,Result.andThen_ok]
        exact ih b (fun j hj=>hL j (List.mem_cons_of_mem _ hj)) O
     rw [Std.Legacy.Range.forIn_eq_forIn_range']
     have hr:List.range' 0 len 1=List.range len:=(List.range_eq_range' ..).symm
     simp only [Std.Legacy.Range.size,Nat.sub_zero,Nat.add_one_sub_one,Nat.div_one]
     rw [hr]
     have:=key (List.range len) b (fun i M=>List.mem_range.1 M) (by rw [h];exact I)
     rw [this]
     cases b<;>simp
    ·cases h
   ·cases h
  ·cases h
end
end
end Go.AM
