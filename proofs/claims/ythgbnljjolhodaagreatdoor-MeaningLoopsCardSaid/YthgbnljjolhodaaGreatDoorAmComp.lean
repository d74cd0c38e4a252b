/- From the model's code to the abstract machine's: a computable translation; an operation that the abstract machine does not know gives none. -/
import Derived.Test.YthgbnljjolhodaaGreatDoorAmBase
set_option linter.all false
namespace Go.AM

def strOf (s : ByteArray) : List Nat := s.data.toList.map (·.toNat)

mutual
def absV : Value → AVal
  | .bool b => .bool (.lit b)
  | .int k n => .int k (.lit n)
  | .string s => .str (strOf s)
  | .pointer none => .nilPtr
  | .slice none 0 0 => .nilSlice
  | .map none => .nilMap
  | .nilFunc => .nilFunc
  | .nilIface => .nilIface
  | .agg ⟨cs⟩ => if (absL cs).all (·.single) then .agg (absL cs) else .any
  | _ => .any
def absL : List Value → List AVal
  | [] => []
  | v :: r => absV v :: absL r
end

def opd : Operand → Opd
  | .tmp t => .tmp t
  | .const v => .con (absV v)
  | .func f => .con (.func f [] [])
  | .global _ => .con .any

def opds (l : List Operand) : List Opd := l.map opd

def sizeT (P : Program) (t : TypeId) : Option Nat := (P.info? t).map (·.size)

/-- none: no such type; some none: one cell; some (some n): a struct or an array of n cells -/
def aggT (P : Program) (t : TypeId) : Option (Option Nat) :=
  match P.underlying t, P.info? t with
  | some (.struct _), some i | some (.array _ _), some i => some (some i.size)
  | some _, some _ => some none
  | _, _ => none

/-- the cells of a type's zero value -/
def zeroT (P : Program) (t : TypeId) : Option (List AVal) :=
  match P.info? t with
  | some i => i.zero.bind fun v => (absV v).cells.bind fun cs => if cs.all (·.single) then some cs else none
  | none => none

def concatSome {α : Type} : List (Option (List α)) → Option (List α)
  | [] => some []
  | some a :: r => (concatSome r).map (a ++ ·)
  | none :: _ => none

def LK.no : LK → Nat
  | .bool => 0
  | .int => 1
  | .str => 2

def shifted (k : Nat) (l : List (Nat × LK)) : List (Nat × LK) := l.map fun x => (k + x.1, x.2)

def below (n : Nat) (l : List (Nat × LK)) : Bool := l.all fun x => Nat.blt x.1 n

/-- the places of a type's integers, bools and strings, in the order in which '==' looks at them; none: it has other parts, or a field named '_' -/
def leaves (P : Program) : Nat → TypeId → Option (List (Nat × LK))
  | 0, _ => none
  | d + 1, t => match P.underlying t with
    | some .bool => some [(0, .bool)]
    | some (.int _) => some [(0, .int)]
    | some .string => some [(0, .str)]
    | some (.struct fs) => if P.stoodInHeld t then none else concatSome (fs.toList.map fun f => if f.name = "_" then none else
        match leaves P d f.type, sizeT P f.type with
        | some l, some n => if below n l && Nat.ble (f.offset + n) (P.cellsOf t) then some (shifted f.offset l) else none
        | _, _ => none)
    | some (.array k e) => match leaves P d e, sizeT P e with
      | some l, some n => if below n l && Nat.ble (k * n) (P.cellsOf t) then some ((List.range k).flatMap fun i => shifted (i * n) l) else none
      | _, _ => none
    | _ => none

def sameLeaves : List (Nat × LK) → List (Nat × LK) → Bool
  | [], [] => true
  | a :: x, b :: y => Nat.beq a.1 b.1 && Nat.beq a.2.no b.2.no && sameLeaves x y
  | _, _ => false

def isAggT (P : Program) (t : TypeId) : Bool :=
  match aggT P t with
  | some (some _) => true
  | _ => false

def heldTypes (P : Program) : List Held :=
  (List.range P.types.size).filterMap fun t => match leaves P 6 t with
    | some l => if l.length ≤ 1 && ((P.info? t).map (·.comparable)).getD false then some ⟨t, isAggT P t, l⟩ else none
    | none => none

def heldOk (P : Program) (pl : List Held) : Bool :=
  pl.all fun x => (match leaves P 6 x.t with | some l => sameLeaves l x.offs | none => false) && ((P.info? x.t).map (·.comparable)).getD false && beq (isAggT P x.t) x.agg

def keyT (P : Program) (t : TypeId) : Option LK :=
  match P.underlying t with
  | some .bool => some .bool
  | some (.int _) => some .int
  | some .string => some .str
  | _ => none

def isNilConst : Operand → Bool
  | .const .nilIface => true
  | _ => false

def partsOf (place : Nat → Option (Nat × Nat)) : List (Nat × Operand) → Option (List (Nat × Nat × Opd))
  | [] => some []
  | (i, x) :: r => match place i, partsOf place r with
    | some (off, size), some ps => some ((off, size, opd x) :: ps)
    | _, _ => none

def compEq (P : Program) (pl : List Held) (neg : Bool) (t : TypeId) (x y : Operand) : Option POp :=
  match P.underlying t with
  | some .bool => some (.eqs neg .bool (opd x) (opd y))
  | some (.pointer e) => (sizeT P e).bind fun _ => some (.eqs neg .ptr (opd x) (opd y))
  | some (.slice _) => some (.eqs neg .slice (opd x) (opd y))
  | some (.map _ _) => some (.eqs neg .map (opd x) (opd y))
  | some (.func _ _ _) => some (.eqs neg .func (opd x) (opd y))
  | some (.struct _) | some (.array _ _) => match leaves P 6 t with
    | some l => if P.eqGuardType P.depth t then none else some (.eqs neg (.plain l) (opd x) (opd y))
    | none => none
  | some (.interface ms) => if heldOk P pl then some (.eqs neg (.iface (ms.isEmpty || isNilConst x || isNilConst y) pl) (opd x) (opd y)) else none
  | _ => none

def compBin (P : Program) (pl : List Held) (op : BinOp) (t : TypeId) (x y : Operand) : Option POp :=
  match P.underlying t, op with
  | some (.int _), _ => some (.bin op (opd x) (opd y))
  | some .string, _ => some (.bin op (opd x) (opd y))
  | some _, .eql => compEq P pl false t x y
  | some _, .neq => compEq P pl true t x y
  | _, _ => none

/-- is it a type whose slices' contents need not be known? -/
def u8T (P : Program) (e : TypeId) (size : Nat) : Option Nat :=
  match P.underlying e, P.info? e with
  | some (.int .u8), some i => (match i.zero with | some (.int .u8 (.ofNat 0)) => if Nat.beq size 1 then some e else none | _ => none)
  | _, _ => none

def compApp (P : Program) (e : TypeId) (bytes : Bool) (x y : Operand) : Option IOp :=
  match P.info? e with
  | some i => if i.bytes ≤ 1048576 && (i.zero.map fun v => Nat.beq v.cells.size i.size).getD false then some (.m (.append i.size (u8T P e i.size) bytes (opd x) (opd y))) else none
  | none => none

def fieldsOf (P : Program) (t : TypeId) : List Field :=
  match P.underlying t with
  | some (.struct fs) => fs.toList
  | _ => []

/-- a struct that begins with a pointer to itself (strings.Builder) -/
def ownPtr (P : Program) (t : TypeId) : Bool :=
  match fieldsOf P t with
  | f :: _ => (match P.underlying f.type with | some (.pointer u) => Nat.beq u t | _ => false)
  | [] => false

/-- or one that begins with such a struct -/
def needsT (P : Program) (t : TypeId) : Bool :=
  ownPtr P t || (match fieldsOf P t with | f :: _ => ownPtr P f.type | [] => false)

def tyOf (P : Program) (t : TypeId) : Option Nat := if needsT P t then some t else none

def uTypes (P : Program) (p : TypeId → Nat → Bool) : List (Nat × Nat) :=
  (List.range P.types.size).filterMap fun e => if needsT P e then (match P.info? e with | some i => if Nat.ble 1 i.size && p e i.size then some (e, i.size) else none | none => none) else none

def compConv (P : Program) (s d : TypeId) (x : Operand) : Option IOp :=
  match P.underlying s, P.underlying d with
  | some (.int _), some (.int k) => some (.p (.conv k (opd x)))
  | some .string, some .string => some (.p (.same (opd x)))
  | some (.pointer t), some .unsafePointer => (match sizeT P t with | some (_ + 1) => some (.r (.uptr (uTypes P fun _ _ => true) (opd x))) | _ => none)
  | some .unsafePointer, some (.pointer u) => (sizeT P u).map fun _ => .r (.uptr (uTypes P fun e n => liesAt P P.depth e (n / P.cellsOf e) 0 u 1) (opd x))
  | _, _ => none

def compAssert (P : Program) (t : TypeId) (ok : Bool) (x : Operand) : Option IOp :=
  match P.underlying t, P.info? t with
  | some (.interface _), _ => none
  | some _, some i => if ok then i.zero.map fun z => .p (.assert t (some (absV z)) (opd x)) else some (.p (.assert t none (opd x)))
  | _, _ => none

def compCall (P : Program) (c : Call) : Option IOp :=
  match c.callee with
  | .value (.func f) => match P.funcs[f]? with
    | some fn => if fn.body.isSome then some (.m (.call (opd (.func f)) (opds c.args.toList)))
      else if fn.name == "maps.clone" && fn.origin == "" then (match c.args.toList with | [x] => some (.m (.clone (opd x))) | _ => none)
      else if fn.name == "internal/abi.NoEscape" && fn.origin == "" then (match c.args.toList with | [x] => some (.m (.noesc (opd x))) | _ => none)
      else none
    | none => none
  | .value f => some (.m (.call (opd f) (opds c.args.toList)))
  | .invoke _ _ => none
  | .builtin b => match b, c.args.toList, c.argTypes.toList with
    | .len, [x], [t] => match P.underlying t with
      | some .string => some (.p (.lenS (opd x)))
      | some (.slice _) => some (.p (.lenL (opd x)))
      | some (.array n _) => some (.p (.mv (.con (lit .i64 (.ofNat n)))))
      | some (.map _ _) => some (.r (.lenM (opd x)))
      | _ => none
    | .append, [x, y], [t, u] => match P.underlying t, P.underlying u with
      | some (.slice e), some (.slice _) => compApp P e false x y
      | some (.slice e), some .string => compApp P e true x y
      | _, _ => none
    | .copy, [x, y], [t, u] => match P.underlying t, P.underlying u with
      | some (.slice e), some (.slice _) => (sizeT P e).map fun n => .m (.copy n false (opd x) (opd y))
      | some (.slice e), some .string => (sizeT P e).map fun n => .m (.copy n true (opd x) (opd y))
      | _, _ => none
    | .max, xs, _ => some (.p (.big true (opds xs)))
    | .min, xs, _ => some (.p (.big false (opds xs)))
    | .recover, [], _ => some (.m .recover)
    | .unsafeSliceData, [x], _ => some (.p (.sdata (opd x)))
    | .unsafeString, [p, n], [pt, _] => match P.underlying pt with
      | some (.pointer e) => if Nat.beq (P.cellsOf e) 1 then some (.m (.ustr e (opd p) (opd n))) else none
      | _ => none
    | _, _, _ => none

def compOp (P : Program) (pl : List Held) (o : Oper) : Option IOp :=
  match o.op with
  | .move x | .assign x => some (.p (.mv (opd x)))
  | .pick c a b => some (.p (.pick (opd c) (opd a) (opd b)))
  | .alloc t => (zeroT P t).map fun z => .a (.zero (tyOf P t) z)
  | .box t x => some (.a (.box (tyOf P t) (opd x)))
  | .build t parts => match P.underlying t, zeroT P t with
    | some (.struct fs), some z => if fs.all fun f => (P.info? f.type).isSome then (partsOf (fun i => (fs[i]?).bind fun f => (sizeT P f.type).map fun n => (f.offset, n)) parts.toList).map fun ps => .p (.build z ps) else none
    | some (.array _ e), some z => (sizeT P e).bind fun n => (partsOf (fun i => some (i * n, n)) parts.toList).map fun ps => .p (.build z ps)
    | _, _ => none
  | .buildSlice t len parts => match P.underlying t with
    | some (.slice e) => match sizeT P e, zeroT P e with
      | some n, some z => if len * n ≤ 65536 && z.length == n then (partsOf (fun i => some (i * n, n)) parts.toList).map fun ps => .a (.bslice len (List.replicate len z).flatten ps) else none
      | _, _ => none
    | _ => none
  | .insert t m k v | .mapUpdate t m k v => match P.underlying t with
    | some (.map kt _) => (keyT P kt).map fun kk => .m (.mapUp kk (opd m) (opd k) (opd v))
    | _ => none
  | .load t x => (aggT P t).map fun n => .r (.load n (opd x))
  | .store t a x => (sizeT P t).map fun n => .m (.store n (opd a) (opd x))
  | .nilCheck x => some (.p (.nilc (opd x)))
  | .binOp op t x y _ => (compBin P pl op t x y).map .p
  | .unOp op _ x => some (.p (.un op (opd x)))
  | .convert s d x => compConv P s d x
  | .typeAssert x _ t ok => compAssert P t ok x
  | .makeInterface t x => match P.underlying t with
    | some (.interface _) => none
    | some _ => some (.p (.iface t (opd x)))
    | none => none
  | .makeFunc (.func f) a c => some (.p (.func f (opds a.toList) (opds c.toList)))
  | .makeMap t r => match P.underlying t, r with
    | some (.map _ _), none | some (.map _ _), some (.const (.int _ _)) => some (.a .mkMap)
    | _, _ => none
  | .makeSlice t l c => match P.underlying t with
    | some (.slice e) => match P.info? e, zeroT P e with
      | some i, some z => if i.bytes ≤ 1048576 && z.length == i.size then some (.a (.mkSlice z (opd l) (opd c))) else none
      | _, _ => none
    | _ => none
  | .slice t x lo hi mx => match P.underlying t, mx with
    | some .string, none => some (.p (.subs (opd x) (lo.map opd) (hi.map opd)))
    | some (.slice e), none => (sizeT P e).map fun n => .p (.reslice n (opd x) (lo.map opd) (hi.map opd) none)
    | some (.slice e), some m => if hi.isSome then (sizeT P e).map fun n => .p (.reslice n (opd x) (lo.map opd) (hi.map opd) (some (opd m))) else none
    | _, _ => none
  | .fieldAddr t x f => match P.underlying t with
    | some (.struct fs) => (fs[f]?).bind fun g => match sizeT P g.type with
      | some (_ + 1) => some (.p (.fieldA g.offset (opd x)))
      | _ => none
    | _ => none
  | .field t x f => match P.underlying t with
    | some (.struct fs) => (fs[f]?).bind fun g => (aggT P g.type).map fun n => .p (.field g.offset n (opd x))
    | _ => none
  | .indexAddr t x i => match P.underlying t with
    | some (.slice e) => (sizeT P e).map fun n => .p (.idxA n (opd x) (opd i))
    | some (.array len e) => (sizeT P e).map fun n => .p (.idxArr len n (opd x) (opd i))
    | _ => none
  | .index t x i => match P.underlying t with
    | some (.array len e) => match sizeT P e, aggT P e with
      | some n, some a => some (.p (.idx len n a (opd x) (opd i)))
      | _, _ => none
    | some .string => some (.p (.idxS (opd x) (opd i)))
    | _ => none
  | .lookup t x k ok => match P.underlying t with
    | some (.map kt e) => match P.info? e, keyT P kt with
      | some i, some kk => i.zero.map fun z => .r (.lookup kk (absV z) ok (opd x) (opd k))
      | _, _ => none
    | _ => none
  | .extract x i => some (.p (.ext (opd x) i))
  | .panic x => some (.m (.panic (opd x)))
  | .call c => compCall P c
  | .defer { callee := .value f, args, .. } => some (.m (.defer (opd f) (opds args.toList)))
  | _ => none

/-! ### Regions -/

def guardOf (ops : Array Oper) : Option (Nat × Bool) → Option (Option (Nat × Bool))
  | none => some none
  | some (j, want) => match (ops[j]?).bind (·.dst) with
    | some d => some (some (d, want))
    | none => none

/-- `nt`: how many temporaries there are -/
def stepOf (P : Program) (pl : List Held) (nt : Nat) (ops : Array Oper) (o : Oper) (back : Nat) : Option Step :=
  match compOp P pl o, guardOf ops o.guard with
  | some op, some g => if (o.dst.all fun d => Nat.blt d nt) && (g.all fun x => Nat.blt x.1 nt) then some ⟨o.dst, g, op, back⟩ else none
  | _, _ => none

def allSome {α : Type} : List (Option α) → Option (List α)
  | [] => some []
  | some a :: r => (allSome r).map (a :: ·)
  | none :: _ => none

/-- the indices in the order in which they are run: before each mutator what it waits for -/
def orderOf (before : Array Nat) (n : Nat) : List Nat → List Nat → List Nat
  | [], done => done ++ (List.range n).filter fun i => !done.contains i
  | m :: ms, done => orderOf before n ms (done ++ (List.range n).filter fun i => !done.contains i && (i == m || (before.getD m 0).testBit i))

def Opd.names : Opd → List Nat
  | .tmp t => [t]
  | .con _ => []

def POp.opds : POp → List Opd
  | .mv x | .nilc x | .un _ x | .conv _ x | .same x | .iface _ x | .fieldA _ x | .field _ _ x | .ext x _ | .lenS x | .lenL x | .assert _ _ x | .sdata x => [x]
  | .pick c a b => [c, a, b]
  | .build _ ps => ps.map (·.2.2)
  | .bin _ x y | .eqs _ _ x y | .idxA _ x y | .idxArr _ _ x y | .idx _ _ _ x y | .idxS x y => [x, y]
  | .func _ a c => a ++ c
  | .subs x lo hi => x :: (lo.toList ++ hi.toList)
  | .reslice _ x lo hi mx => x :: (lo.toList ++ (hi.toList ++ mx.toList))
  | .big _ xs => xs

def ROp.opds : ROp → List Opd
  | .load _ x | .lenM x | .uptr _ x => [x]
  | .lookup _ _ _ x k => [x, k]

def AOp.opds : AOp → List Opd
  | .box _ x => [x]
  | .zero _ _ | .mkMap => []
  | .bslice _ _ ps => ps.map (·.2.2)
  | .mkSlice _ l c => [l, c]

def MOp.opds : MOp → List Opd
  | .store _ a x | .append _ _ _ a x | .copy _ _ a x | .ustr _ a x => [a, x]
  | .call f args | .defer f args => f :: args
  | .mapUp _ m k v => [m, k, v]
  | .clone x | .panic x | .noesc x => [x]
  | .recover => []

def IOp.opds : IOp → List Opd
  | .p o => o.opds
  | .r o => o.opds
  | .a o => o.opds
  | .m o => o.opds

def Step.names (s : Step) : List Nat :=
  match s.guard with
  | some g => g.1 :: s.op.opds.flatMap Opd.names
  | none => s.op.opds.flatMap Opd.names

/-- is there no reason for `y`, which comes behind `x`, to wait for it, or does it wait? -/
def apartD (W : Nat → Nat → Bool) (x y : Nat × Step) : Bool :=
  !(Nat.beq x.1 y.1) && (!isMut y.2.op || W x.1 y.1) &&
  (match x.2.dst with
   | some d => (match y.2.dst with | some e => !(Nat.beq e d) | none => true) && (!(y.2.names.any (Nat.beq d)) || W x.1 y.1)
   | none => true) &&
  (match y.2.dst with
   | some d => !(x.2.names.any (Nat.beq d)) || W x.1 y.1
   | none => true)

/-- what is behind the change `x` and does not wait for it says so -/
def backD (W : Nat → Nat → Bool) (x : Nat) : List (Nat × Step) → Nat → Bool
  | [], _ => true
  | y :: r, k => if isMut y.2.op then backD W x r (k + 1) else (Nat.blt k y.2.back || W x y.1) && backD W x r k

def selfD (s : Step) : Bool :=
  match s.dst with
  | some d => !(s.names.any (Nat.beq d))
  | none => true

def okD (W : Nat → Nat → Bool) : List (Nat × Step) → Bool
  | [] => true
  | x :: r => selfD x.2 && (r.all (apartD W x) && ((!isMut x.2.op || backD W x.1 r 0) && okD W r))

/-- those for which an operation waits -/
def edgesOf (ops : Array Oper) (i : Nat) : List Nat :=
  match ops[i]? with
  | some o => (o.after.toList.filter (Region.binds .any)).map (·.on)
  | none => []

/-- none waits for itself or for one behind it -/
def linD (ops : Array Oper) : List Nat → Bool
  | [] => true
  | i :: r => (edgesOf ops i).all (fun e => Nat.blt e i && !(r.any (Nat.beq e))) && linD ops r

def waits (before : List Nat) (i j : Nat) : Bool := (before.getD j 0).testBit i

/-- the table of who waits for whom says no more than the edges do -/
def validD (ops : Array Oper) (before : List Nat) : Bool :=
  (List.range ops.size).all fun j => (List.range ops.size).all fun i => !(waits before i j) ||
    (edgesOf ops j).any fun e => Nat.blt e j && (Nat.beq e i || waits before i e)

def backOf (before : Array Nat) (muts order : List Nat) (i : Nat) : Nat :=
  let seen := (order.takeWhile (· != i)).filter muts.contains
  (seen.filter fun m => !(before.getD i 0).testBit m).length

def drawOk (ops : Array Oper) (before order : List Nat) (steps : List Step) : Bool :=
  Nat.beq order.length steps.length && Nat.beq order.length ops.size && ((List.range ops.size).all (fun i => order.any (Nat.beq i)) && (order.all (fun i => Nat.blt i ops.size) && (linD ops order && (validD ops before && okD (waits before) (order.zip steps)))))

def compDraw (P : Program) (pl : List Held) (nt : Nat) (ops : Array Oper) : Option (List Step) :=
  let before := Region.before ops
  match allSome (ops.toList.map (compOp P pl)) with
  | none => none
  | some iops =>
    let muts := (List.range ops.size).filter fun i => (iops[i]?.map isMut).getD false
    let order := orderOf before ops.size muts []
    match allSome (order.map fun i => (ops[i]?).bind fun o => stepOf P pl nt ops o (backOf before muts order i)) with
    | some steps => if drawOk ops before.toList order steps then some steps else none
    | none => none

def compRegion (P : Program) (pl : List Held) (nt : Nat) (ops : Array Oper) (draw : Bool) : Option (List Step) :=
  if draw then compDraw P pl nt ops else allSome (ops.toList.map fun o => stepOf P pl nt ops o 0)

def compCode (P : Program) (pl : List Held) (nt : Nat) : Code → Option IC
  | .skip => some .skip
  | .region _ ops draw => (compRegion P pl nt ops draw).map (.region draw)
  | .seq a b => match compCode P pl nt a, compCode P pl nt b with
    | some a, some b => some (.seq a b)
    | _, _ => none
  | .cond c a b => match compCode P pl nt a, compCode P pl nt b with
    | some a, some b => some (.cond (opd c) a b)
    | _, _ => none
  | .block id b => (compCode P pl nt b).map (.block id)
  | .loop b => (compCode P pl nt b).map .loop
  | .exit id => some (.exit id)
  | .ret => some .ret
  | .refuse _ => some (.cond (.con .any) .skip .skip)
  | _ => none

def compRes (P : Program) : ResultVar → Option IRes
  | .tmp t => some (.tmp t)
  | .cell a t => (aggT P t).map (.cell a)

def depthOf (n : Nat) : Nat := Nat.log2 (n + 1) + 1

def compFun (P : Program) (pl : List Held) (fn : Func) : Option IFun :=
  match fn.body with
  | none => none
  | some c => match compCode P pl fn.ntmps c, allSome (fn.results.toList.map (compRes P)) with
    | some body, some results => some { depth := depthOf fn.ntmps, results, body }
    | _, _ => none

end Go.AM
