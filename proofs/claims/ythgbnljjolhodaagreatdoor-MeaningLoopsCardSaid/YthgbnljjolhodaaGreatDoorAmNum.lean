/- The abstract machine's numbers: what its own arithmetic computes is what the model's computes; symbolic terms and what they stand for. -/
import Derived.Test.YthgbnljjolhodaaGreatDoorAmComp
set_option linter.all false
namespace Go.AM

/-! ### Data -/

/-- data: what a cell holds, in memory that nothing changes; a list has elements of `es` cells -/
inductive PV where
  | bool (b : Bool)
  | int (k : IntKind) (n : Int)
  | str (s : List Nat)
  | list (es : Nat) (l : List (List PV))
  | nilp

/-- what is given from outside: the values of the open numbers, strings, lists and maps; blocks of memory that nothing changes -/
structure Env where
  val : Nat → Int
  tabs : Nat → Option Obj := fun _ => none
  str : Nat → List Nat := fun _ => []
  lst : Nat → List (List PV) := fun _ => []
  map : Nat → List (List Nat × List PV) := fun _ => []

instance : Coe Env (Nat → Int) := ⟨Env.val⟩

theorem ile_eq (a b : Int) : ile a b = decide (a ≤ b) := by
  rw [Bool.eq_iff_iff]
  cases a <;> cases b <;> simp [ile] <;> omega

theorem ieq_eq (a b : Int) : ieq a b = (a == b) := by
  rw [Bool.eq_iff_iff]
  cases a <;> cases b <;> simp [ieq] <;> omega

theorem ieq_iff {a b : Int} : ieq a b = true ↔ a = b := by rw [ieq_eq]; simp

theorem ilt_eq (a b : Int) : ilt a b = decide (a < b) := by
  unfold ilt; rw [ile_eq, Bool.eq_iff_iff]; simp

theorem keq_iff {a b : IntKind} : keq a b = true ↔ a = b := by
  cases a <;> cases b <;> simp [keq, kindNo]

theorem opeq_iff {a b : BinOp} : opeq a b = true ↔ a = b := by
  cases a <;> cases b <;> simp [opeq, opNo]

theorem beq_eq (a b : Bool) : beq a b = (a == b) := by cases a <;> cases b <;> rfl

theorem nmod_eq (n : Int) (m : Nat) (hm : 0 < m) : (nmod n m : Int) = n % (m : Int) := by
  cases n with
  | ofNat a => simp [nmod]
  | negSucc a =>
    have h := Nat.mod_lt a hm
    simp only [nmod]
    rw [Int.negSucc_emod a (by omega : (0 : Int) < (m : Int))]
    omega

theorem nmod_lt (n : Int) (m : Nat) (hm : 0 < m) : nmod n m < m := by
  cases n with
  | ofNat a => exact Nat.mod_lt _ hm
  | negSucc a => simp only [nmod]; have h := Nat.mod_lt a hm; omega

theorem modulus_pos (k : IntKind) : 0 < modulus k := by cases k <;> decide

theorem modulus_eq (k : IntKind) : (2 : Int) ^ k.bits = (modulus k : Int) := by cases k <;> rfl

theorem modulus_half (k : IntKind) : (2 : Int) ^ (k.bits - 1) * 2 = (modulus k : Int) := by cases k <;> rfl

theorem signedK_eq (k : IntKind) : signedK k = k.signed := by cases k <;> rfl

theorem wrap_of_nmod (k : IntKind) (n : Int) (m : Nat) (h : n % (2 ^ k.bits : Int) = (m : Int)) (hm : m < modulus k) : k.wrap n = back k m := by
  have h2 := modulus_half k
  unfold IntKind.wrap back
  simp only [h]
  rw [modulus_eq, signedK_eq]
  cases hs : k.signed with
  | false => simp
  | true =>
    simp only [Bool.true_and]
    by_cases hc : modulus k ≤ m + m
    · have e1 : Nat.ble (modulus k) (m + m) = true := by simpa using hc
      have e2 : decide ((m : Int) ≥ 2 ^ (k.bits - 1)) = true := by simp; omega
      rw [if_pos (by simpa using e2), e1]
      simp only [cond_true]
      omega
    · have e1 : Nat.ble (modulus k) (m + m) = false := by
        cases h' : Nat.ble (modulus k) (m + m) with
        | false => rfl
        | true => exact absurd (Nat.le_of_ble_eq_true h') hc
      have e2 : ¬ ((m : Int) ≥ 2 ^ (k.bits - 1)) := by omega
      rw [if_neg (by simpa using e2), e1]
      rfl

theorem wrapF_eq (k : IntKind) (n : Int) : wrapF k n = k.wrap n := by
  unfold wrapF
  exact (wrap_of_nmod k n _ (by rw [modulus_eq, nmod_eq _ _ (modulus_pos k)]) (nmod_lt _ _ (modulus_pos k))).symm

theorem nmod_bv (k : IntKind) (x : Int) : nmod x (modulus k) = (BitVec.ofInt k.bits x).toNat := by
  rw [BitVec.toNat_ofInt]
  have h := nmod_eq x (modulus k) (modulus_pos k)
  have e : ((2 ^ k.bits : Nat) : Int) = (modulus k : Int) := by cases k <;> rfl
  rw [e, ← h]
  exact (Int.toNat_natCast _).symm

theorem two_pow_bits (k : IntKind) : 2 ^ k.bits = modulus k := by cases k <;> rfl

theorem bitsF_eq (op : BinOp) (k : IntKind) (x y : Int) (h : op = .and ∨ op = .or ∨ op = .xor ∨ op = .andNot) : bitsF op k x y = bits op k x y := by
  unfold bitsF bits
  rw [nmod_bv, nmod_bv]
  generalize BitVec.ofInt k.bits x = a
  generalize BitVec.ofInt k.bits y = b
  have hb : ∀ r : BitVec k.bits, back k r.toNat = k.wrap (r.toNat : Int) := fun r => by
    have hlt : r.toNat < modulus k := by rw [← two_pow_bits]; exact r.isLt
    exact (wrap_of_nmod k _ _ (by rw [modulus_eq]; exact Int.emod_eq_of_lt (by omega) (by omega)) hlt).symm
  rcases h with rfl | rfl | rfl | rfl <;> simp only [natBits] <;> rw [← hb]
  · rw [BitVec.toNat_and]; rfl
  · rw [BitVec.toNat_or]; rfl
  · rw [BitVec.toNat_xor]; rfl
  · rw [BitVec.toNat_and, BitVec.toNat_not, two_pow_bits]; rfl

/-! ### What terms stand for -/

def arithV (op : BinOp) (k : IntKind) (x y : Int) : Int :=
  match op with
  | .add => k.wrap (x + y)
  | .sub => k.wrap (x - y)
  | .mul => k.wrap (x * y)
  | .quo => k.wrap (x.tdiv y)
  | .rem => x.tmod y
  | op => bits op k x y

def cmpV (op : BinOp) (x y : Int) : Bool :=
  match op with
  | .eql => x == y
  | .neq => x != y
  | .lss => decide (x < y)
  | .leq => decide (x ≤ y)
  | .gtr => decide (x > y)
  | _ => decide (x ≥ y)

def ST.den (ρ : Nat → Int) : ST → Int
  | .lit n => n
  | .var i => ρ i
  | .bin op k a b => arithV op k (a.den ρ) (b.den ρ)
  | .conv k a => k.wrap (a.den ρ)

def SB.den (ρ : Nat → Int) : SB → Bool
  | .lit b => b
  | .cmp op a b => cmpV op (a.den ρ) (b.den ρ)
  | .no a => !(a.den ρ)

theorem ST.eq_sound : ∀ {a b : ST}, a.eq b = true → a = b
  | .lit a, .lit b, h => by simp only [ST.eq] at h; rw [ieq_iff.1 h]
  | .var i, .var j, h => by simp only [ST.eq] at h; rw [Nat.eq_of_beq_eq_true h]
  | .bin o k a b, .bin o' k' a' b', h => by
    simp only [ST.eq, Bool.and_eq_true] at h
    obtain ⟨⟨⟨h1, h2⟩, h3⟩, h4⟩ := h
    rw [opeq_iff.1 h1, keq_iff.1 h2, ST.eq_sound h3, ST.eq_sound h4]
  | .conv k a, .conv k' a', h => by
    simp only [ST.eq, Bool.and_eq_true] at h
    rw [keq_iff.1 h.1, ST.eq_sound h.2]
  | .lit _, .var _, h | .lit _, .bin .., h | .lit _, .conv .., h | .var _, .lit _, h | .var _, .bin .., h | .var _, .conv .., h
  | .bin .., .lit _, h | .bin .., .var _, h | .bin .., .conv .., h | .conv .., .lit _, h | .conv .., .var _, h | .conv .., .bin .., h => by simp [ST.eq] at h

theorem SB.eq_sound : ∀ {a b : SB}, a.eq b = true → a = b
  | .lit a, .lit b, h => by simp only [SB.eq, beq_eq] at h; simp at h; rw [h]
  | .cmp o a b, .cmp o' a' b', h => by
    simp only [SB.eq, Bool.and_eq_true] at h
    rw [opeq_iff.1 h.1.1, ST.eq_sound h.1.2, ST.eq_sound h.2]
  | .no a, .no b, h => by simp only [SB.eq] at h; rw [SB.eq_sound h]
  | .lit _, .cmp .., h | .lit _, .no _, h | .cmp .., .lit _, h | .cmp .., .no _, h | .no _, .lit _, h | .no _, .cmp .., h => by simp [SB.eq] at h

/-- the string that a value is -/
def strV (ρ : Env) : AVal → Option (List Nat)
  | .str s => some s
  | .svar i => some (ρ.str i)
  | _ => none

/-- the data that a value is -/
def ADen (ρ : Env) : AVal → PV → Prop
  | .bool b, p => p = .bool (b.den ρ)
  | .int k n, p => p = .int k (n.den ρ)
  | .str s, p => p = .str s
  | .svar i, p => p = .str (ρ.str i)
  | .lst f i es n, p => f = false ∧ p = .list es (ρ.lst i) ∧ n.den ρ = ((ρ.lst i).length : Int)
  | .nilPtr, p => p = .nilp
  | _, _ => False

def ADens (ρ : Env) : List AVal → List PV → Prop
  | [], ps => ps = []
  | a :: as, ps => ∃ p rest, ps = p :: rest ∧ ADen ρ a p ∧ ADens ρ as rest

/-- the data that a value may be said to be -/
def FDen (ρ : Env) (a : AVal) (p : PV) : Prop :=
  match a with
  | .nilSlice => ∃ es, p = .list es []
  | a => ADen ρ a p

def FDens (ρ : Env) : List AVal → List PV → Prop
  | [], ps => ps = []
  | a :: as, ps => ∃ p rest, ps = p :: rest ∧ FDen ρ a p ∧ FDens ρ as rest

def FDenss (ρ : Env) : List (List AVal) → List (List PV) → Prop
  | [], ps => ps = []
  | a :: as, ps => ∃ p rest, ps = p :: rest ∧ FDens ρ a p ∧ FDenss ρ as rest

def PartDen (ρ : Env) : LPart → List (List PV) → Prop
  | .els es, l => FDenss ρ es l
  | .all i, l => l = ρ.lst i
  | .take i n, l => 0 ≤ n.den ρ ∧ n.den ρ ≤ ((ρ.lst i).length : Int) ∧ l = (ρ.lst i).take (n.den ρ).toNat
  | .drop i n, l => 0 ≤ n.den ρ ∧ n.den ρ ≤ ((ρ.lst i).length : Int) ∧ l = (ρ.lst i).drop (n.den ρ).toNat

def PartsDen (ρ : Env) : List LPart → List (List PV) → Prop
  | [], l => l = []
  | p :: ps, l => ∃ a b, l = a ++ b ∧ PartDen ρ p a ∧ PartsDen ρ ps b

def MDen (ρ : Env) : List (AVal × List AVal) → List (List Nat × List PV) → Prop
  | [], l => l = []
  | x :: r, l => ∃ s ps rest, l = (s, ps) :: rest ∧ strV ρ x.1 = some s ∧ FDens ρ x.2 ps ∧ MDen ρ r rest

def mapGet : List (List Nat × List PV) → List Nat → Option (List PV)
  | [], _ => none
  | e :: r, k => if e.1 = k then some e.2 else mapGet r k

def mapSet : List (List Nat × List PV) → List Nat → List PV → List (List Nat × List PV)
  | [], k, v => [(k, v)]
  | e :: r, k, v => if e.1 = k then (k, v) :: r else e :: mapSet r k v

/-- the facts hold where the variables have these values -/
structure Facts.Hold (Γ : Facts) (ρ : Env) : Prop where
  nums : ∀ x ∈ Γ.nums, x.1.den ρ = x.2
  tests : ∀ x ∈ Γ.tests, cmpV x.1 (x.2.1.den ρ) (x.2.2.1.den ρ) = x.2.2.2
  strs : ∀ x ∈ Γ.strs, ∃ s t, strV ρ x.1 = some s ∧ strV ρ x.2.1 = some t ∧ x.2.2 = decide (s = t) := by intro _ h; cases h
  cats : ∀ x ∈ Γ.cats, ∃ s t, strV ρ x.1 = some s ∧ strV ρ x.2.1 = some t ∧ strV ρ x.2.2 = some (s ++ t) ∧ s.length + t.length ≤ 1048576 := by intro _ h; cases h
  slen : ∀ x ∈ Γ.slen, x.2.1.den ρ = ((ρ.str x.1).length : Int) ∧ x.2.2.1 ≤ (ρ.str x.1).length ∧ (ρ.str x.1).length ≤ x.2.2.2 := by intro _ h; cases h
  llen : ∀ x ∈ Γ.llen, x.2.den ρ = ((ρ.lst x.1).length : Int) := by intro _ h; cases h
  elems : ∀ x ∈ Γ.elems, ∃ ps, 0 ≤ x.2.1.den ρ ∧ (ρ.lst x.1)[(x.2.1.den ρ).toNat]? = some ps ∧ ADens ρ x.2.2 ps := by intro _ h; cases h
  defs : ∀ x ∈ Γ.defs, PartsDen ρ x.2 (ρ.lst x.1) := by intro _ h; cases h
  looks : ∀ x ∈ Γ.looks, ∃ s, strV ρ x.2.1 = some s ∧ (match x.2.2 with
    | some cs => ∃ ps, mapGet (ρ.map x.1) s = some ps ∧ ADens ρ cs ps
    | none => mapGet (ρ.map x.1) s = none) := by intro _ h; cases h
  ups : ∀ x ∈ Γ.ups, ∃ s ps, strV ρ x.2.1 = some s ∧ FDens ρ x.2.2.1 ps ∧ ρ.map x.2.2.2 = mapSet (ρ.map x.1) s ps := by intro _ h; cases h
  bumps : ∀ x ∈ Γ.bumps, x.1.den ρ + x.2.1 ≤ x.2.2.den ρ ∧ x.2.2.den ρ ≤ 1048576 := by intro _ h; cases h
  mdefs : ∀ x ∈ Γ.mdefs, MDen ρ x.2 (ρ.map x.1) := by intro _ h; cases h

theorem Facts.Hold.none (ρ : Env) : ({} : Facts).Hold ρ where
  nums := fun _ h => (by cases h)
  tests := fun _ h => (by cases h)

theorem lookNum_mem : ∀ {l : List (ST × Int)} {t : ST} {n : Int}, lookNum l t = some n → (t, n) ∈ l
  | [], _, _, h => by simp [lookNum] at h
  | (s, m) :: r, t, n, h => by
    simp only [lookNum] at h
    cases e : s.eq t with
    | true =>
      rw [e] at h
      simp only [cond_true, Option.some.injEq] at h
      rw [ST.eq_sound e, h]
      exact List.mem_cons_self
    | false => rw [e] at h; exact List.mem_cons_of_mem _ (lookNum_mem h)

theorem lookTest_mem : ∀ {l : List (BinOp × ST × ST × Bool)} {op : BinOp} {a b : ST} {v : Bool}, lookTest l op a b = some v → (op, a, b, v) ∈ l
  | [], _, _, _, _, h => by simp [lookTest] at h
  | (o, s, t, u) :: r, op, a, b, v, h => by
    simp only [lookTest] at h
    cases e : opeq o op && s.eq a && t.eq b with
    | true =>
      rw [e] at h
      simp only [cond_true, Option.some.injEq] at h
      simp only [Bool.and_eq_true] at e
      rw [opeq_iff.1 e.1.1, ST.eq_sound e.1.2, ST.eq_sound e.2, h]
      exact List.mem_cons_self
    | false => rw [e] at h; exact List.mem_cons_of_mem _ (lookTest_mem h)

section
variable {Γ : Facts} {ρ : Env} (hΓ : Γ.Hold ρ)
include hΓ

theorem numOf_den (t : ST) : (numOf Γ t).den ρ = t.den ρ := by
  unfold numOf
  split
  · rename_i n h; exact (hΓ.nums _ (lookNum_mem h)).symm
  · rfl

omit hΓ in
theorem arithI_sound {op : BinOp} {k : IntKind} {a b n : Int} (h : arithI op k a b = some n) :
    n = arithV op k a b ∧ (op = .quo ∨ op = .rem → b ≠ 0) ∧ isCmp op = false ∧ isShift op = false := by
  cases op <;> simp only [arithI, Option.some.injEq, reduceCtorEq] at h
  case add | sub | mul => exact ⟨by rw [← h, wrapF_eq]; rfl, by simp, rfl, rfl⟩
  case quo | rem =>
    cases e : ieq b 0 with
    | true => rw [e] at h; simp at h
    | false =>
      rw [e] at h
      simp only [cond_false, Option.some.injEq] at h
      refine ⟨by rw [← h]; first | (rw [wrapF_eq]; rfl) | rfl, fun _ hb => ?_, rfl, rfl⟩
      rw [ieq_iff.2 hb] at e; cases e
  case and | or | xor | andNot => exact ⟨by rw [← h, bitsF_eq _ _ _ _ (by simp)]; rfl, by simp, rfl, rfl⟩

theorem arith_sound {op : BinOp} {k : IntKind} {a b t : ST} (h : arith Γ op k a b = some t) :
    t.den ρ = arithV op k (a.den ρ) (b.den ρ) ∧ (op = .quo ∨ op = .rem → b.den ρ ≠ 0) ∧ isCmp op = false ∧ isShift op = false := by
  have hS : ∀ {t}, arithS Γ op k a b = some t → t.den ρ = arithV op k (a.den ρ) (b.den ρ) ∧ (op = .quo ∨ op = .rem → b.den ρ ≠ 0) ∧ isCmp op = false ∧ isShift op = false := fun {t} h => by
    unfold arithS at h
    cases e : total op b || divOk Γ op b with
    | false => rw [e] at h; simp at h
    | true =>
      rw [e] at h
      simp only [cond_true, Option.some.injEq] at h
      rw [Bool.or_eq_true] at e
      refine ⟨by rw [← h, numOf_den hΓ]; rfl, fun ho => ?_, ?_, ?_⟩
      · rcases e with e | e
        · rcases ho with rfl | rfl <;> cases b <;> simp [total, ieq_eq] at e <;> simpa [ST.den] using e
        · have key : lookTest Γ.tests .eql b (.lit 0) = some false := by
            have aux : (match lookTest Γ.tests .eql b (.lit 0) with | some v => !v | none => false) = true := by rcases ho with rfl | rfl <;> exact e
            cases hv : lookTest Γ.tests .eql b (.lit 0) with
            | none => rw [hv] at aux; cases aux
            | some v =>
              rw [hv] at aux
              cases v with
              | false => rfl
              | true => cases aux
          have h1 : cmpV .eql (b.den ρ) ((ST.lit 0).den ρ) = false := hΓ.tests _ (lookTest_mem key)
          simpa [cmpV, ST.den] using h1
      · rcases e with e | e <;> cases op <;> first | rfl | (simp [total] at e) | (simp [divOk] at e)
      · rcases e with e | e <;> cases op <;> first | rfl | (simp [total] at e) | (simp [divOk] at e)
  unfold arith at h
  split at h
  · rename_i x y
    cases e : arithI op k x y with
    | none => rw [e] at h; simp [bnd] at h
    | some n =>
      rw [e] at h
      simp only [bnd, Option.some.injEq] at h
      rw [← h]
      exact arithI_sound e
  · exact hS h

omit hΓ in
theorem cmpI_sound {op : BinOp} {a b : Int} {v : Bool} (h : cmpI op a b = some v) : v = cmpV op a b ∧ isCmp op = true := by
  cases op <;> simp only [cmpI, Option.some.injEq, reduceCtorEq] at h <;> subst h <;> refine ⟨?_, rfl⟩ <;> simp [cmpV, ieq_eq, ile_eq, ilt_eq, bne] <;> rfl

theorem compare_sound {op : BinOp} {a b : ST} {s : SB} (h : compare Γ op a b = some s) : s.den ρ = cmpV op (a.den ρ) (b.den ρ) ∧ isCmp op = true := by
  have hS : ∀ {s}, compareS Γ op a b = some s → s.den ρ = cmpV op (a.den ρ) (b.den ρ) ∧ isCmp op = true := fun {s} h => by
    unfold compareS at h
    cases e : isCmp op with
    | false => rw [e] at h; simp at h
    | true =>
      rw [e] at h
      simp only [cond_true] at h
      split at h
      · rename_i v hv
        simp only [Option.some.injEq] at h
        subst h
        exact ⟨(hΓ.tests _ (lookTest_mem hv)).symm, rfl⟩
      · simp only [Option.some.injEq] at h
        subst h
        exact ⟨rfl, rfl⟩
  unfold compare at h
  split at h
  · rename_i x y
    cases e : cmpI op x y with
    | none => rw [e] at h; simp [bnd] at h
    | some v =>
      rw [e] at h
      simp only [bnd, Option.some.injEq] at h
      rw [← h]
      exact cmpI_sound e
  · exact hS h

theorem convert_sound (k : IntKind) (a : ST) : (convert Γ k a).den ρ = k.wrap (a.den ρ) := by
  unfold convert
  split
  · simp [ST.den, wrapF_eq]
  · rw [numOf_den hΓ]; rfl

end

/-! ### The model's operations -/

theorem shiftI_sound {op : BinOp} {k yk : IntKind} {x y n : Int} (h : shiftI op k x y = some n) : Op.shift op k x yk y = pure (.int k n) := by
  cases y with
  | negSucc y => simp [shiftI] at h
  | ofNat y =>
    simp only [shiftI] at h
    have hm : (bif Nat.ble y k.bits then y else k.bits) = min y k.bits := by
      cases e : Nat.ble y k.bits with
      | true => simp only [cond_true]; have := Nat.le_of_ble_eq_true e; omega
      | false => simp only [cond_false]; have : ¬ y ≤ k.bits := fun h => by rw [Nat.ble_eq_true_of_le h] at e; cases e
                 omega
    rw [hm] at h
    have hp : Int.ofNat (2 ^ min y k.bits) = (2 : Int) ^ min y k.bits := by simp
    unfold Op.shift
    rw [if_neg (by simp)]
    cases op <;> simp only [shiftN, Option.some.injEq, reduceCtorEq] at h
    · rw [← h, wrapF_eq, hp]; rfl
    · rw [← h, hp]; rfl

theorem binOp_arith {op : BinOp} {t : TypeId} {k : IntKind} {x y : Int} (h : op = .quo ∨ op = .rem → y ≠ 0) (hc : isCmp op = false) (hs : isShift op = false) :
    binOp op t (.int k x) (.int k y) = pure (.int k (arithV op k x y)) := by
  cases op <;> first | (simp [isCmp, opNo] at hc; done) | (simp [isShift] at hs; done) | skip
  case add | sub | mul => simp [binOp, Op.intArith, arithV]
  case quo | rem => have := h (by simp); simp [binOp, Op.intDiv, arithV, this]
  case and | or | xor | andNot => simp [binOp, arithV]; rfl

theorem binOp_cmp {op : BinOp} {t : TypeId} {k : IntKind} {x y : Int} (hc : isCmp op = true) : binOp op t (.int k x) (.int k y) = pure (.bool (cmpV op x y)) := by
  cases op <;> first | (simp [isCmp, opNo] at hc; done) | skip
  all_goals (simp [binOp, Op.intCmp, cmpV])

end Go.AM
