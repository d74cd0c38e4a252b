/- The abstract machine's numbers: what its own arithmetic computes is what the model's computes; symbolic terms and what they stand for. -/
import Derived.Test.YtphhdonkpijhhaaGreatDoorAmComp
set_option linter.all false
namespace Go.AM

theorem ile_eq (a b : Int) : ile a b = decide (a ≤ b) := by
  rw [Bool.eq_iff_iff]
  cases a <;> cases b <;> simp [ile] <;> omega

theorem ieq_eq (a b : Int) : ieq a b = (a == b) := by
  rw [Bool.eq_iff_iff]
  cases a <;> cases b <;> simp [ieq] <;> omega

theorem ieq_iff {a b : Int} : ieq a b = true ↔ a = b := by rw [ieq_eq]; simp

theorem ilt_eq (a b : Int) : ilt a b = decide (a < b) := by
  unfold ilt; rw [ile_eq, Bool.eq_iff_iff]; simp

theorem keq_iff {a b : IntKind} : keq a b = true ↔ a = b := by
  cases a <;> cases b <;> simp [keq, kindNo]

theorem opeq_iff {a b : BinOp} : opeq a b = true ↔ a = b := by
  cases a <;> cases b <;> simp [opeq, opNo]

theorem beq_eq (a b : Bool) : beq a b = (a == b) := by cases a <;> cases b <;> rfl

theorem nmod_eq (n : Int) (m : Nat) (hm : 0 < m) : (nmod n m : Int) = n % (m : Int) := by
  cases n with
  | ofNat a => simp [nmod]
  | negSucc a =>
    have h := Nat.mod_lt a hm
    simp only [nmod]
    rw [Int.negSucc_emod a (by omega : (0 : Int) < (m : Int))]
    omega

theorem nmod_lt (n : Int) (m : Nat) (hm : 0 < m) : nmod n m < m := by
  cases n with
  | ofNat a => exact Nat.mod_lt _ hm
  | negSucc a => simp only [nmod]; have h := Nat.mod_lt a hm; omega

theorem modulus_pos (k : IntKind) : 0 < modulus k := by cases k <;> decide

theorem modulus_eq (k : IntKind) : (2 : Int) ^ k.bits = (modulus k : Int) := by cases k <;> rfl

theorem modulus_half (k : IntKind) : (2 : Int) ^ (k.bits - 1) * 2 = (modulus k : Int) := by cases k <;> rfl

theorem signedK_eq (k : IntKind) : signedK k = k.signed := by cases k <;> rfl

theorem wrap_of_nmod (k : IntKind) (n : Int) (m : Nat) (h : n % (2 ^ k.bits : Int) = (m : Int)) (hm : m < modulus k) : k.wrap n = back k m := by
  have h2 := modulus_half k
  unfold IntKind.wrap back
  simp only [h]
  rw [modulus_eq, signedK_eq]
  cases hs : k.signed with
  | false => simp
  | true =>
    simp only [Bool.true_and]
    by_cases hc : modulus k ≤ m + m
    · have e1 : Nat.ble (modulus k) (m + m) = true := by simpa using hc
      have e2 : decide ((m : Int) ≥ 2 ^ (k.bits - 1)) = true := by simp; omega
      rw [if_pos (by simpa using e2), e1]
      simp only [cond_true]
      omega
    · have e1 : Nat.ble (modulus k) (m + m) = false := by
        cases h' : Nat.ble (modulus k) (m + m) with
        | false => rfl
        | true => exact absurd (Nat.le_of_ble_eq_true h') hc
      have e2 : ¬ ((m : Int) ≥ 2 ^ (k.bits - 1)) := by omega
      rw [if_neg (by simpa using e2), e1]
      rfl

theorem wrapF_eq (k : IntKind) (n : Int) : wrapF k n = k.wrap n := by
  unfold wrapF
  exact (wrap_of_nmod k n _ (by rw [modulus_eq, nmod_eq _ _ (modulus_pos k)]) (nmod_lt _ _ (modulus_pos k))).symm

theorem nmod_bv (k : IntKind) (x : Int) : nmod x (modulus k) = (BitVec.ofInt k.bits x).toNat := by
  rw [BitVec.toNat_ofInt]
  have h := nmod_eq x (modulus k) (modulus_pos k)
  have e : ((2 ^ k.bits : Nat) : Int) = (modulus k : Int) := by cases k <;> rfl
  rw [e, ← h]
  exact (Int.toNat_natCast _).symm

theorem two_pow_bits (k : IntKind) : 2 ^ k.bits = modulus k := by cases k <;> rfl

theorem bitsF_eq (op : BinOp) (k : IntKind) (x y : Int) (h : op = .and ∨ op = .or ∨ op = .xor ∨ op = .andNot) : bitsF op k x y = bits op k x y := by
  unfold bitsF bits
  rw [nmod_bv, nmod_bv]
  generalize BitVec.ofInt k.bits x = a
  generalize BitVec.ofInt k.bits y = b
  have hb : ∀ r : BitVec k.bits, back k r.toNat = k.wrap (r.toNat : Int) := fun r => by
    have hlt : r.toNat < modulus k := by rw [← two_pow_bits]; exact r.isLt
    exact (wrap_of_nmod k _ _ (by rw [modulus_eq]; exact Int.emod_eq_of_lt (by omega) (by omega)) hlt).symm
  rcases h with rfl | rfl | rfl | rfl <;> simp only [natBits] <;> rw [← hb]
  · rw [BitVec.toNat_and]; rfl
  · rw [BitVec.toNat_or]; rfl
  · rw [BitVec.toNat_xor]; rfl
  · rw [BitVec.toNat_and, BitVec.toNat_not, two_pow_bits]; rfl

/-! ### What terms stand for -/

def arithV (op : BinOp) (k : IntKind) (x y : Int) : Int :=
  match op with
  | .add => k.wrap (x + y)
  | .sub => k.wrap (x - y)
  | .mul => k.wrap (x * y)
  | .quo => k.wrap (x.tdiv y)
  | .rem => x.tmod y
  | op => bits op k x y

def cmpV (op : BinOp) (x y : Int) : Bool :=
  match op with
  | .eql => x == y
  | .neq => x != y
  | .lss => decide (x < y)
  | .leq => decide (x ≤ y)
  | .gtr => decide (x > y)
  | _ => decide (x ≥ y)

def ST.den (ρ : Nat → Int) : ST → Int
  | .lit n => n
  | .var i => ρ i
  | .bin op k a b => arithV op k (a.den ρ) (b.den ρ)
  | .conv k a => k.wrap (a.den ρ)

def SB.den (ρ : Nat → Int) : SB → Bool
  | .lit b => b
  | .cmp op a b => cmpV op (a.den ρ) (b.den ρ)
  | .no a => !(a.den ρ)

theorem ST.eq_sound : ∀ {a b : ST}, a.eq b = true → a = b
  | .lit a, .lit b, h => by simp only [ST.eq] at h; rw [ieq_iff.1 h]
  | .var i, .var j, h => by simp only [ST.eq] at h; rw [Nat.eq_of_beq_eq_true h]
  | .bin o k a b, .bin o' k' a' b', h => by
    simp only [ST.eq, Bool.and_eq_true] at h
    obtain ⟨⟨⟨h1, h2⟩, h3⟩, h4⟩ := h
    rw [opeq_iff.1 h1, keq_iff.1 h2, ST.eq_sound h3, ST.eq_sound h4]
  | .conv k a, .conv k' a', h => by
    simp only [ST.eq, Bool.and_eq_true] at h
    rw [keq_iff.1 h.1, ST.eq_sound h.2]
  | .lit _, .var _, h | .lit _, .bin .., h | .lit _, .conv .., h | .var _, .lit _, h | .var _, .bin .., h | .var _, .conv .., h
  | .bin .., .lit _, h | .bin .., .var _, h | .bin .., .conv .., h | .conv .., .lit _, h | .conv .., .var _, h | .conv .., .bin .., h => by simp [ST.eq] at h

theorem SB.eq_sound : ∀ {a b : SB}, a.eq b = true → a = b
  | .lit a, .lit b, h => by simp only [SB.eq, beq_eq] at h; simp at h; rw [h]
  | .cmp o a b, .cmp o' a' b', h => by
    simp only [SB.eq, Bool.and_eq_true] at h
    rw [opeq_iff.1 h.1.1, ST.eq_sound h.1.2, ST.eq_sound h.2]
  | .no a, .no b, h => by simp only [SB.eq] at h; rw [SB.eq_sound h]
  | .lit _, .cmp .., h | .lit _, .no _, h | .cmp .., .lit _, h | .cmp .., .no _, h | .no _, .lit _, h | .no _, .cmp .., h => by simp [SB.eq] at h

/-- the facts hold where the variables have these values -/
structure Facts.Hold (Γ : Facts) (ρ : Nat → Int) : Prop where
  nums : ∀ x ∈ Γ.nums, x.1.den ρ = x.2
  tests : ∀ x ∈ Γ.tests, cmpV x.1 (x.2.1.den ρ) (x.2.2.1.den ρ) = x.2.2.2

theorem Facts.Hold.none (ρ : Nat → Int) : ({} : Facts).Hold ρ := ⟨fun _ h => (by cases h), fun _ h => (by cases h)⟩

theorem lookNum_mem : ∀ {l : List (ST × Int)} {t : ST} {n : Int}, lookNum l t = some n → (t, n) ∈ l
  | [], _, _, h => by simp [lookNum] at h
  | (s, m) :: r, t, n, h => by
    simp only [lookNum] at h
    cases e : s.eq t with
    | true =>
      rw [e] at h
      simp only [cond_true, Option.some.injEq] at h
      rw [ST.eq_sound e, h]
      exact List.mem_cons_self
    | false => rw [e] at h; exact List.mem_cons_of_mem _ (lookNum_mem h)

theorem lookTest_mem : ∀ {l : List (BinOp × ST × ST × Bool)} {op : BinOp} {a b : ST} {v : Bool}, lookTest l op a b = some v → (op, a, b, v) ∈ l
  | [], _, _, _, _, h => by simp [lookTest] at h
  | (o, s, t, u) :: r, op, a, b, v, h => by
    simp only [lookTest] at h
    cases e : opeq o op && s.eq a && t.eq b with
    | true =>
      rw [e] at h
      simp only [cond_true, Option.some.injEq] at h
      simp only [Bool.and_eq_true] at e
      rw [opeq_iff.1 e.1.1, ST.eq_sound e.1.2, ST.eq_sound e.2, h]
      exact List.mem_cons_self
    | false => rw [e] at h; exact List.mem_cons_of_mem _ (lookTest_mem h)

section
variable {Γ : Facts} {ρ : Nat → Int} (hΓ : Γ.Hold ρ)
include hΓ

theorem numOf_den (t : ST) : (numOf Γ t).den ρ = t.den ρ := by
  unfold numOf
  split
  · rename_i n h; exact (hΓ.nums _ (lookNum_mem h)).symm
  · rfl

omit hΓ in
theorem arithI_sound {op : BinOp} {k : IntKind} {a b n : Int} (h : arithI op k a b = some n) :
    n = arithV op k a b ∧ (op = .quo ∨ op = .rem → b ≠ 0) ∧ isCmp op = false ∧ isShift op = false := by
  cases op <;> simp only [arithI, Option.some.injEq, reduceCtorEq] at h
  case add | sub | mul => exact ⟨by rw [← h, wrapF_eq]; rfl, by simp, rfl, rfl⟩
  case quo | rem =>
    cases e : ieq b 0 with
    | true => rw [e] at h; simp at h
    | false =>
      rw [e] at h
      simp only [cond_false, Option.some.injEq] at h
      refine ⟨by rw [← h]; first | (rw [wrapF_eq]; rfl) | rfl, fun _ hb => ?_, rfl, rfl⟩
      rw [ieq_iff.2 hb] at e; cases e
  case and | or | xor | andNot => exact ⟨by rw [← h, bitsF_eq _ _ _ _ (by simp)]; rfl, by simp, rfl, rfl⟩

theorem arith_sound {op : BinOp} {k : IntKind} {a b t : ST} (h : arith Γ op k a b = some t) :
    t.den ρ = arithV op k (a.den ρ) (b.den ρ) ∧ (op = .quo ∨ op = .rem → b.den ρ ≠ 0) ∧ isCmp op = false ∧ isShift op = false := by
  have hS : ∀ {t}, arithS Γ op k a b = some t → t.den ρ = arithV op k (a.den ρ) (b.den ρ) ∧ (op = .quo ∨ op = .rem → b.den ρ ≠ 0) ∧ isCmp op = false ∧ isShift op = false := fun {t} h => by
    unfold arithS at h
    cases e : total op b with
    | false => rw [e] at h; simp at h
    | true =>
      rw [e] at h
      simp only [cond_true, Option.some.injEq] at h
      refine ⟨by rw [← h, numOf_den hΓ]; rfl, fun ho => ?_, ?_, ?_⟩
      · rcases ho with rfl | rfl <;> cases b <;> simp [total, ieq_eq] at e <;> simpa [ST.den] using e
      · cases op <;> first | rfl | (simp [total] at e)
      · cases op <;> first | rfl | (simp [total] at e)
  unfold arith at h
  split at h
  · rename_i x y
    cases e : arithI op k x y with
    | none => rw [e] at h; simp [bnd] at h
    | some n =>
      rw [e] at h
      simp only [bnd, Option.some.injEq] at h
      rw [← h]
      exact arithI_sound e
  · exact hS h

omit hΓ in
theorem cmpI_sound {op : BinOp} {a b : Int} {v : Bool} (h : cmpI op a b = some v) : v = cmpV op a b ∧ isCmp op = true := by
  cases op <;> simp only [cmpI, Option.some.injEq, reduceCtorEq] at h <;> subst h <;> refine ⟨?_, rfl⟩ <;> simp [cmpV, ieq_eq, ile_eq, ilt_eq, bne] <;> rfl

theorem compare_sound {op : BinOp} {a b : ST} {s : SB} (h : compare Γ op a b = some s) : s.den ρ = cmpV op (a.den ρ) (b.den ρ) ∧ isCmp op = true := by
  have hS : ∀ {s}, compareS Γ op a b = some s → s.den ρ = cmpV op (a.den ρ) (b.den ρ) ∧ isCmp op = true := fun {s} h => by
    unfold compareS at h
    cases e : isCmp op with
    | false => rw [e] at h; simp at h
    | true =>
      rw [e] at h
      simp only [cond_true] at h
      split at h
      · rename_i v hv
        simp only [Option.some.injEq] at h
        subst h
        exact ⟨(hΓ.tests _ (lookTest_mem hv)).symm, rfl⟩
      · simp only [Option.some.injEq] at h
        subst h
        exact ⟨rfl, rfl⟩
  unfold compare at h
  split at h
  · rename_i x y
    cases e : cmpI op x y with
    | none => rw [e] at h; simp [bnd] at h
    | some v =>
      rw [e] at h
      simp only [bnd, Option.some.injEq] at h
      rw [← h]
      exact cmpI_sound e
  · exact hS h

theorem convert_sound (k : IntKind) (a : ST) : (convert Γ k a).den ρ = k.wrap (a.den ρ) := by
  unfold convert
  split
  · simp [ST.den, wrapF_eq]
  · rw [numOf_den hΓ]; rfl

end

/-! ### The model's operations -/

theorem shiftI_sound {op : BinOp} {k yk : IntKind} {x y n : Int} (h : shiftI op k x y = some n) : Op.shift op k x yk y = pure (.int k n) := by
  cases y with
  | negSucc y => simp [shiftI] at h
  | ofNat y =>
    simp only [shiftI] at h
    have hm : (bif Nat.ble y k.bits then y else k.bits) = min y k.bits := by
      cases e : Nat.ble y k.bits with
      | true => simp only [cond_true]; have := Nat.le_of_ble_eq_true e; omega
      | false => simp only [cond_false]; have : ¬ y ≤ k.bits := fun h => by rw [Nat.ble_eq_true_of_le h] at e; cases e
                 omega
    rw [hm] at h
    have hp : Int.ofNat (2 ^ min y k.bits) = (2 : Int) ^ min y k.bits := by simp
    unfold Op.shift
    rw [if_neg (by simp)]
    cases op <;> simp only [shiftN, Option.some.injEq, reduceCtorEq] at h
    · rw [← h, wrapF_eq, hp]; rfl
    · rw [← h, hp]; rfl

theorem binOp_arith {op : BinOp} {t : TypeId} {k : IntKind} {x y : Int} (h : op = .quo ∨ op = .rem → y ≠ 0) (hc : isCmp op = false) (hs : isShift op = false) :
    binOp op t (.int k x) (.int k y) = pure (.int k (arithV op k x y)) := by
  cases op <;> first | (simp [isCmp, opNo] at hc; done) | (simp [isShift] at hs; done) | skip
  case add | sub | mul => simp [binOp, Op.intArith, arithV]
  case quo | rem => have := h (by simp); simp [binOp, Op.intDiv, arithV, this]
  case and | or | xor | andNot => simp [binOp, arithV]; rfl

theorem binOp_cmp {op : BinOp} {t : TypeId} {k : IntKind} {x y : Int} (hc : isCmp op = true) : binOp op t (.int k x) (.int k y) = pure (.bool (cmpV op x y)) := by
  cases op <;> first | (simp [isCmp, opNo] at hc; done) | skip
  all_goals (simp [binOp, Op.intCmp, cmpV])

end Go.AM
