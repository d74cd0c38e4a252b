/- How the abstract machine's values and memory stand to the model's: relations, and what keeps them. -/
import Derived.Test.YthgbnljjolhodaaGreatDoorAmNum
set_option linter.all false
namespace Go.AM

/-! ### Tables -/

section
variable {α : Type}
theorem Tr.get_nil (n : Nat) : (Tr.nil : Tr α).get n = none := rfl
theorem Tr.get_node (v : Option α) (l r : Tr α) (n : Nat) :
    (Tr.node v l r).get n = bif Nat.beq n 0 then v else bif Nat.beq (n % 2) 1 then l.get (n / 2) else r.get (n / 2 - 1) := rfl
theorem Tr.get_over (m : Nat) (v : Option α) (t : Tr α) (n : Nat) : (Tr.over m v t).get n = bif Nat.beq n m then v else t.get n := rfl
theorem Tr.set_nil (n : Nat) (x : Option α) : (Tr.nil : Tr α).set n x = .over n x .nil := rfl
theorem Tr.set_node (v : Option α) (l r : Tr α) (n : Nat) (x : Option α) :
    (Tr.node v l r).set n x = bif Nat.beq n 0 then .node x l r else bif Nat.beq (n % 2) 1 then .node v (l.set (n / 2) x) r else .node v l (r.set (n / 2 - 1) x) := rfl
theorem Tr.set_over (m : Nat) (v : Option α) (t : Tr α) (n : Nat) (x : Option α) :
    (Tr.over m v t).set n x = bif Nat.beq n m then .over m x t else .over m v (t.set n x) := rfl

theorem cond_beq {β : Type} (m n : Nat) (a b : β) : (bif Nat.beq m n then a else b) = if m = n then a else b := by
  by_cases h : m = n
  · subst h; simp
  · have : Nat.beq m n = false := by
      cases e : Nat.beq m n with
      | false => rfl
      | true => exact absurd (Nat.eq_of_beq_eq_true e) h
    rw [this, if_neg h]; rfl

theorem Tr.get_set : ∀ (t : Tr α) (n m : Nat) (x : Option α), (t.set n x).get m = if m = n then x else t.get m
  | .nil, n, m, x => by rw [Tr.set_nil, Tr.get_over, cond_beq]
  | .over k v t, n, m, x => by
    rw [Tr.set_over, cond_beq]
    by_cases h : n = k
    · subst h
      rw [if_pos rfl, Tr.get_over, Tr.get_over, cond_beq, cond_beq]
      by_cases h2 : m = n <;> simp [h2]
    · rw [if_neg h, Tr.get_over, Tr.get_over, cond_beq, cond_beq, Tr.get_set t n m x]
      by_cases h2 : m = k
      · subst h2; rw [if_pos rfl, if_neg (Ne.symm h), if_pos rfl]
      · rw [if_neg h2, if_neg h2]
  | .node v l r, n, m, x => by
    rw [Tr.set_node, cond_beq, cond_beq]
    by_cases h0 : n = 0
    · rw [if_pos h0, Tr.get_node, Tr.get_node]
      simp only [cond_beq]
      by_cases h2 : m = 0
      · rw [if_pos h2, if_pos (by omega)]
      · rw [if_neg h2, if_neg (by omega : ¬ m = n), if_neg h2]
    · rw [if_neg h0]
      by_cases h1 : n % 2 = 1
      · rw [if_pos h1, Tr.get_node, Tr.get_node]
        simp only [cond_beq]
        rw [Tr.get_set l]
        by_cases h2 : m = 0
        · rw [if_pos h2, if_neg (by omega), if_pos h2]
        · rw [if_neg h2, if_neg h2]
          by_cases h3 : m % 2 = 1
          · rw [if_pos h3, if_pos h3]
            by_cases h4 : m = n
            · rw [if_pos h4, if_pos (by omega)]
            · rw [if_neg h4, if_neg (by omega)]
          · rw [if_neg h3, if_neg h3, if_neg (by intro e; subst e; exact h3 h1)]
      · rw [if_neg h1, Tr.get_node, Tr.get_node]
        simp only [cond_beq]
        rw [Tr.get_set r]
        by_cases h2 : m = 0
        · rw [if_pos h2, if_neg (by omega), if_pos h2]
        · rw [if_neg h2, if_neg h2]
          by_cases h3 : m % 2 = 1
          · rw [if_pos h3, if_pos h3, if_neg (by intro e; subst e; exact h1 h3)]
          · rw [if_neg h3, if_neg h3]
            by_cases h4 : m = n
            · rw [if_pos h4, if_pos (by omega)]
            · rw [if_neg h4, if_neg (by omega)]

theorem Tr.get_full : ∀ (n m : Nat), (Tr.full α n).get m = none
  | 0, m => rfl
  | n + 1, m => by
    show (Tr.node none (Tr.full α n) (Tr.full α n)).get m = none
    rw [Tr.get_node, cond_beq, cond_beq, Tr.get_full, Tr.get_full]
    split <;> first | rfl | (split <;> rfl)
end

/-! ### Values -/

/-- of hidden bytes: their number and the capacity, in one number -/
def hLen (m : Nat) : Nat := m % 1048577
def hCap (m : Nat) : Nat := m / 1048577
def hPut (len cap : Nat) : Nat := len + 1048577 * cap

theorem hLen_put {len cap : Nat} (h : len ≤ 1048576) : hLen (hPut len cap) = len := by unfold hLen hPut; omega
theorem hCap_put {len cap : Nat} (h : len ≤ 1048576) : hCap (hPut len cap) = cap := by unfold hCap hPut; omega

/-- where an abstract block lies: the block, the place in it at which it begins, and how many cells there are from there on -/
abbrev Spot := Nat × Nat × Nat

/-- where the blocks lie; memory that nothing changes any more -/
structure Where where
  spot : Nat → Option Spot
  ice : Nat → Option Obj

instance : CoeFun Where fun _ => Nat → Option Spot := ⟨Where.spot⟩

/-- nothing is known -/
def Where.none : Where := ⟨fun _ => Option.none, fun _ => Option.none⟩

section
variable (ice : Nat → Option Obj)
mutual
/-- a value is this data -/
def Rep : PV → Value → Prop
  | .bool b, v => v = .bool b
  | .int k n, v => v = .int k n
  | .str s, v => ∃ b : ByteArray, v = .string b ∧ strOf b = s
  | .list es l, v => ∃ c, l.length ≤ c ∧ ((l = [] ∧ ∃ p, v = .slice p 0 c) ∨ ∃ r δ a e, v = .slice (some ⟨r, δ, none⟩) l.length c ∧ ice r = some (.cells a e (0, 0)) ∧ RepLL es a δ l)
  | .nilp, v => v = .pointer none
/-- cells, from a place on -/
def RepL (a : Array Value) (δ : Nat) : List PV → Prop
  | [] => True
  | p :: ps => (∃ u, a[δ]? = some u ∧ Rep p u) ∧ RepL a (δ + 1) ps
/-- elements of `es` cells -/
def RepLL (es : Nat) (a : Array Value) (δ : Nat) : List (List PV) → Prop
  | [] => True
  | ps :: r => ps.length = es ∧ RepL a δ ps ∧ RepLL es a (δ + es) r
end

def MRel : List (List Nat × List PV) → List MapEntry → Prop
  | [], ms => ms = []
  | e :: es, ms => ∃ m rest, ms = m :: rest ∧ (∃ b : ByteArray, m.key = .string b ∧ strOf b = e.1) ∧ (∃ a : Array Value, m.val = .agg a ∧ a.size = e.2.length ∧ RepL ice a 0 e.2) ∧ MRel es rest
end

section
variable (ρ : Env) (μ : Where)

mutual
def VRel : AVal → Value → Prop
  | .any, _ => True
  | .bool b, v => v = .bool (b.den ρ)
  | .int k n, v => v = .int k (n.den ρ)
  | .str s, v => ∃ b : ByteArray, v = .string b ∧ strOf b = s
  | .ptr b off, v => ∃ r δ m, μ b = some (r, δ, m) ∧ v = .pointer (some ⟨r, δ + off, none⟩)
  | .nilPtr, v => v = .pointer none
  | .slice b off len c, v => ∃ r δ m, μ b = some (r, δ, m) ∧ v = .slice (some ⟨r, δ + off, none⟩) len c ∧ len ≤ c
  | .gslice b off len es, v => ∃ r δ m c, μ b = some (r, δ, m) ∧ v = .slice (some ⟨r, δ + off, none⟩) len c ∧ len ≤ c ∧ off + c * es ≤ m
  | .nilSlice, v => v = .slice none 0 0
  | .map b, v => ∃ r, μ b = some (r, 0, 0) ∧ v = .map (some r)
  | .nilMap, v => v = .map none
  | .func f a c, v => ∃ a' c' : Array Value, v = .func (.func f) a' c' ∧ VsRel a a'.toList ∧ VsRel c c'.toList
  | .nilFunc, v => v = .nilFunc
  | .iface t x, v => ∃ u, v = .iface t u ∧ VRel x u
  | .nilIface, v => v = .nilIface
  | .agg cs, v => ∃ a : Array Value, v = .agg a ∧ CsRel cs a.toList
  | .tuple vs, v => ∃ a : Array Value, v = .tuple a ∧ VsRel vs a.toList
  | .anyStr n, v => ∃ b : ByteArray, v = .string b ∧ 1 ≤ b.size ∧ b.size ≤ n
  | .gbytes b, v => ∃ r m, μ b = some (r, 0, m) ∧ v = .slice (some ⟨r, 0, none⟩) (hLen m) (hCap m) ∧ 1 ≤ hLen m ∧ hLen m ≤ hCap m
  | .glen b, v => ∃ r m, μ b = some (r, 0, m) ∧ v = .int .i64 (hLen m : Nat)
  | .svar i, v => ∃ b : ByteArray, v = .string b ∧ strOf b = ρ.str i
  | .lst full i es n, v => Rep μ.ice (.list es (ρ.lst i)) v ∧ n.den ρ = ((ρ.lst i).length : Int) ∧ (full = true → ∃ p, v = .slice p (ρ.lst i).length (ρ.lst i).length)
  | .lptr i j off, v => ∃ r δ a e ps, v = .pointer (some ⟨r, δ + off, none⟩) ∧ μ.ice r = some (.cells a e (0, 0)) ∧ 0 ≤ j.den ρ ∧ (ρ.lst i)[(j.den ρ).toNat]? = some ps ∧ RepL μ.ice a δ ps
  | .vec b _ n, v => ∃ r m k, μ b = some (r, 0, m) ∧ v = .slice (some ⟨r, 0, none⟩) k (hCap m) ∧ n.den ρ = (k : Int) ∧ k ≤ hLen m ∧ hLen m ≤ hCap m
def VsRel : List AVal → List Value → Prop
  | [], vs => vs = []
  | a :: as, vs => ∃ v rest, vs = v :: rest ∧ VRel a v ∧ VsRel as rest
/-- cells: each of them one cell's value -/
def CsRel : List AVal → List Value → Prop
  | [], vs => vs = []
  | a :: as, vs => ∃ v rest, vs = v :: rest ∧ (a.single = true ∧ VRel a v) ∧ CsRel as rest
end
end

structure Where.le (μ μ' : Where) : Prop where
  to : ∀ b x, μ b = some x → μ' b = some x
  ice : ∀ g o, μ.ice g = some o → μ'.ice g = some o

theorem Where.le_refl (μ : Where) : μ.le μ := ⟨fun _ _ h => h, fun _ _ h => h⟩
theorem Where.le_trans {μ μ' μ'' : Where} (h : μ.le μ') (h' : μ'.le μ'') : μ.le μ'' := ⟨fun _ _ e => h'.to _ _ (h.to _ _ e), fun _ _ e => h'.ice _ _ (h.ice _ _ e)⟩

section
variable {ice ice' : Nat → Option Obj} (h : ∀ g o, ice g = some o → ice' g = some o)
include h
mutual
theorem Rep.mono : ∀ {p : PV} {v : Value}, Rep ice p v → Rep ice' p v
  | .bool _, _, e => e
  | .int _ _, _, e => e
  | .str _, _, e => e
  | .nilp, _, e => e
  | .list es l, v, e => by
    simp only [Rep] at e ⊢
    obtain ⟨c, hc, e⟩ := e
    refine ⟨c, hc, ?_⟩
    rcases e with e | ⟨r, δ, a, t, e1, e2, e3⟩
    · exact .inl e
    · exact .inr ⟨r, δ, a, t, e1, h _ _ e2, RepLL.mono e3⟩
theorem RepL.mono : ∀ {ps : List PV} {a : Array Value} {δ : Nat}, RepL ice a δ ps → RepL ice' a δ ps
  | [], _, _, _ => trivial
  | p :: ps, a, δ, e => by
    simp only [RepL] at e ⊢
    obtain ⟨⟨u, e1, e2⟩, e3⟩ := e
    exact ⟨⟨u, e1, Rep.mono e2⟩, RepL.mono e3⟩
theorem RepLL.mono : ∀ {l : List (List PV)} {es : Nat} {a : Array Value} {δ : Nat}, RepLL ice es a δ l → RepLL ice' es a δ l
  | [], _, _, _, _ => trivial
  | ps :: r, es, a, δ, e => by
    simp only [RepLL] at e ⊢
    obtain ⟨e0, e1, e2⟩ := e
    exact ⟨e0, RepL.mono e1, RepLL.mono e2⟩
end

theorem MRel.mono : ∀ {l : List (List Nat × List PV)} {ms : List MapEntry}, MRel ice l ms → MRel ice' l ms
  | [], _, e => e
  | _ :: _, _, e => let ⟨m, rest, e1, e2, ⟨a, e3, e4, e5⟩, e6⟩ := e; ⟨m, rest, e1, e2, ⟨a, e3, e4, RepL.mono h e5⟩, MRel.mono e6⟩
end

section
variable {ρ : Env} {μ μ' : Where} (h : μ.le μ')
include h
mutual
theorem VRel.mono : ∀ {a : AVal} {v : Value}, VRel ρ μ a v → VRel ρ μ' a v
  | .any, _, _ => trivial
  | .bool _, _, e => e
  | .int _ _, _, e => e
  | .str _, _, e => e
  | .ptr b off, _, e => let ⟨r, δ, m, e1, e2⟩ := e; ⟨r, δ, m, h.to _ _ e1, e2⟩
  | .nilPtr, _, e => e
  | .slice b off len cap, _, e => let ⟨r, δ, m, e1, e2⟩ := e; ⟨r, δ, m, h.to _ _ e1, e2⟩
  | .gslice b off len es, _, e => let ⟨r, δ, m, c, e1, e2⟩ := e; ⟨r, δ, m, c, h.to _ _ e1, e2⟩
  | .nilSlice, _, e => e
  | .map b, _, e => let ⟨r, e1, e2⟩ := e; ⟨r, h.to _ _ e1, e2⟩
  | .nilMap, _, e => e
  | .func f a c, _, e => let ⟨a', c', e1, e2, e3⟩ := e; ⟨a', c', e1, VsRel.mono e2, VsRel.mono e3⟩
  | .nilFunc, _, e => e
  | .iface t x, _, e => let ⟨u, e1, e2⟩ := e; ⟨u, e1, VRel.mono e2⟩
  | .nilIface, _, e => e
  | .agg cs, _, e => let ⟨a, e1, e2⟩ := e; ⟨a, e1, CsRel.mono e2⟩
  | .tuple vs, _, e => let ⟨a, e1, e2⟩ := e; ⟨a, e1, VsRel.mono e2⟩
  | .anyStr _, _, e => e
  | .gbytes _, _, e => let ⟨r, m, e1, e2⟩ := e; ⟨r, m, h.to _ _ e1, e2⟩
  | .glen _, _, e => let ⟨r, m, e1, e2⟩ := e; ⟨r, m, h.to _ _ e1, e2⟩
  | .svar _, _, e => e
  | .lst _ _ _ _, _, e => ⟨Rep.mono h.ice e.1, e.2⟩
  | .lptr _ _ _, _, e => let ⟨r, δ, a, t, ps, e1, e2, e3, e4, e5⟩ := e; ⟨r, δ, a, t, ps, e1, h.ice _ _ e2, e3, e4, RepL.mono h.ice e5⟩
  | .vec _ _ _, _, e => let ⟨r, m, k, e1, e2⟩ := e; ⟨r, m, k, h.to _ _ e1, e2⟩
theorem VsRel.mono : ∀ {as : List AVal} {vs : List Value}, VsRel ρ μ as vs → VsRel ρ μ' as vs
  | [], _, e => e
  | _ :: _, _, e => let ⟨v, rest, e1, e2, e3⟩ := e; ⟨v, rest, e1, VRel.mono e2, VsRel.mono e3⟩
theorem CsRel.mono : ∀ {as : List AVal} {vs : List Value}, CsRel ρ μ as vs → CsRel ρ μ' as vs
  | [], _, e => e
  | _ :: _, _, e => let ⟨v, rest, e1, ⟨e2, e2'⟩, e3⟩ := e; ⟨v, rest, e1, ⟨e2, VRel.mono e2'⟩, CsRel.mono e3⟩
end
end

section
variable {ρ : Env} {μ : Where}

theorem CsRel.length : ∀ {as : List AVal} {vs : List Value}, CsRel ρ μ as vs → as.length = vs.length
  | [], _, e => by simp only [CsRel] at e; rw [e]; rfl
  | _ :: _, _, e => by
    simp only [CsRel] at e
    obtain ⟨v, rest, rfl, _, h⟩ := e
    simp [CsRel.length h]

theorem VsRel.length : ∀ {as : List AVal} {vs : List Value}, VsRel ρ μ as vs → as.length = vs.length
  | [], _, e => by simp only [VsRel] at e; rw [e]; rfl
  | _ :: _, _, e => by
    simp only [VsRel] at e
    obtain ⟨v, rest, rfl, _, h⟩ := e
    simp [VsRel.length h]

theorem CsRel.get : ∀ {as : List AVal} {vs : List Value} {i : Nat} {a : AVal}, CsRel ρ μ as vs → as[i]? = some a → ∃ v, vs[i]? = some v ∧ a.single = true ∧ VRel ρ μ a v
  | [], _, i, _, _, h => by simp at h
  | b :: as, _, i, a, e, h => by
    simp only [CsRel] at e
    obtain ⟨v, rest, rfl, hb, hr⟩ := e
    cases i with
    | zero => simp only [List.getElem?_cons_zero, Option.some.injEq] at h; subst h; exact ⟨v, rfl, hb⟩
    | succ i => simpa using CsRel.get hr (by simpa using h)

theorem CsRel.of_get : ∀ {as : List AVal} {vs : List Value}, as.length = vs.length → (∀ (i : Nat) (a : AVal), as[i]? = some a → ∃ v, vs[i]? = some v ∧ a.single = true ∧ VRel ρ μ a v) → CsRel ρ μ as vs
  | [], vs, hl, _ => by simp only [CsRel]; exact List.eq_nil_of_length_eq_zero (by simpa using hl.symm)
  | a :: as, [], hl, _ => by simp at hl
  | a :: as, v :: vs, hl, h => by
    simp only [CsRel]
    obtain ⟨u, hu, h1⟩ := h 0 a rfl
    simp only [List.getElem?_cons_zero, Option.some.injEq] at hu
    subst hu
    exact ⟨v, vs, rfl, h1, CsRel.of_get (by simpa using hl) fun i b hb => by simpa using h (i + 1) b (by simpa using hb)⟩

theorem CsRel.append : ∀ {as bs : List AVal} {vs us : List Value}, CsRel ρ μ as vs → CsRel ρ μ bs us → CsRel ρ μ (as ++ bs) (vs ++ us)
  | [], _, _, _, h, h' => by simp only [CsRel] at h; subst h; exact h'
  | _ :: _, _, _, _, h, h' => by
    simp only [CsRel] at h
    obtain ⟨v, rest, rfl, h1, h2⟩ := h
    simp only [List.cons_append, CsRel]
    exact ⟨v, _, rfl, h1, CsRel.append h2 h'⟩

theorem VsRel.append : ∀ {as bs : List AVal} {vs us : List Value}, VsRel ρ μ as vs → VsRel ρ μ bs us → VsRel ρ μ (as ++ bs) (vs ++ us)
  | [], _, _, _, h, h' => by simp only [VsRel] at h; subst h; exact h'
  | _ :: _, _, _, _, h, h' => by
    simp only [VsRel] at h
    obtain ⟨v, rest, rfl, h1, h2⟩ := h
    simp only [List.cons_append, VsRel]
    exact ⟨v, _, rfl, h1, VsRel.append h2 h'⟩

theorem VsRel.get : ∀ {as : List AVal} {vs : List Value} {i : Nat} {a : AVal}, VsRel ρ μ as vs → as[i]? = some a → ∃ v, vs[i]? = some v ∧ VRel ρ μ a v
  | [], _, i, _, _, h => by simp at h
  | b :: as, _, i, a, e, h => by
    simp only [VsRel] at e
    obtain ⟨v, rest, rfl, hb, hr⟩ := e
    cases i with
    | zero => simp only [List.getElem?_cons_zero, Option.some.injEq] at h; subst h; exact ⟨v, rfl, hb⟩
    | succ i => simpa using VsRel.get hr (by simpa using h)

/-- one cell's abstract value stands for one cell's value -/
theorem VRel.oneCell {a : AVal} {v : Value} (h : VRel ρ μ a v) (hs : a.single = true) : v.oneCell' = true := by
  cases a <;> simp only [AVal.single, Bool.false_eq_true] at hs <;> simp only [VRel] at h
  case bool | int | nilPtr | nilSlice | nilMap | nilFunc | nilIface => subst h; rfl
  case str => obtain ⟨_, rfl, _⟩ := h; rfl
  case ptr => obtain ⟨_, _, _, _, rfl⟩ := h; rfl
  case slice => obtain ⟨_, _, _, _, rfl, _⟩ := h; rfl
  case gslice => obtain ⟨_, _, _, _, _, rfl, _⟩ := h; rfl
  case map => obtain ⟨_, _, rfl⟩ := h; rfl
  case func => obtain ⟨_, _, rfl, _⟩ := h; rfl
  case iface => obtain ⟨_, rfl, _⟩ := h; rfl
  case anyStr => obtain ⟨_, rfl, _⟩ := h; rfl
  case gbytes => obtain ⟨_, _, _, rfl, _⟩ := h; rfl
  case glen => obtain ⟨_, _, _, rfl⟩ := h; rfl
  case svar => obtain ⟨_, rfl, _⟩ := h; rfl
  case lst =>
    simp only [Rep] at h
    obtain ⟨⟨_, _, ⟨_, _, rfl⟩ | ⟨_, _, _, _, rfl, _⟩⟩, _⟩ := h <;> rfl
  case lptr => obtain ⟨_, _, _, _, _, rfl, _⟩ := h; rfl
  case vec => obtain ⟨_, _, _, _, rfl, _⟩ := h; rfl

theorem VRel.cells {a : AVal} {v : Value} {cs : List AVal} (h : VRel ρ μ a v) (hc : a.cells = some cs) : CsRel ρ μ cs v.cells.toList := by
  cases a <;> simp only [AVal.cells, Option.some.injEq, reduceCtorEq] at hc
  case agg =>
    subst hc
    simp only [VRel] at h
    obtain ⟨a, rfl, h⟩ := h
    exact h
  all_goals
    subst hc
    have hv : v.cells.toList = [v] := by
      have h1 := h.oneCell (by rfl)
      cases v <;> first | rfl | (simp [Value.oneCell'] at h1)
    rw [hv]
    simp only [CsRel]
    exact ⟨v, [], rfl, ⟨by rfl, h⟩, rfl⟩
end

/-! ### Memory -/

section
variable (ρ : Env) (μ : Where)

def ERel (e : Entry) (m : MapEntry) : Prop := e.key.single = true ∧ VRel ρ μ e.key m.key ∧ VRel ρ μ e.val m.val ∧ m.born = e.born

def EsRel : List Entry → List MapEntry → Prop
  | [], ms => ms = []
  | e :: es, ms => ∃ m rest, ms = m :: rest ∧ ERel ρ μ e m ∧ EsRel es rest

def BRel : Block → Option Obj → Nat × Nat → Prop
  | .cells vs, o, (δ, m) => ∃ c e, o = some (.cells c e (0, 0)) ∧ δ + m ≤ c.size ∧ ∀ (i : Nat) (a : AVal), vs[i]? = some a → ∃ v, c[δ + i]? = some v ∧ a.single = true ∧ VRel ρ μ a v
  | .map es clock, o, δ => δ = (0, 0) ∧ ∃ ms : Array MapEntry, o = some (.map ms clock) ∧ EsRel ρ μ es ms.toList
  | .typed e vs, o, (δ, m) => ∃ c, o = some (.cells c e (0, 0)) ∧ (δ = 0 ∧ c.size = vs.length) ∧ δ + m ≤ c.size ∧ ∀ (i : Nat) (a : AVal), vs[i]? = some a → ∃ v, c[δ + i]? = some v ∧ a.single = true ∧ VRel ρ μ a v
  | .bytes n e, o, (δ, m) => ∃ c, o = some (.cells c e (0, 0)) ∧ δ = 0 ∧ 1 ≤ hLen m ∧ hLen m ≤ n ∧ n ≤ 1048576 ∧ hLen m ≤ hCap m ∧ hCap m ≤ c.size ∧ ∀ i, i < hCap m → ∃ x : UInt8, c[i]? = some (.int .u8 x.toNat)
  | .sbytes t e, o, (δ, m) => ∃ c, o = some (.cells c e (0, 0)) ∧ δ = 0 ∧ 1 ≤ hLen m ∧ (hLen m : Int) ≤ t.den ρ ∧ t.den ρ ≤ 1048576 ∧ hLen m ≤ hCap m ∧ hCap m ≤ c.size ∧ ∀ i, i < hCap m → ∃ x : UInt8, c[i]? = some (.int .u8 x.toNat)
  | .list i es, o, (δ, m) => ∃ c e, o = some (.cells c e (0, 0)) ∧ δ = 0 ∧ (ρ.lst i).length ≤ hLen m ∧ hLen m ≤ 1048576 ∧ hLen m ≤ hCap m ∧ hCap m * es ≤ c.size ∧ RepLL μ.ice es c 0 (ρ.lst i)
  | .smap i, o, δ => δ = (0, 0) ∧ ∃ (ms : Array MapEntry) (clock : Nat), o = some (.map ms clock) ∧ MRel μ.ice (ρ.map i) ms.toList

/-- the abstract block that owns block `r` -/
def Owned (h : Heap) (r : Nat) : Prop := ∃ b B δ, h.get b = some B ∧ μ b = some (r, δ)

/-- memory that nothing changes is as it is known; the facts hold -/
structure Firm (h : Heap) (w : World) : Prop where
  tabs : ∀ g o, ρ.tabs g = some o → w.heap[g]? = some o ∧ ¬ Owned μ h g
  ice : ∀ g o, μ.ice g = some o → w.heap[g]? = some o ∧ ¬ Owned μ h g
  facts : h.fx.Hold ρ

structure HRel (h : Heap) (w : World) : Prop where
  fresh : ∀ b, h.next ≤ b → μ b = none
  blk : ∀ b B, h.get b = some B → ∃ r δ, μ b = some (r, δ) ∧ BRel ρ μ B w.heap[r]? δ
  inj : ∀ b b' B B' r δ δ', h.get b = some B → h.get b' = some B' → μ b = some (r, δ) → μ b' = some (r, δ') → b = b'
  tabs : Firm ρ μ h w
end

section
variable {ρ : Env} {μ μ' : Where}

theorem ERel.mono (h : μ.le μ') {e : Entry} {m : MapEntry} (x : ERel ρ μ e m) : ERel ρ μ' e m := ⟨x.1, x.2.1.mono h, x.2.2.1.mono h, x.2.2.2⟩

theorem EsRel.mono (h : μ.le μ') : ∀ {es : List Entry} {ms : List MapEntry}, EsRel ρ μ es ms → EsRel ρ μ' es ms
  | [], _, e => e
  | _ :: _, _, e => let ⟨m, rest, e1, e2, e3⟩ := e; ⟨m, rest, e1, e2.mono h, EsRel.mono h e3⟩

theorem BRel.mono (h : μ.le μ') {B : Block} {o : Option Obj} {δ : Nat × Nat} (x : BRel ρ μ B o δ) : BRel ρ μ' B o δ := by
  cases B with
  | cells vs =>
    obtain ⟨c, e, ho, hm, hc⟩ := x
    exact ⟨c, e, ho, hm, fun i a ha => let ⟨v, h1, h2, h3⟩ := hc i a ha; ⟨v, h1, h2, h3.mono h⟩⟩
  | map es clock =>
    obtain ⟨hδ, ms, ho, he⟩ := x
    exact ⟨hδ, ms, ho, he.mono h⟩
  | typed t vs =>
    obtain ⟨c, ho, hs, hm, hc⟩ := x
    exact ⟨c, ho, hs, hm, fun i a ha => let ⟨v, h1, h2, h3⟩ := hc i a ha; ⟨v, h1, h2, h3.mono h⟩⟩
  | bytes n t => exact x
  | sbytes n t => exact x
  | list i es => obtain ⟨c, e, x1, x2, x3, x4, x5, x6, x7⟩ := x; exact ⟨c, e, x1, x2, x3, x4, x5, x6, RepLL.mono h.ice x7⟩
  | smap i => obtain ⟨hδ, ms, c, x1, x2⟩ := x; exact ⟨hδ, ms, c, x1, MRel.mono h.ice x2⟩

theorem BRel.some {B : Block} {o : Option Obj} {δ : Nat × Nat} (x : BRel ρ μ B o δ) : ∃ x, o = some x := by
  cases B with
  | cells vs => obtain ⟨c, e, ho, _⟩ := x; exact ⟨_, ho⟩
  | map es clock => obtain ⟨_, ms, ho, _⟩ := x; exact ⟨_, ho⟩
  | typed t vs => obtain ⟨c, ho, _⟩ := x; exact ⟨_, ho⟩
  | bytes n t => obtain ⟨c, ho, _⟩ := x; exact ⟨_, ho⟩
  | sbytes n t => obtain ⟨c, ho, _⟩ := x; exact ⟨_, ho⟩
  | list i es => obtain ⟨c, e, ho, _⟩ := x; exact ⟨_, ho⟩
  | smap i => obtain ⟨_, ms, c, ho, _⟩ := x; exact ⟨_, ho⟩

theorem HRel.lt {h : Heap} {w : World} (H : HRel ρ μ h w) {b : Nat} {B : Block} {r : Nat} {δ : Nat × Nat} (hb : h.get b = some B) (hm : μ b = some (r, δ)) : r < w.heap.size := by
  obtain ⟨r', δ', hm', hB⟩ := H.blk b B hb
  rw [hm] at hm'
  simp only [Option.some.injEq, Prod.mk.injEq] at hm'
  obtain ⟨rfl, rfl⟩ := hm'
  obtain ⟨x, hx⟩ := hB.some
  rcases Nat.lt_or_ge r w.heap.size with h' | h'
  · exact h'
  · simp [Array.getElem?_eq_none h'] at hx

theorem HRel.next_lt {h : Heap} {w : World} (H : HRel ρ μ h w) {b : Nat} {B : Block} (hb : h.get b = some B) : b < h.next := by
  obtain ⟨r, δ, hm, _⟩ := H.blk b B hb
  rcases Nat.lt_or_ge b h.next with h' | h'
  · exact h'
  · rw [H.fresh b h'] at hm; cases hm
end

/-- what a piece of a run does to memory: tables grow, blocks that are not owned stay as they are and are not owned afterwards -/
structure Grows (ρ : Env) (μ : Where) (h : Heap) (w : World) (μ' : Where) (h' : Heap) (w' : World) : Prop where
  le : μ.le μ'
  rel : HRel ρ μ' h' w'
  size : w.heap.size ≤ w'.heap.size
  kept : ∀ r, r < w.heap.size → ¬ Owned μ h r → w'.heap[r]? = w.heap[r]? ∧ ¬ Owned μ' h' r
  os : w'.os = w.os
  output : w'.output = w.output
  next : h.next ≤ h'.next
  old : ∀ b, b < h.next → μ' b = μ b
  icy : ∀ g o, μ'.ice g = some o → μ.ice g = some o ∨ Owned μ h g ∨ w.heap.size ≤ g
  fx : h'.fx = h.fx

theorem Grows.refl {ρ : Env} {μ : Where} {h : Heap} {w : World} (H : HRel ρ μ h w) : Grows ρ μ h w μ h w :=
  ⟨μ.le_refl, H, Nat.le_refl _, fun _ _ h => ⟨rfl, h⟩, rfl, rfl, Nat.le_refl _, fun _ _ => rfl, fun _ _ h => .inl h, rfl⟩

theorem Grows.trans {ρ : Env} {μ μ' μ'' : Where} {h h' h'' : Heap} {w w' w'' : World} (g : Grows ρ μ h w μ' h' w') (g' : Grows ρ μ' h' w' μ'' h'' w'') :
    Grows ρ μ h w μ'' h'' w'' where
  le := Where.le_trans g.le g'.le
  rel := g'.rel
  size := Nat.le_trans g.size g'.size
  kept := fun r hr ho => by
    obtain ⟨e, ho'⟩ := g.kept r hr ho
    obtain ⟨e', ho''⟩ := g'.kept r (Nat.lt_of_lt_of_le hr g.size) ho'
    exact ⟨e'.trans e, ho''⟩
  os := g'.os.trans g.os
  output := g'.output.trans g.output
  next := Nat.le_trans g.next g'.next
  old := fun b hb => (g'.old b (Nat.lt_of_lt_of_le hb g.next)).trans (g.old b hb)
  icy := fun k o hk => by
    rcases g'.icy k o hk with h1 | h1 | h1
    · exact g.icy k o h1
    · rcases Nat.lt_or_ge k w.heap.size with hlt | hge
      · by_cases ho : Owned μ h k
        · exact .inr (.inl ho)
        · exact absurd h1 (g.kept k hlt ho).2
      · exact .inr (.inr hge)
    · exact .inr (.inr (Nat.le_trans g.size h1))
  fx := g'.fx.trans g.fx

/-- a draw changes nothing -/
theorem HRel.drew {ρ : Env} {μ : Where} {h : Heap} {w : World} (H : HRel ρ μ h w) : HRel ρ μ h { w with drawn := w.drawn + 1 } := ⟨H.fresh, H.blk, H.inj, ⟨H.tabs.tabs, H.tabs.ice, H.tabs.facts⟩⟩

theorem Firm.of {ρ : Env} {μ μ' : Where} {h h' : Heap} {w w' : World} (F : Firm ρ μ h w) (hk : ∀ r, r < w.heap.size → ¬ Owned μ h r → w'.heap[r]? = w.heap[r]? ∧ ¬ Owned μ' h' r) (hi : μ'.ice = μ.ice) (hx : h'.fx = h.fx) : Firm ρ μ' h' w' := by
  have key : ∀ g (o : Obj), w.heap[g]? = some o ∧ ¬ Owned μ h g → w'.heap[g]? = some o ∧ ¬ Owned μ' h' g := fun g o ⟨h1, h2⟩ => by
    obtain ⟨h3, h4⟩ := hk g (Array.getElem?_eq_some_iff.1 h1).1 h2
    exact ⟨h3.trans h1, h4⟩
  exact ⟨fun g o hg => key g o (F.tabs g o hg), fun g o hg => key g o (F.ice g o (hi ▸ hg)), hx ▸ F.facts⟩

theorem HRel.tabs_of {ρ : Env} {μ μ' : Where} {h h' : Heap} {w w' : World} (H : HRel ρ μ h w) (hk : ∀ r, r < w.heap.size → ¬ Owned μ h r → w'.heap[r]? = w.heap[r]? ∧ ¬ Owned μ' h' r) (hi : μ'.ice = μ.ice := by rfl) (hx : h'.fx = h.fx := by rfl) :
    Firm ρ μ' h' w' := H.tabs.of hk hi hx

theorem Grows.drew {ρ : Env} {μ : Where} {h : Heap} {w : World} (H : HRel ρ μ h w) : Grows ρ μ h w μ h { w with drawn := w.drawn + 1 } :=
  ⟨μ.le_refl, H.drew, Nat.le_refl _, fun _ _ h => ⟨rfl, h⟩, rfl, rfl, Nat.le_refl _, fun _ _ => rfl, fun _ _ h => .inl h, rfl⟩

/-! ### A new block -/

def Where.put (μ : Where) (b : Nat) (x : Spot) : Where := ⟨fun c => if c = b then some x else μ c, μ.ice⟩

theorem Where.le_put {μ : Where} {b : Nat} {x : Spot} (h : μ b = Option.none) : μ.le (μ.put b x) := ⟨fun c y e => by
  simp only [Where.put]
  by_cases hc : c = b
  · subst hc; rw [h] at e; cases e
  · rw [if_neg hc]; exact e, fun _ _ e => e⟩

theorem Where.put_same (μ : Where) (b : Nat) (x : Spot) : μ.put b x b = some x := by simp [Where.put]
theorem Where.put_other (μ : Where) {b c : Nat} (x : Spot) (h : c ≠ b) : μ.put b x c = μ c := by simp [Where.put, h]

theorem Heap.get_set (h : Heap) (b c : Nat) (o : Option Block) : (h.set b o).get c = if c = b then o else h.get c := Tr.get_set _ _ _ _
theorem Heap.get_add (h : Heap) (c : Nat) (B : Block) : (h.add B).get c = if c = h.next then some B else h.get c := Tr.get_set _ _ _ _
theorem Heap.next_set (h : Heap) (b : Nat) (o : Option Block) : (h.set b o).next = h.next := rfl
theorem Heap.next_add (h : Heap) (B : Block) : (h.add B).next = h.next + 1 := rfl

theorem World.heap_alloc_lt (w : World) (o : Obj) {r : Nat} (hr : r < w.heap.size) : (w.alloc o).heap[r]? = w.heap[r]? := by
  show (w.heap.push o)[r]? = _
  rw [Array.getElem?_push, if_neg (by omega)]

theorem World.heap_alloc_new (w : World) (o : Obj) : (w.alloc o).heap[w.heap.size]? = some o := by
  show (w.heap.push o)[w.heap.size]? = _
  simp

/-- a new block, known from its beginning on -/
theorem Grows.add {ρ : Env} {μ : Where} {h : Heap} {w : World} (H : HRel ρ μ h w) (B : Block) (o : Obj) (δ : Nat × Nat)
    (hB : ∀ μ' : Where, μ.le μ' → BRel ρ μ' B (some o) δ) : Grows ρ μ h w (μ.put h.next (w.heap.size, δ)) (h.add B) (w.alloc o) := by
  have hle : μ.le (μ.put h.next (w.heap.size, δ)) := Where.le_put (H.fresh _ (Nat.le_refl _))
  have hat : ∀ b B' r δ', (h.add B).get b = some B' → μ.put h.next (w.heap.size, δ) b = some (r, δ') → (b = h.next ∧ r = w.heap.size) ∨ (h.get b = some B' ∧ μ b = some (r, δ') ∧ r < w.heap.size) := fun b B' r δ' hb hm => by
    rw [Heap.get_add] at hb
    by_cases e : b = h.next
    · subst e
      rw [Where.put_same] at hm
      simp only [Option.some.injEq, Prod.mk.injEq] at hm
      exact .inl ⟨rfl, hm.1.symm⟩
    · rw [if_neg e] at hb
      rw [Where.put_other _ _ e] at hm
      exact .inr ⟨hb, hm, H.lt hb hm⟩
  have hkept : ∀ r, r < w.heap.size → ¬ Owned μ h r → (w.alloc o).heap[r]? = w.heap[r]? ∧ ¬ Owned (μ.put h.next (w.heap.size, δ)) (h.add B) r := fun r hr ho => ⟨World.heap_alloc_lt _ _ hr, by
    rintro ⟨b, B', δ', hb, hm⟩
    rcases hat _ _ _ _ hb hm with ⟨_, e⟩ | ⟨g, n, _⟩
    · omega
    · exact ho ⟨b, B', δ', g, n⟩⟩
  refine ⟨hle, ⟨fun b hb => ?_, fun b B' hb => ?_, fun b b' B1 B2 r δ1 δ2 h1 h2 m1 m2 => ?_, H.tabs_of hkept⟩, ?_, hkept, rfl, rfl, Nat.le_succ _, fun b hb => Where.put_other _ _ (by omega), fun _ _ h => .inl h, rfl⟩
  · rw [Heap.next_add] at hb
    rw [Where.put_other _ _ (by omega)]
    exact H.fresh b (by omega)
  · rw [Heap.get_add] at hb
    by_cases e : b = h.next
    · subst e
      rw [if_pos rfl] at hb
      simp only [Option.some.injEq] at hb
      subst hb
      exact ⟨_, _, Where.put_same _ _ _, by rw [World.heap_alloc_new]; exact hB _ hle⟩
    · rw [if_neg e] at hb
      obtain ⟨r, δ', hm, hr⟩ := H.blk b B' hb
      exact ⟨r, δ', by rw [Where.put_other _ _ e]; exact hm, by rw [World.heap_alloc_lt _ _ (H.lt hb hm)]; exact hr.mono hle⟩
  · rcases hat _ _ _ _ h1 m1 with ⟨e1, e2⟩ | ⟨g1, n1, l1⟩ <;> rcases hat _ _ _ _ h2 m2 with ⟨e3, e4⟩ | ⟨g2, n2, l2⟩
    · rw [e1, e3]
    · omega
    · omega
    · exact H.inj _ _ _ _ _ _ _ g1 g2 n1 n2
  · show w.heap.size ≤ (w.heap.push o).size; simp

/-! ### A block that is forgotten; a block that changes in place -/

theorem HRel.drop {ρ : Env} {μ : Where} {h : Heap} {w : World} (H : HRel ρ μ h w) (h' : Heap) (hn : h'.next = h.next) (hfx : h'.fx = h.fx) (hs : ∀ b B, h'.get b = some B → h.get b = some B) : HRel ρ μ h' w :=
  ⟨fun b hb => H.fresh b (hn ▸ hb), fun b B hb => H.blk b B (hs b B hb), fun _ _ _ _ _ _ _ h1 h2 m1 m2 => H.inj _ _ _ _ _ _ _ (hs _ _ h1) (hs _ _ h2) m1 m2,
    H.tabs_of (fun _ _ ho => ⟨rfl, fun ⟨c, B, δ, hc, hm⟩ => ho ⟨c, B, δ, hs c B hc, hm⟩⟩) rfl hfx⟩

/-- the world's block `r`, which `b` owns, holds something else -/
theorem Grows.change {ρ : Env} {μ : Where} {h : Heap} {w w' : World} (H : HRel ρ μ h w) {b : Nat} {B0 : Block} {r : Nat} {δ : Nat × Nat} (hb : h.get b = some B0) (hm : μ b = some (r, δ)) (B : Block)
    (hw : ∀ i, i ≠ r → w'.heap[i]? = w.heap[i]?) (hsz : w'.heap.size = w.heap.size) (hos : w'.os = w.os) (hout : w'.output = w.output) (hB : BRel ρ μ B w'.heap[r]? δ) : Grows ρ μ h w μ (h.set b (some B)) w' := by
  have hkept : ∀ s, s < w.heap.size → ¬ Owned μ h s → w'.heap[s]? = w.heap[s]? ∧ ¬ Owned μ (h.set b (some B)) s := fun s hs ho => by
    have hne : s ≠ r := fun e => ho ⟨b, B0, δ, hb, e ▸ hm⟩
    refine ⟨hw s hne, ?_⟩
    rintro ⟨c, B', δ', hc, hm'⟩
    rw [Heap.get_set] at hc
    by_cases e : c = b
    · subst e
      rw [hm] at hm'
      simp only [Option.some.injEq, Prod.mk.injEq] at hm'
      exact hne hm'.1.symm
    · rw [if_neg e] at hc
      exact ho ⟨c, B', δ', hc, hm'⟩
  refine ⟨μ.le_refl, ⟨fun c hc => H.fresh c hc, fun c B' hc => ?_, fun c c' B1 B2 s δ1 δ2 h1 h2 m1 m2 => ?_, H.tabs_of hkept⟩, by omega, hkept, hos, hout, Nat.le_refl _, fun _ _ => rfl, fun _ _ h => .inl h, rfl⟩
  · rw [Heap.get_set] at hc
    by_cases e : c = b
    · subst e
      rw [if_pos rfl] at hc
      simp only [Option.some.injEq] at hc
      subst hc
      exact ⟨r, δ, hm, hB⟩
    · rw [if_neg e] at hc
      obtain ⟨s, δ', hm', hr⟩ := H.blk c B' hc
      refine ⟨s, δ', hm', ?_⟩
      rw [hw s (fun es => e (H.inj _ _ _ _ _ _ _ hc hb hm' (es ▸ hm)))]
      exact hr
  · have hh : ∀ c B', (h.set b (some B)).get c = some B' → ∃ B'', h.get c = some B'' := fun c B' hc => by
      rw [Heap.get_set] at hc
      by_cases e : c = b
      · exact ⟨B0, e ▸ hb⟩
      · rw [if_neg e] at hc; exact ⟨B', hc⟩
    obtain ⟨_, g1⟩ := hh _ _ h1
    obtain ⟨_, g2⟩ := hh _ _ h2
    exact H.inj _ _ _ _ _ _ _ g1 g2 m1 m2

end Go.AM
