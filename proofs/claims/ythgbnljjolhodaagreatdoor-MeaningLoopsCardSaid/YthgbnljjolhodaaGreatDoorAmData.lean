/- Data in memory that nothing changes: how it is read, how it is made out of what is known. -/
import Derived.Test.YthgbnljjolhodaaGreatDoorAmRead
set_option linter.all false
namespace Go.AM

section
variable {ρ : Env} {μ : Where} {ice : Nat → Option Obj} {a b : Array Value}

theorem RepL.congr : ∀ {ps : List PV} {δ δ' : Nat}, (∀ i, i < ps.length → b[δ' + i]? = a[δ + i]?) → RepL ice a δ ps → RepL ice b δ' ps
  | [], _, _, _, _ => by simp only [RepL]
  | p :: ps, δ, δ', h, e => by
    simp only [RepL] at e ⊢
    obtain ⟨⟨u, e1, e2⟩, e3⟩ := e
    refine ⟨⟨u, ?_, e2⟩, RepL.congr (δ := δ + 1) (fun i hi => ?_) e3⟩
    · have := h 0 (by simp)
      simpa [e1] using this
    · have := h (i + 1) (by simp; omega)
      rw [show δ' + 1 + i = δ' + (i + 1) by omega, this, show δ + 1 + i = δ + (i + 1) by omega]

/-- the values that data is, one behind the other -/
theorem RepL.values : ∀ {ps : List PV} {δ : Nat}, RepL ice a δ ps → ∃ l : List Value, l.length = ps.length ∧ (∀ j v, l[j]? = some v → a[δ + j]? = some v) ∧ ∀ j, j < ps.length → a[δ + j]? = l[j]?
  | [], δ, _ => ⟨[], rfl, fun j v h => by simp at h, fun j h => by simp at h⟩
  | p :: ps, δ, e => by
    simp only [RepL] at e
    obtain ⟨⟨u, e1, e2⟩, e3⟩ := e
    obtain ⟨l, h1, h2, h3⟩ := RepL.values e3
    refine ⟨u :: l, by simp [h1], fun j v h => ?_, fun j h => ?_⟩
    · cases j with
      | zero => simp only [List.getElem?_cons_zero, Option.some.injEq] at h; subst h; exact e1
      | succ j => rw [show δ + (j + 1) = δ + 1 + j by omega]; exact h2 j v (by simpa using h)
    · cases j with
      | zero => simpa using e1
      | succ j =>
        rw [show δ + (j + 1) = δ + 1 + j by omega, h3 j (by simp at h; omega)]
        simp

/-- what is known of a value, as data -/
theorem VRel.freeze {x : AVal} {p : PV} {v : Value} (hd : FDen ρ (loose x) p) (h : VRel ρ μ x v) : Rep μ.ice p v := by
  cases x <;> simp only [loose, FDen, ADen] at hd
  case nilSlice =>
    obtain ⟨es, rfl⟩ := hd
    have e : v = .slice none 0 0 := by simpa only [VRel] using h
    simp only [Rep]
    exact ⟨0, Nat.le_refl _, .inl ⟨trivial, none, e⟩⟩
  case bool | int | nilPtr => subst hd; simp only [Rep]; simpa only [VRel] using h
  case str => subst hd; simp only [Rep]; exact h.str
  case svar => subst hd; simp only [Rep]; exact h.svar
  case lst f i es n =>
    obtain ⟨_, rfl, _⟩ := hd
    exact h.lst.1

theorem CsRel.freeze : ∀ {xs : List AVal} {vs : List Value} {ps : List PV} {δ : Nat}, FDens ρ (looseL xs) ps → CsRel ρ μ xs vs → (∀ i v, vs[i]? = some v → a[δ + i]? = some v) → RepL μ.ice a δ ps
  | [], vs, ps, δ, hd, h, ha => by
    have hd : ps = [] := hd
    subst hd
    simp only [RepL]
  | x :: xs, vs, ps, δ, hd, h, ha => by
    have hd : ∃ p rest, ps = p :: rest ∧ FDen ρ (loose x) p ∧ FDens ρ (looseL xs) rest := hd
    obtain ⟨p, rest, rfl, h1, h2⟩ := hd
    simp only [CsRel] at h
    obtain ⟨v, vs', rfl, ⟨_, h3⟩, h4⟩ := h
    simp only [RepL]
    refine ⟨⟨v, by simpa using ha 0 v rfl, h3.freeze h1⟩, CsRel.freeze h2 h4 fun i u hu => ?_⟩
    rw [show δ + 1 + i = δ + (i + 1) by omega]
    exact ha (i + 1) u (by simpa using hu)

theorem FDens.length : ∀ {xs : List AVal} {ps : List PV}, FDens ρ xs ps → xs.length = ps.length
  | [], ps, h => by have h : ps = [] := h; subst h; rfl
  | x :: xs, ps, h => by
    have h : ∃ p rest, ps = p :: rest ∧ FDen ρ x p ∧ FDens ρ xs rest := h
    obtain ⟨p, rest, rfl, _, h2⟩ := h
    simp [FDens.length h2]

theorem FDens.append : ∀ {xs ys : List AVal} {ps qs : List PV}, FDens ρ xs ps → FDens ρ ys qs → FDens ρ (xs ++ ys) (ps ++ qs)
  | [], ys, ps, qs, h, h' => by have h : ps = [] := h; subst h; exact h'
  | x :: xs, ys, ps, qs, h, h' => by
    have h : ∃ p rest, ps = p :: rest ∧ FDen ρ x p ∧ FDens ρ xs rest := h
    obtain ⟨p, rest, rfl, h1, h2⟩ := h
    exact ⟨p, rest ++ qs, rfl, h1, FDens.append h2 h'⟩

theorem FDenss.flat : ∀ {xs : List (List AVal)} {ps : List (List PV)}, FDenss ρ xs ps → FDens ρ xs.flatten ps.flatten ∧ xs.length = ps.length ∧ ∀ n, (∀ x ∈ xs, x.length = n) → ∀ p ∈ ps, p.length = n
  | [], ps, h => by have h : ps = [] := h; subst h; exact ⟨rfl, rfl, fun _ _ _ hp => by cases hp⟩
  | x :: xs, ps, h => by
    have h : ∃ p rest, ps = p :: rest ∧ FDens ρ x p ∧ FDenss ρ xs rest := h
    obtain ⟨p, rest, rfl, h1, h2⟩ := h
    obtain ⟨k1, k2, k3⟩ := FDenss.flat h2
    refine ⟨?_, by simp [k2], fun n hn q hq => ?_⟩
    · rw [List.flatten_cons, List.flatten_cons]; exact h1.append k1
    · rcases List.mem_cons.1 hq with rfl | hq
      · rw [← h1.length]; exact hn x List.mem_cons_self
      · exact k3 n (fun y hy => hn y (List.mem_cons_of_mem _ hy)) q hq

theorem looseL_length : ∀ {l : List AVal}, (looseL l).length = l.length
  | [] => rfl
  | v :: r => by show (looseL r).length + 1 = _; rw [looseL_length]; rfl

theorem chunkA_zero (size : Nat) (cs : List AVal) : chunkA size 0 cs = match cs with | [] => some [] | _ :: _ => none := by cases cs <;> rfl
theorem chunkA_succ (size n : Nat) (cs : List AVal) : chunkA size (n + 1) cs = bnd (taken size cs) fun c => bnd (chunkA size n (dropped size cs)) fun r => some (c :: r) := rfl

theorem chunkA_spec {size : Nat} : ∀ {n : Nat} {cs : List AVal} {es : List (List AVal)}, chunkA size n cs = some es → es.flatten = cs ∧ es.length = n ∧ ∀ x ∈ es, x.length = size
  | 0, cs, es, h => by
    rw [chunkA_zero] at h
    split at h
    · simp only [Option.some.injEq] at h; subst h; exact ⟨rfl, rfl, fun _ h => by cases h⟩
    · cases h
  | n + 1, cs, es, h => by
    rw [chunkA_succ] at h
    obtain ⟨c, hc, h⟩ := bnd_some h
    obtain ⟨r, hr, h⟩ := bnd_some h
    simp only [Option.some.injEq] at h
    subst h
    obtain ⟨k1, k2, k3⟩ := chunkA_spec hr
    obtain ⟨e1, e2⟩ := taken_spec hc
    refine ⟨?_, by simp [k2], fun x hx => ?_⟩
    · rw [List.flatten_cons, k1, e1, dropped_eq]; exact List.take_append_drop _ _
    · rcases List.mem_cons.1 hx with rfl | hx
      · rw [e1, List.length_take]; omega
      · exact k3 x hx

theorem gatherA_zero (Γ : Facts) (i es k : Nat) : gatherA Γ i es 0 k = some [] := rfl
theorem gatherA_succ (Γ : Facts) (i es n k : Nat) : gatherA Γ i es (n + 1) k = bnd (lookE i (.lit (.ofNat k)) Γ.elems) fun cs => bif Nat.beq (llen cs) es then bnd (gatherA Γ i es n (k + 1)) fun r => some (cs ++ r) else none := rfl

theorem gather_sound {Γ : Facts} (hΓ : Γ.Hold ρ) {i es : Nat} {l : List (List PV)} (hl : ρ.lst i = l) {δ : Nat} (hr : RepLL μ.ice es a δ l) : ∀ {n k : Nat} {cs : List AVal}, gatherA Γ i es n k = some cs → k + n ≤ l.length →
    cs.length = n * es ∧ ∀ j x, cs[j]? = some x → ∃ v, a[δ + k * es + j]? = some v ∧ x.single = true ∧ VRel ρ μ x v
  | 0, k, cs, h, hk => by
    rw [gatherA_zero] at h
    simp only [Option.some.injEq] at h
    subst h
    exact ⟨by simp, fun j x h => by simp at h⟩
  | n + 1, k, cs, h, hk => by
    rw [gatherA_succ] at h
    obtain ⟨c, hc, h⟩ := bnd_some h
    obtain ⟨hlen, h⟩ := cond_some h
    obtain ⟨r, hr', h⟩ := bnd_some h
    simp only [Option.some.injEq] at h
    subst h
    have hlen := nbeq_iff.1 hlen
    rw [llen_eq] at hlen
    obtain ⟨k1, k2⟩ := gather_sound hΓ hl hr hr' (by omega)
    obtain ⟨ps, _, e2, e3⟩ := hΓ.elems _ (lookE_mem hc)
    have e2 : (ρ.lst i)[k]? = some ps := e2
    rw [hl] at e2
    obtain ⟨q1, q2⟩ := hr.get k ps e2
    obtain ⟨t1, t2⟩ := RepL.thaw e3 q2
    refine ⟨by rw [List.length_append, k1, hlen, Nat.add_mul]; omega, fun j x hx => ?_⟩
    by_cases hj : j < c.length
    · rw [List.getElem?_append_left hj] at hx
      exact t2 j x hx
    · rw [List.getElem?_append_right (by omega)] at hx
      obtain ⟨v, hv, hs⟩ := k2 _ x hx
      refine ⟨v, ?_, hs⟩
      rw [← hv, hlen]
      congr 1
      rw [Nat.add_mul]; rw [hlen] at hj; omega

theorem taken_all : ∀ (l : List AVal), taken l.length l = some l
  | [] => rfl
  | x :: l => by show (bnd (taken l.length l) fun r => some (x :: r)) = _; rw [taken_all l]; rfl

theorem cut_all (l : List AVal) : cut l 0 l.length = some l := taken_all l
end

section
variable {P : Program} {ρ : Env} {μ : Where} {w : World} {h : Heap}

/-- the elements of a list in memory, for what copies them -/
theorem lst_cells (H : HRel ρ μ h w) {f : Bool} {i es size n : Nat} {t : ST} {u : Value} {cs : List AVal} (hx : VRel ρ μ (.lst f i es t) u) (hs : srcG h.fx size i es t = some (n, cs)) :
    cs.length = n * size ∧ ((n = 0 ∧ cs = [] ∧ ∃ p c, u = .slice p 0 c) ∨ ∃ r δ c a e, u = .slice (some ⟨r, δ, none⟩) n c ∧ w.heap[r]? = some (.cells a e (0, 0)) ∧ ∀ j x, cs[j]? = some x → ∃ v, a[δ + j]? = some v ∧ x.single = true ∧ VRel ρ μ x v) := by
  unfold srcG at hs
  split at hs
  · rename_i m
    obtain ⟨hc, hs⟩ := cond_some hs
    obtain ⟨cs', hg, hs⟩ := bnd_some hs
    simp only [Option.some.injEq, Prod.mk.injEq] at hs
    obtain ⟨rfl, rfl⟩ := hs
    have hc := nbeq_iff.1 hc
    subst hc
    obtain ⟨p, c, e1, _, e3, e4⟩ := hx.lst_slice
    have e3 : (m : Int) = ((ρ.lst i).length : Int) := e3
    have hm : (ρ.lst i).length = m := by omega
    by_cases h0 : m = 0
    · subst h0
      rw [gatherA_zero] at hg
      simp only [Option.some.injEq] at hg
      subst hg
      exact ⟨by simp, .inl ⟨rfl, rfl, p, c, by rw [e1, hm]⟩⟩
    · obtain ⟨r, δ, a, e, rfl, k1, k2⟩ := e4 (by omega)
      obtain ⟨q1, q2⟩ := gather_sound H.tabs.facts rfl k2 hg (by omega)
      refine ⟨q1, .inr ⟨r, δ, c, a, e, by rw [e1, hm], (H.tabs.ice _ _ k1).1, fun j x hj => ?_⟩⟩
      have := q2 j x hj
      simpa using this
  · cases hs

/-- what an append behind a list variable's elements leads to -/
theorem appendL_spec {Γ : Heap} {size n : Nat} {part : LPart} {new : List AVal} {r : ST × Block} (hΓ : Γ.fx.Hold ρ) (hr : appendL Γ size part n new = some r) :
    ∃ (j : Nat) (A B : List (List PV)), r.2 = .list j size ∧ r.1.den ρ = ((ρ.lst j).length : Int) ∧ (ρ.lst j).length ≤ 1048576 ∧ ρ.lst j = A ++ B ∧ PartDen ρ part A ∧ B.length = n ∧ (∀ p ∈ B, p.length = size) ∧ FDens ρ (looseL new) B.flatten := by
  unfold appendL at hr
  obtain ⟨_, hr⟩ := cond_some hr
  obtain ⟨es, hes, hr⟩ := bnd_some hr
  obtain ⟨j, hj, hr⟩ := bnd_some hr
  obtain ⟨t, ht, hr⟩ := bnd_some hr
  obtain ⟨hb, hr⟩ := cond_some hr
  simp only [Option.some.injEq] at hr
  subst hr
  obtain ⟨c1, c2, c3⟩ := chunkA_spec hes
  obtain ⟨A, B', e1, e2, B, C, e3, e4, e5⟩ := hΓ.defs _ (lookD_mem hj)
  have e5 : C = [] := e5
  subst e5
  rw [List.append_nil] at e3
  subst e3
  obtain ⟨f1, f2, f3⟩ := FDenss.flat e4
  have hl := hΓ.llen _ (lookLen_mem ht)
  have hl : t.den ρ = ((ρ.lst j).length : Int) := hl
  have hb := knownT_leq hΓ hb
  have hb : t.den ρ ≤ 1048576 := hb
  exact ⟨j, A, B', rfl, hl, by omega, e1, e2, by omega, f3 size c3, by rw [c1] at f1; exact f1⟩
end
end Go.AM
