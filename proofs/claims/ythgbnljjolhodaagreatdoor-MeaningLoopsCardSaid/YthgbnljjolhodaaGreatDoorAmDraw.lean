/- Regions that draw their order: what comes up early gives what it gives in the machine's own order. -/
import Derived.Test.YthgbnljjolhodaaGreatDoorAmCong
set_option linter.all false
namespace Go.AM

/-- a step of a region, its index; if it has come up early: what it gave -/
structure Item where
  i : Nat
  s : Step
  e : Option (AVal × Option Block)

def Item.pair (x : Item) : Nat × Step := (x.i, x.s)

def extT : List Item → (Nat → Option AVal) → Nat → Option AVal
  | [], g, t => g t
  | x :: r, g, t => match x.e with
    | some u => if x.s.dst = some t then some u.1 else extT r g t
    | none => extT r g t

def extH : List Item → Nat → (Nat → Option Block) → Nat → Option Block
  | [], _, g, b => g b
  | x :: r, id, g, b => match x.e with
    | some (_, some B) => if b = id then some B else extH r (id + 1) g b
    | _ => extH r (id + 1) g b

/-- none that has come up early waits for one that has not come up -/
def Clo (W : Nat → Nat → Bool) : List Item → Prop
  | [] => True
  | x :: r => (x.e = none → ∀ z ∈ r, z.e ≠ none → W x.i z.i = false) ∧ Clo W r

/-- what has come up early gave what it would give in the machine's own order -/
def Futs (Γ : Facts) (call : CallF) : List Item → Nat → Fr → Prop
  | [], _, _ => True
  | x :: r, id, f => (∀ u, x.e = some u → floS Γ f.tm f.h id x.s = some u) ∧
    ((∃ f', stepD Γ call x.s id f = some (.go f') ∧ Futs Γ call r (id + 1) f') ∨ ∀ y ∈ r, y.e = none)

structure Apart (W : Nat → Nat → Bool) (x y : Nat × Step) : Prop where
  ne : x.1 ≠ y.1
  chg : isMut y.2.op = true → W x.1 y.1 = true
  dst : ∀ d, x.2.dst = some d → y.2.dst ≠ some d
  reads : ∀ d, x.2.dst = some d → d ∈ y.2.names → W x.1 y.1 = true
  writes : ∀ d, y.2.dst = some d → d ∈ x.2.names → W x.1 y.1 = true

section
variable {W : Nat → Nat → Bool}

theorem any_beq {l : List Nat} {d : Nat} : l.any (Nat.beq d) = true ↔ d ∈ l := by
  rw [List.any_eq_true]
  constructor
  · rintro ⟨x, hx, e⟩
    rw [nbeq_iff.1 e]; exact hx
  · intro h
    exact ⟨d, h, nbeq_iff.2 rfl⟩

theorem apartD_spec {x y : Nat × Step} (h : apartD W x y = true) : Apart W x y := by
  unfold apartD at h
  rw [Bool.and_eq_true, Bool.and_eq_true, Bool.and_eq_true] at h
  obtain ⟨⟨⟨h1, h2⟩, h3⟩, h4⟩ := h
  refine ⟨fun e => ?_, fun hm => ?_, fun d hd he => ?_, fun d hd hn => ?_, fun d hd hn => ?_⟩
  · rw [nbeq_iff.2 e] at h1; cases h1
  · rw [hm] at h2; simpa using h2
  · rw [hd, he] at h3
    simp only [Bool.and_eq_true] at h3
    rw [nbeq_iff.2 rfl] at h3
    simp at h3
  · rw [hd] at h3
    simp only [Bool.and_eq_true, Bool.or_eq_true] at h3
    rcases h3.2 with h | h
    · rw [any_beq.2 hn] at h; cases h
    · exact h
  · rw [hd] at h4
    simp only [Bool.or_eq_true] at h4
    rcases h4 with h | h
    · rw [any_beq.2 hn] at h; cases h
    · exact h

structure OkD (W : Nat → Nat → Bool) (x : Nat × Step) (r : List (Nat × Step)) : Prop where
  self : ∀ d, x.2.dst = some d → d ∉ x.2.names
  apart : ∀ y ∈ r, Apart W x y
  back : isMut x.2.op = true → backD W x.1 r 0 = true
  rest : okD W r = true

theorem okD_cons {x : Nat × Step} {r : List (Nat × Step)} (h : okD W (x :: r) = true) : OkD W x r := by
  simp only [okD, Bool.and_eq_true] at h
  obtain ⟨h1, h2, h3, h4⟩ := h
  refine ⟨fun d hd hn => ?_, fun y hy => apartD_spec (List.all_eq_true.1 h2 y hy), fun hm => ?_, h4⟩
  · unfold selfD at h1
    rw [hd] at h1
    simp only at h1
    rw [any_beq.2 hn] at h1
    cases h1
  · rw [hm] at h3; simpa using h3

/-- how many of these change memory -/
def muts (l : List (Nat × Step)) : Nat := l.countP fun x => isMut x.2.op

theorem backD_spec {x : Nat} : ∀ {pre post : List (Nat × Step)} {y : Nat × Step} {k : Nat}, backD W x (pre ++ y :: post) k = true → isMut y.2.op = false → W x y.1 = false → k + muts pre < y.2.back
  | [], post, y, k, h, hm, hw => by
    simp only [List.nil_append, backD, hm, Bool.false_eq_true, if_false, Bool.and_eq_true, Bool.or_eq_true, hw, or_false] at h
    have := ble_iff.1 h.1
    simp only [muts, List.countP_nil]
    omega
  | z :: pre, post, y, k, h, hm, hw => by
    simp only [List.cons_append, backD] at h
    cases hz : isMut z.2.op with
    | true =>
      rw [hz] at h
      simp only [if_true] at h
      have := backD_spec h hm hw
      simp only [muts, List.countP_cons, hz, if_true] at this ⊢
      omega
    | false =>
      rw [hz] at h
      simp only [Bool.false_eq_true, if_false, Bool.and_eq_true] at h
      have := backD_spec h.2 hm hw
      simp only [muts, List.countP_cons, hz] at this ⊢
      simpa using this

theorem clearA_cons (s : Step) (r : List Step) (k : Nat) : clearA (s :: r) k = bif isMut s.op then clearA r (k + 1) else Nat.ble s.back k && clearA r k := rfl

theorem clearA_spec : ∀ {pre post : List (Nat × Step)} {y : Nat × Step} {k : Nat}, clearA ((pre ++ y :: post).map (·.2)) k = true → isMut y.2.op = false → y.2.back ≤ k + muts pre
  | [], post, y, k, h, hm => by
    simp only [List.nil_append, List.map_cons, clearA_cons, hm, cond_false, Bool.and_eq_true] at h
    have := ble_iff.1 h.1
    simp only [muts, List.countP_nil]
    omega
  | z :: pre, post, y, k, h, hm => by
    simp only [List.cons_append, List.map_cons, clearA_cons] at h
    cases hz : isMut z.2.op with
    | true =>
      rw [hz] at h
      simp only [cond_true] at h
      have := clearA_spec h hm
      simp only [muts, List.countP_cons, hz, if_true] at this ⊢
      omega
    | false =>
      rw [hz] at h
      simp only [cond_false, Bool.and_eq_true] at h
      have := clearA_spec h.2 hm
      simp only [muts, List.countP_cons, hz] at this ⊢
      simpa using this
end

/-! ### Lists of items -/

theorem extT_congr : ∀ {r : List Item} {g g' : Nat → Option AVal} {t : Nat}, g t = g' t → extT r g t = extT r g' t
  | [], _, _, _, h => h
  | x :: r, g, g', t, h => by
    simp only [extT]
    cases x.e with
    | none => exact extT_congr h
    | some u =>
      dsimp only
      split
      · rfl
      · exact extT_congr h

/-- no item that came up early writes this temporary -/
theorem extT_none : ∀ {r : List Item} {g : Nat → Option AVal} {t : Nat}, (∀ z ∈ r, z.e ≠ none → z.s.dst ≠ some t) → extT r g t = g t
  | [], _, _, _ => rfl
  | x :: r, g, t, h => by
    simp only [extT]
    have ih := extT_none (g := g) fun z hz => h z (List.mem_cons_of_mem _ hz)
    cases hx : x.e with
    | none => exact ih
    | some u =>
      dsimp only
      rw [if_neg (h x List.mem_cons_self (by rw [hx]; simp))]
      exact ih

theorem putD_get (tm : Tr AVal) (d : Option Nat) (v : AVal) (t : Nat) : (putD tm d v).get t = if d = some t then some v else tm.get t := by
  cases d with
  | none => simp [putD]
  | some d =>
    simp only [putD, Tr.get_set, Option.some.injEq]
    by_cases h : t = d
    · rw [if_pos h, if_pos h.symm]
    · rw [if_neg h, if_neg (Ne.symm h)]

theorem putB_get (h : Heap) (id : Nat) (B : Option Block) (b : Nat) : (putB h id B).get b = match B with | some B => if b = id then some B else h.get b | none => h.get b := by
  cases B with
  | none => rfl
  | some B => exact Tr.get_set _ _ _ _

theorem putB_next (h : Heap) (id : Nat) (B : Option Block) : (putB h id B).next = h.next := by cases B <;> rfl

theorem extH_congr : ∀ {r : List Item} {id : Nat} {g g' : Nat → Option Block} {b : Nat}, g b = g' b → extH r id g b = extH r id g' b
  | [], _, _, _, _, h => h
  | x :: r, id, g, g', b, h => by
    simp only [extH]
    split
    · split
      · rfl
      · exact extH_congr h
    · exact extH_congr h

theorem extH_below : ∀ {r : List Item} {id : Nat} {g : Nat → Option Block} {b : Nat}, b < id → extH r id g b = g b
  | [], _, _, _, _ => rfl
  | x :: r, id, g, b, h => by
    simp only [extH]
    split
    · rw [if_neg (by omega)]
      exact extH_below (by omega)
    · exact extH_below (by omega)

theorem extH_cases : ∀ {r : List Item} {id : Nat} {g : Nat → Option Block} {b : Nat} {B : Block}, extH r id g b = some B → g b = some B ∨ ∃ k x v, r[k]? = some x ∧ x.e = some (v, some B) ∧ b = id + k
  | [], _, _, _, _, h => .inl h
  | x :: r, id, g, b, B, h => by
    simp only [extH] at h
    split at h
    · rename_i v B' hx
      split at h
      · rename_i e
        simp only [Option.some.injEq] at h
        subst h
        exact .inr ⟨0, x, v, rfl, hx, e⟩
      · rcases extH_cases h with h | ⟨k, y, v, h1, h2, h3⟩
        · exact .inl h
        · exact .inr ⟨k + 1, y, v, by simpa using h1, h2, by omega⟩
    · rcases extH_cases h with h | ⟨k, y, v, h1, h2, h3⟩
      · exact .inl h
      · exact .inr ⟨k + 1, y, v, by simpa using h1, h2, by omega⟩

theorem extH_at : ∀ {r : List Item} {id : Nat} {g : Nat → Option Block} {k : Nat} {x : Item} {v : AVal} {B : Block}, r[k]? = some x → x.e = some (v, some B) → extH r id g (id + k) = some B
  | [], _, _, _, _, _, _, h, _ => by simp at h
  | y :: r, id, g, 0, x, v, B, h, hx => by
    simp only [List.getElem?_cons_zero, Option.some.injEq] at h
    subst h
    simp [extH, hx]
  | y :: r, id, g, k + 1, x, v, B, h, hx => by
    have ih := extH_at (id := id + 1) (g := g) (by simpa using h) hx
    rw [show id + 1 + k = id + (k + 1) from by omega] at ih
    simp only [extH]
    split
    · rw [if_neg (by omega)]; exact ih
    · exact ih

theorem extH_other : ∀ {r : List Item} {id : Nat} {g : Nat → Option Block} {b : Nat}, (∀ k x v B, r[k]? = some x → x.e = some (v, some B) → b ≠ id + k) → extH r id g b = g b := fun {r id g b} h => by
  induction r generalizing id with
  | nil => rfl
  | cons x r ih =>
    have ih := ih (id := id + 1) fun k y v B hy he => by
      have := h (k + 1) y v B (by simpa using hy) he
      omega
    simp only [extH]
    split
    · rename_i v B hx
      rw [if_neg (by simpa using h 0 x v B rfl hx)]
      exact ih
    · exact ih

/-! ### One step in the machine's own order -/

section
variable {Γ : Facts} {call : CallF} {all : List Step}

theorem drawA_cons (s : Step) (r : List Step) (id : Nat) (f : Fr) (hs : List Heap) : drawA Γ call all (s :: r) id f hs =
    bif steadyA Γ s f hs then bnd (stepD Γ call s id f) fun x => goesD all r x fun f' => drawA Γ call all r (id + 1) f' (bif isMut s.op then f.h :: hs else hs) else none := rfl

theorem stepD_flo {s : Step} {id : Nat} {f : Fr} (hm : isMut s.op = false) {x : RRes} (h : stepD Γ call s id f = some x) : ∃ u, floS Γ f.tm f.h id s = some u ∧ x = .go ⟨putD f.tm s.dst u.1, putB f.h id u.2, f.df⟩ := by
  unfold stepD at h
  rw [hm] at h
  obtain ⟨u, hu, h⟩ := bnd_some h
  simp only [Option.some.injEq] at h
  exact ⟨u, hu, h.symm⟩

theorem stepD_of_flo {s : Step} {id : Nat} {f : Fr} (hm : isMut s.op = false) {u : AVal × Option Block} (h : floS Γ f.tm f.h id s = some u) : stepD Γ call s id f = some (.go ⟨putD f.tm s.dst u.1, putB f.h id u.2, f.df⟩) := by
  unfold stepD
  rw [hm, h]
  rfl

theorem stepD_mut {s : Step} {id : Nat} {f : Fr} (hm : isMut s.op = true) : stepD Γ call s id f = stepA Γ call s f := by
  unfold stepD
  rw [hm]
  rfl

theorem stepA_tm {s : Step} {f f' : Fr} (h : stepA Γ call s f = some (.go f')) : ∃ v, f'.tm = putD f.tm s.dst v := by
  unfold stepA at h
  obtain ⟨b, hb, h⟩ := bnd_some h
  cases b with
  | false =>
    simp only [cond_false, goOn, Option.some.injEq, RRes.go.injEq] at h
    exact ⟨_, by subst h; rfl⟩
  | true =>
    simp only [cond_true] at h
    unfold runOp at h
    split at h
    · obtain ⟨v, _, h⟩ := bnd_some h
      simp only [goOn, Option.some.injEq, RRes.go.injEq] at h
      exact ⟨_, by subst h; rfl⟩
    · obtain ⟨v, _, h⟩ := bnd_some h
      simp only [goOn, Option.some.injEq, RRes.go.injEq] at h
      exact ⟨_, by subst h; rfl⟩
    · obtain ⟨v, _, h⟩ := bnd_some h
      simp only [goWith, Option.some.injEq, RRes.go.injEq] at h
      exact ⟨_, by subst h; rfl⟩
    · obtain ⟨r, _, h⟩ := bnd_some h
      obtain ⟨o, _, h⟩ := mutA_out h
      cases o with
      | val v h' =>
        simp only [outF, goWith, RRes.go.injEq] at h
        exact ⟨_, by subst h; rfl⟩
      | panic v h' => simp only [outF, reduceCtorEq] at h
      | defer g args =>
        simp only [outF, RRes.go.injEq] at h
        exact ⟨_, by subst h; rfl⟩

theorem stepD_tm {s : Step} {id : Nat} {f f' : Fr} (h : stepD Γ call s id f = some (.go f')) : ∃ v, f'.tm = putD f.tm s.dst v := by
  cases hm : isMut s.op with
  | true => rw [stepD_mut hm] at h; exact stepA_tm h
  | false =>
    obtain ⟨u, _, h⟩ := stepD_flo hm h
    simp only [RRes.go.injEq] at h
    exact ⟨_, by subst h; rfl⟩

/-- what a step gives depends on no temporaries but those that it names -/
theorem floS_congr {tm tm' : Tr AVal} {h : Heap} {id : Nat} {s : Step} (hn : ∀ t ∈ s.names, tm.get t = tm'.get t) : floS Γ tm h id s = floS Γ tm' h id s := by
  have h1 : wantedA tm s.guard = wantedA tm' s.guard := by
    unfold wantedA
    cases hg : s.guard with
    | none => rfl
    | some g =>
      dsimp only
      rw [hn g.1 (by simp [Step.names, hg])]
  have h2 : Agree tm tm' s.op.opds := agree_of_names fun t ht => hn t (by
    unfold Step.names
    split
    · exact List.mem_cons_of_mem _ ht
    · exact ht)
  unfold floS
  rw [h1]
  congr 1
  funext w
  cases w with
  | false => rfl
  | true =>
    simp only [cond_true]
    unfold floA
    cases ho : s.op with
    | p o => rw [ho] at h2; simp only; rw [pureA_congr h2]
    | r o => rw [ho] at h2; simp only; rw [readA_congr h2]
    | a o => rw [ho] at h2; simp only; rw [newA_congr h2]
    | m o => rfl
end
end Go.AM
