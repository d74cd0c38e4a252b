/- From a run to what is known of a call; what is known for some values of the variables, said for other variables. -/
import Derived.Test.YthgbnljjolhodaaGreatDoorAmKnown
set_option linter.all false
namespace Go.AM

/-! ### Variables by lists -/

/-- the variables have these values -/
def Env.of (tabs : Nat → Option Obj) (n : List Int) (s : List (List Nat)) (l : List (List (List PV))) (m : List (List (List Nat × List PV))) : Env :=
  { val := fun i => n.getD i 0, tabs := tabs, str := fun i => s.getD i [], lst := fun i => l.getD i [], map := fun i => m.getD i [] }

/-- which terms and variables the variables stand for -/
structure Tau where
  n : List ST := []
  s : List AVal := []
  l : List Nat := []
  m : List Nat := []

def strD (ρ : Env) (v : AVal) : List Nat := (strV ρ v).getD []

def Env.sub (ρ : Env) (τ : Tau) : Env := Env.of ρ.tabs (τ.n.map (·.den ρ)) (τ.s.map (strD ρ)) (τ.l.map ρ.lst) (τ.m.map ρ.map)

def ST.sub (τ : Tau) : ST → Option ST
  | .lit n => some (.lit n)
  | .var i => τ.n[i]?
  | .bin op k a b => match a.sub τ, b.sub τ with
    | some a, some b => some (.bin op k a b)
    | _, _ => none
  | .conv k a => (a.sub τ).map (.conv k)

/-- a comparison of two numbers is decided -/
def cmpN (op : BinOp) (a b : ST) : SB :=
  match a, b with
  | .lit x, .lit y => (match cmpI op x y with | some v => .lit v | none => .cmp op (.lit x) (.lit y))
  | a, b => .cmp op a b

theorem cmpN_den {ρ : Env} (op : BinOp) (a b : ST) : (cmpN op a b).den ρ = (SB.cmp op a b).den ρ := by
  unfold cmpN
  split
  · split
    · rename_i x y v h
      simp only [SB.den, ST.den]
      exact (cmpI_sound h).1
    · rfl
  · rfl

def SB.sub (τ : Tau) : SB → Option SB
  | .lit b => some (.lit b)
  | .cmp op a b => match a.sub τ, b.sub τ with
    | some a, some b => some (cmpN op a b)
    | _, _ => none
  | .no a => (a.sub τ).map .no

def AVal.isStr : AVal → Bool
  | .str _ => true
  | .svar _ => true
  | _ => false

/-- one cell's value -/
def AVal.subC (τ : Tau) : AVal → Option AVal
  | .bool b => (b.sub τ).map .bool
  | .int k n => (n.sub τ).map (.int k)
  | .str s => some (.str s)
  | .ptr b o => some (.ptr b o)
  | .nilPtr => some .nilPtr
  | .slice b o l c => some (.slice b o l c)
  | .gslice b o l e => some (.gslice b o l e)
  | .nilSlice => some .nilSlice
  | .map b => some (.map b)
  | .nilMap => some .nilMap
  | .nilFunc => some .nilFunc
  | .nilIface => some .nilIface
  | .gbytes b => some (.gbytes b)
  | .svar i => match τ.s[i]? with
    | some v => if v.isStr then some v else none
    | none => none
  | .lst f i es n => match τ.l[i]?, n.sub τ with
    | some j, some n => some (.lst f j es n)
    | _, _ => none
  | .lptr i j o => match τ.l[i]?, j.sub τ with
    | some k, some j => some (.lptr k j o)
    | _, _ => none
  | .vec b es n => (n.sub τ).map (.vec b es)
  | _ => none

def subL (τ : Tau) : List AVal → Option (List AVal)
  | [] => some []
  | v :: r => match v.subC τ, subL τ r with
    | some v, some r => some (v :: r)
    | _, _ => none

def AVal.subV (τ : Tau) : AVal → Option AVal
  | .agg cs => (subL τ cs).map .agg
  | .tuple cs => (subL τ cs).map .tuple
  | v => v.subC τ

def subVs (τ : Tau) : List AVal → Option (List AVal)
  | [] => some []
  | v :: r => match v.subV τ, subVs τ r with
    | some v, some r => some (v :: r)
    | _, _ => none

def Block.sub (τ : Tau) : Block → Option Block
  | .cells vs => (subL τ vs).map .cells
  | .typed e vs => (subL τ vs).map (.typed e)
  | .bytes n e => some (.bytes n e)
  | .sbytes t e => (t.sub τ).map fun t => .sbytes t e
  | .list i es => (τ.l[i]?).map fun j => .list j es
  | .smap i => (τ.m[i]?).map .smap
  | .map _ _ => none

def subBs (τ : Tau) : List Block → Option (List Block)
  | [] => some []
  | B :: r => match B.sub τ, subBs τ r with
    | some B, some r => some (B :: r)
    | _, _ => none

def subOs (τ : Tau) : List (Option Block) → Option (List (Option Block))
  | [] => some []
  | none :: r => (subOs τ r).map (none :: ·)
  | some B :: r => match B.sub τ, subOs τ r with
    | some B, some r => some (some B :: r)
    | _, _ => none

def Known.sub (τ : Tau) (x : Known) : Option Known :=
  match subVs τ x.args, subBs τ x.pre, x.res.subV τ, subOs τ x.post with
  | some args, some pre, some res, some post => some ⟨args, pre, res, post⟩
  | _, _, _, _ => none

section
variable {ρ : Env} {μ : Where} {τ : Tau}

theorem getD_map {α β : Type} {f : α → β} {l : List α} {i : Nat} {x : α} {d : β} (h : l[i]? = some x) : (l.map f).getD i d = f x := by
  rw [List.getD_eq_getElem?_getD, List.getElem?_map, h]; rfl

theorem ST.sub_den : ∀ {t u : ST}, t.sub τ = some u → u.den ρ = t.den (ρ.sub τ)
  | .lit n, u, h => by simp only [ST.sub, Option.some.injEq] at h; subst h; rfl
  | .var i, u, h => by
    simp only [ST.sub] at h
    exact (getD_map (f := fun x : ST => x.den ρ) h).symm
  | .bin op k a b, u, h => by
    simp only [ST.sub] at h
    split at h
    · rename_i a' b' ha hb
      simp only [Option.some.injEq] at h
      subst h
      simp only [ST.den, ST.sub_den ha, ST.sub_den hb]
    · cases h
  | .conv k a, u, h => by
    simp only [ST.sub] at h
    obtain ⟨a', ha, rfl⟩ := Option.map_eq_some_iff.1 h
    simp only [ST.den, ST.sub_den ha]

theorem SB.sub_den : ∀ {t u : SB}, t.sub τ = some u → u.den ρ = t.den (ρ.sub τ)
  | .lit n, u, h => by simp only [SB.sub, Option.some.injEq] at h; subst h; rfl
  | .cmp op a b, u, h => by
    simp only [SB.sub] at h
    split at h
    · rename_i a' b' ha hb
      simp only [Option.some.injEq] at h
      subst h
      rw [cmpN_den]
      simp only [SB.den, ST.sub_den ha, ST.sub_den hb]
    · cases h
  | .no a, u, h => by
    simp only [SB.sub] at h
    obtain ⟨a', ha, rfl⟩ := Option.map_eq_some_iff.1 h
    simp only [SB.den, SB.sub_den ha]

theorem subC_rel {p a : AVal} (h : p.subC τ = some a) {u : Value} : (VRel (ρ.sub τ) μ p u ↔ VRel ρ μ a u) ∧ a.single = p.single := by
  cases p <;> simp only [AVal.subC, Option.some.injEq, reduceCtorEq] at h
  case bool b =>
    obtain ⟨b', hb, rfl⟩ := Option.map_eq_some_iff.1 h
    simp only [VRel, SB.sub_den (ρ := ρ) hb, AVal.single, and_self]
  case int k n =>
    obtain ⟨n', hn, rfl⟩ := Option.map_eq_some_iff.1 h
    simp only [VRel, ST.sub_den (ρ := ρ) hn, AVal.single, and_self]
  case svar i =>
    split at h
    · rename_i v hv
      split at h
      · rename_i hs
        simp only [Option.some.injEq] at h
        subst h
        have e : (ρ.sub τ).str i = strD ρ v := getD_map (f := strD ρ) hv
        cases v <;> simp only [AVal.isStr, Bool.false_eq_true] at hs
        case str s => simp only [VRel, e, strD, strV, Option.getD_some, AVal.single, and_self]
        case svar j => simp only [VRel, e, strD, strV, Option.getD_some, AVal.single, and_self]
      · cases h
    · cases h
  case lst f i es n =>
    split at h
    · rename_i j n' hj hn
      simp only [Option.some.injEq] at h
      subst h
      have e : (ρ.sub τ).lst i = ρ.lst j := getD_map (f := ρ.lst) hj
      simp only [VRel, e, ST.sub_den (ρ := ρ) hn, AVal.single, and_self]
    · cases h
  case lptr i j o =>
    split at h
    · rename_i k j' hk hj
      simp only [Option.some.injEq] at h
      subst h
      have e : (ρ.sub τ).lst i = ρ.lst k := getD_map (f := ρ.lst) hk
      simp only [VRel, e, ST.sub_den (ρ := ρ) hj, AVal.single, and_self]
    · cases h
  case vec b es n =>
    obtain ⟨n', hn, rfl⟩ := Option.map_eq_some_iff.1 h
    simp only [VRel, ST.sub_den (ρ := ρ) hn, AVal.single, and_self]
  all_goals
    subst h
    simp only [VRel, AVal.single, and_self]

theorem subL_cons (v : AVal) (r : List AVal) : subL τ (v :: r) = match v.subC τ, subL τ r with
    | some v, some r => some (v :: r)
    | _, _ => none := rfl

theorem subL_rel : ∀ {l r : List AVal}, subL τ l = some r → l.length = r.length ∧ (∀ {us : List Value}, CsRel (ρ.sub τ) μ l us ↔ CsRel ρ μ r us) ∧ (∀ {us : List Value}, VsRel (ρ.sub τ) μ l us ↔ VsRel ρ μ r us) ∧
    ∀ (i : Nat), (∀ p, l[i]? = some p → ∃ a, r[i]? = some a ∧ p.subC τ = some a) ∧ (∀ a, r[i]? = some a → ∃ p, l[i]? = some p ∧ p.subC τ = some a)
  | [], r, h => by
    simp only [subL, Option.some.injEq] at h
    subst h
    exact ⟨rfl, by simp only [CsRel, implies_true], by simp only [VsRel, implies_true], fun i => ⟨fun p h => by simp at h, fun p h => by simp at h⟩⟩
  | v :: l, r, h => by
    rw [subL_cons] at h
    split at h
    · rename_i v' r' hv hr
      simp only [Option.some.injEq] at h
      subst h
      obtain ⟨k1, k2, k3, k4⟩ := subL_rel hr
      refine ⟨by simp [k1], fun {us} => ?_, fun {us} => ?_, fun i => ?_⟩
      · simp only [CsRel]
        constructor
        · rintro ⟨u, rest, rfl, ⟨h1, h2⟩, h3⟩
          obtain ⟨q1, q2⟩ := subC_rel (ρ := ρ) (μ := μ) hv (u := u)
          exact ⟨u, rest, rfl, ⟨by rw [q2]; exact h1, q1.1 h2⟩, k2.1 h3⟩
        · rintro ⟨u, rest, rfl, ⟨h1, h2⟩, h3⟩
          obtain ⟨q1, q2⟩ := subC_rel (ρ := ρ) (μ := μ) hv (u := u)
          exact ⟨u, rest, rfl, ⟨by rw [← q2]; exact h1, q1.2 h2⟩, k2.2 h3⟩
      · simp only [VsRel]
        constructor
        · rintro ⟨u, rest, rfl, h2, h3⟩
          obtain ⟨q1, q2⟩ := subC_rel (ρ := ρ) (μ := μ) hv (u := u)
          exact ⟨u, rest, rfl, q1.1 h2, k3.1 h3⟩
        · rintro ⟨u, rest, rfl, h2, h3⟩
          obtain ⟨q1, q2⟩ := subC_rel (ρ := ρ) (μ := μ) hv (u := u)
          exact ⟨u, rest, rfl, q1.2 h2, k3.2 h3⟩
      · cases i with
        | zero =>
          simp only [List.getElem?_cons_zero, Option.some.injEq]
          exact ⟨fun p e => ⟨v', rfl, e ▸ hv⟩, fun a e => ⟨v, rfl, e ▸ hv⟩⟩
        | succ i => simpa using k4 i
    · cases h

theorem subV_rel {p a : AVal} (h : p.subV τ = some a) {u : Value} : VRel (ρ.sub τ) μ p u ↔ VRel ρ μ a u := by
  unfold AVal.subV at h
  split at h
  · obtain ⟨cs, hcs, rfl⟩ := Option.map_eq_some_iff.1 h
    obtain ⟨_, k, _⟩ := subL_rel (ρ := ρ) (μ := μ) hcs
    simp only [VRel, k]
  · obtain ⟨cs, hcs, rfl⟩ := Option.map_eq_some_iff.1 h
    obtain ⟨_, _, k, _⟩ := subL_rel (ρ := ρ) (μ := μ) hcs
    simp only [VRel, k]
  · exact (subC_rel h).1

theorem subVs_rel : ∀ {l r : List AVal} {us : List Value}, subVs τ l = some r → (VsRel (ρ.sub τ) μ l us ↔ VsRel ρ μ r us)
  | [], r, us, h => by
    simp only [subVs, Option.some.injEq] at h
    subst h
    simp only [VsRel]
  | v :: l, r, us, h => by
    simp only [subVs] at h
    split at h
    · rename_i v' r' hv hr
      simp only [Option.some.injEq] at h
      subst h
      simp only [VsRel, subV_rel (ρ := ρ) (μ := μ) hv, subVs_rel hr]
    · cases h

theorem blockSub_rel {B C : Block} (h : B.sub τ = some C) {o : Option Obj} {δ : Nat × Nat} : BRel (ρ.sub τ) μ B o δ ↔ BRel ρ μ C o δ := by
  cases B <;> simp only [Block.sub, Option.some.injEq, reduceCtorEq] at h
  case cells vs =>
    obtain ⟨us, hus, rfl⟩ := Option.map_eq_some_iff.1 h
    obtain ⟨_, _, _, k⟩ := subL_rel (ρ := ρ) (μ := μ) hus
    simp only [BRel]
    constructor
    · rintro ⟨c, e, ho, hm, hc⟩
      refine ⟨c, e, ho, hm, fun i a ha => ?_⟩
      obtain ⟨p, hp, hs⟩ := (k i).2 a ha
      obtain ⟨v, h1, h2, h3⟩ := hc i p hp
      obtain ⟨q1, q2⟩ := subC_rel (ρ := ρ) (μ := μ) hs (u := v)
      exact ⟨v, h1, by rw [q2]; exact h2, q1.1 h3⟩
    · rintro ⟨c, e, ho, hm, hc⟩
      refine ⟨c, e, ho, hm, fun i p hp => ?_⟩
      obtain ⟨a, ha, hs⟩ := (k i).1 p hp
      obtain ⟨v, h1, h2, h3⟩ := hc i a ha
      obtain ⟨q1, q2⟩ := subC_rel (ρ := ρ) (μ := μ) hs (u := v)
      exact ⟨v, h1, by rw [← q2]; exact h2, q1.2 h3⟩
  case typed t vs =>
    obtain ⟨us, hus, rfl⟩ := Option.map_eq_some_iff.1 h
    obtain ⟨kl, _, _, k⟩ := subL_rel (ρ := ρ) (μ := μ) hus
    simp only [BRel]
    constructor
    · rintro ⟨c, ho, ⟨h0, hs0⟩, hm, hc⟩
      refine ⟨c, ho, ⟨h0, by rw [hs0, kl]⟩, hm, fun i a ha => ?_⟩
      obtain ⟨p, hp, hs⟩ := (k i).2 a ha
      obtain ⟨v, h1, h2, h3⟩ := hc i p hp
      obtain ⟨q1, q2⟩ := subC_rel (ρ := ρ) (μ := μ) hs (u := v)
      exact ⟨v, h1, by rw [q2]; exact h2, q1.1 h3⟩
    · rintro ⟨c, ho, ⟨h0, hs0⟩, hm, hc⟩
      refine ⟨c, ho, ⟨h0, by rw [hs0, kl]⟩, hm, fun i p hp => ?_⟩
      obtain ⟨a, ha, hs⟩ := (k i).1 p hp
      obtain ⟨v, h1, h2, h3⟩ := hc i a ha
      obtain ⟨q1, q2⟩ := subC_rel (ρ := ρ) (μ := μ) hs (u := v)
      exact ⟨v, h1, by rw [← q2]; exact h2, q1.2 h3⟩
  case bytes n e => subst h; simp only [BRel]
  case sbytes t e =>
    obtain ⟨t', ht, rfl⟩ := Option.map_eq_some_iff.1 h
    simp only [BRel, ST.sub_den (ρ := ρ) ht]
  case list i es =>
    obtain ⟨j, hj, rfl⟩ := Option.map_eq_some_iff.1 h
    have e : (ρ.sub τ).lst i = ρ.lst j := getD_map (f := ρ.lst) hj
    simp only [BRel, e]
  case smap i =>
    obtain ⟨j, hj, rfl⟩ := Option.map_eq_some_iff.1 h
    have e : (ρ.sub τ).map i = ρ.map j := getD_map (f := ρ.map) hj
    simp only [BRel, e]

theorem subBs_get : ∀ {l r : List Block}, subBs τ l = some r → l.length = r.length ∧ ∀ (i : Nat), (∀ p, l[i]? = some p → ∃ a, r[i]? = some a ∧ p.sub τ = some a) ∧ (∀ a, r[i]? = some a → ∃ p, l[i]? = some p ∧ p.sub τ = some a)
  | [], r, h => by
    simp only [subBs, Option.some.injEq] at h
    subst h
    exact ⟨rfl, fun i => ⟨fun p h => by simp at h, fun p h => by simp at h⟩⟩
  | v :: l, r, h => by
    simp only [subBs] at h
    split at h
    · rename_i v' r' hv hr
      simp only [Option.some.injEq] at h
      subst h
      obtain ⟨k1, k4⟩ := subBs_get hr
      refine ⟨by simp [k1], fun i => ?_⟩
      cases i with
      | zero =>
        simp only [List.getElem?_cons_zero, Option.some.injEq]
        exact ⟨fun p e => ⟨v', rfl, e ▸ hv⟩, fun a e => ⟨v, rfl, e ▸ hv⟩⟩
      | succ i => simpa using k4 i
    · cases h

theorem subOs_get : ∀ {l r : List (Option Block)}, subOs τ l = some r → l.length = r.length ∧ ∀ (i : Nat), (∀ p, l[i]? = some (some p) → ∃ a, r[i]? = some (some a) ∧ p.sub τ = some a) ∧ (∀ a, r[i]? = some (some a) → ∃ p, l[i]? = some (some p) ∧ p.sub τ = some a)
  | [], r, h => by
    simp only [subOs, Option.some.injEq] at h
    subst h
    exact ⟨rfl, fun i => ⟨fun p h => by simp at h, fun p h => by simp at h⟩⟩
  | none :: l, r, h => by
    simp only [subOs] at h
    obtain ⟨r', hr, rfl⟩ := Option.map_eq_some_iff.1 h
    obtain ⟨k1, k4⟩ := subOs_get hr
    refine ⟨by simp [k1], fun i => ?_⟩
    cases i with
    | zero => simp
    | succ i => simpa using k4 i
  | some v :: l, r, h => by
    simp only [subOs] at h
    split at h
    · rename_i v' r' hv hr
      simp only [Option.some.injEq] at h
      subst h
      obtain ⟨k1, k4⟩ := subOs_get hr
      refine ⟨by simp [k1], fun i => ?_⟩
      cases i with
      | zero =>
        simp only [List.getElem?_cons_zero, Option.some.injEq]
        exact ⟨fun p e => ⟨v', rfl, e ▸ hv⟩, fun a e => ⟨v, rfl, e ▸ hv⟩⟩
      | succ i => simpa using k4 i
    · cases h

/-- memory in the same places, described for other variables -/
theorem HRel.over {ρ' : Env} {h h' : Heap} {w : World} (H : HRel ρ μ h w) (hn : h'.next = h.next) (ht : ρ'.tabs = ρ.tabs) (hf : h'.fx.Hold ρ') (hb : ∀ b B', h'.get b = some B' → ∃ B, h.get b = some B ∧ ∀ o δ, BRel ρ μ B o δ → BRel ρ' μ B' o δ) : HRel ρ' μ h' w := by
  have own : ∀ r, Owned μ h' r → Owned μ h r := fun r ⟨b, B, δ, h1, h2⟩ => by
    obtain ⟨B', k, _⟩ := hb b B h1
    exact ⟨b, B', δ, k, h2⟩
  refine ⟨fun b e => H.fresh b (hn ▸ e), fun b B e => ?_, fun b b' B B' r δ δ' h1 h2 m1 m2 => ?_, ⟨fun g o e => ?_, fun g o e => ?_, hf⟩⟩
  · obtain ⟨B0, k1, k2⟩ := hb b B e
    obtain ⟨r, δ, m1, m2⟩ := H.blk b B0 k1
    exact ⟨r, δ, m1, k2 _ _ m2⟩
  · obtain ⟨B1, k1, _⟩ := hb b B h1
    obtain ⟨B2, k2, _⟩ := hb b' B' h2
    exact H.inj _ _ _ _ _ _ _ k1 k2 m1 m2
  · rw [ht] at e
    exact ⟨(H.tabs.tabs g o e).1, fun q => (H.tabs.tabs g o e).2 (own g q)⟩
  · exact ⟨(H.tabs.ice g o e).1, fun q => (H.tabs.ice g o e).2 (own g q)⟩
end

section
variable {ρ : Env} {τ : Tau} {μ : Where} {w w' : World} {pre pre' : List Block} {post post' : List (Option Block)}

theorem sub_before (h2 : subBs τ pre = some pre') (H : HRel ρ μ (heapOf pre' (empty 0)) w) : HRel (ρ.sub τ) μ (heapOf pre (empty 0)) w := by
  obtain ⟨l2, k2⟩ := subBs_get h2
  refine H.over (by rw [pre_next, pre_next, l2]) rfl (by rw [(heapOf_spec pre (empty 0)).2.1]; exact Facts.Hold.none _) fun b B hB => ?_
  rw [pre_get] at hB
  obtain ⟨a, ha, hs⟩ := (k2 b).1 B hB
  exact ⟨a, by rw [pre_get]; exact ha, fun o δ => (blockSub_rel hs).2⟩

theorem unsub_before (h2 : subBs τ pre = some pre') (H : HRel (ρ.sub τ) μ (heapOf pre (empty 0)) w) : HRel ρ μ (heapOf pre' (empty 0)) w := by
  obtain ⟨l2, k2⟩ := subBs_get h2
  refine H.over (by rw [pre_next, pre_next, l2]) rfl (by rw [(heapOf_spec pre' (empty 0)).2.1]; exact Facts.Hold.none _) fun b B hB => ?_
  rw [pre_get] at hB
  obtain ⟨a, ha, hs⟩ := (k2 b).2 B hB
  exact ⟨a, by rw [pre_get]; exact ha, fun o δ => (blockSub_rel hs).1⟩

theorem sub_after {μ' : Where} (h2 : subBs τ pre = some pre') (h4 : subOs τ post = some post') (g' : Grows (ρ.sub τ) μ (heapOf pre (empty 0)) w μ' (heapP post (empty 0)) w') : Grows ρ μ (heapOf pre' (empty 0)) w μ' (heapP post' (empty 0)) w' := by
  obtain ⟨l2, k2⟩ := subBs_get h2
  obtain ⟨l4, k4⟩ := subOs_get h4
  have ownP : ∀ r, Owned μ (heapOf pre (empty 0)) r ↔ Owned μ (heapOf pre' (empty 0)) r := fun r => by
    constructor
    · rintro ⟨b, B, δ, q1, q2⟩
      rw [pre_get] at q1
      obtain ⟨a, ha, _⟩ := (k2 b).1 B q1
      exact ⟨b, a, δ, by rw [pre_get]; exact ha, q2⟩
    · rintro ⟨b, B, δ, q1, q2⟩
      rw [pre_get] at q1
      obtain ⟨a, ha, _⟩ := (k2 b).2 B q1
      exact ⟨b, a, δ, by rw [pre_get]; exact ha, q2⟩
  have joined : ∀ {l : List (Option Block)} {b : Nat} {B : Block}, (l[b]?).join = some B → l[b]? = some (some B) := fun {l b B} h => by
    cases e : l[b]? with
    | none => rw [e] at h; cases h
    | some o => rw [e] at h; have h : o = some B := h; rw [h]
  have ownQ : ∀ r, Owned μ' (heapP post' (empty 0)) r → Owned μ' (heapP post (empty 0)) r := fun r ⟨b, B, δ, q1, q2⟩ => by
    rw [post_get] at q1
    obtain ⟨a, ha, _⟩ := (k4 b).2 B (joined q1)
    exact ⟨b, a, δ, by rw [post_get, ha]; rfl, q2⟩
  have H2 : HRel ρ μ' (heapP post' (empty 0)) w' := by
    refine g'.rel.over (by rw [post_next, post_next, l4]) rfl (by rw [(heapP_spec post' (empty 0)).2.1]; exact Facts.Hold.none _) fun b B hB => ?_
    rw [post_get] at hB
    obtain ⟨a, ha, hs⟩ := (k4 b).2 B (joined hB)
    exact ⟨a, by rw [post_get, ha]; rfl, fun o δ => (blockSub_rel hs).1⟩
  refine ⟨g'.le, H2, g'.size, fun r hr ho => ?_, g'.os, g'.output, ?_, fun b hb => g'.old b ?_, fun k o hk => ?_, ?_⟩
  · obtain ⟨q1, q2⟩ := g'.kept r hr fun e => ho ((ownP r).1 e)
    exact ⟨q1, fun e => q2 (ownQ r e)⟩
  · have := g'.next
    rw [pre_next, post_next] at this ⊢
    show pre'.length ≤ post'.length
    omega
  · rw [pre_next] at hb ⊢
    show b < pre.length
    have hb : b < pre'.length := hb
    omega
  · rcases g'.icy k o hk with q | q | q
    · exact .inl q
    · exact .inr (.inl ((ownP k).1 q))
    · exact .inr (.inr q)
  · rw [(heapP_spec post' (empty 0)).2.1, (heapOf_spec pre' (empty 0)).2.1]

theorem unsub_after {μ' : Where} (h2 : subBs τ pre = some pre') (h4 : subOs τ post = some post') (g' : Grows ρ μ (heapOf pre' (empty 0)) w μ' (heapP post' (empty 0)) w') : Grows (ρ.sub τ) μ (heapOf pre (empty 0)) w μ' (heapP post (empty 0)) w' := by
  obtain ⟨l2, k2⟩ := subBs_get h2
  obtain ⟨l4, k4⟩ := subOs_get h4
  have ownP : ∀ r, Owned μ (heapOf pre' (empty 0)) r ↔ Owned μ (heapOf pre (empty 0)) r := fun r => by
    constructor
    · rintro ⟨b, B, δ, q1, q2⟩
      rw [pre_get] at q1
      obtain ⟨a, ha, _⟩ := (k2 b).2 B q1
      exact ⟨b, a, δ, by rw [pre_get]; exact ha, q2⟩
    · rintro ⟨b, B, δ, q1, q2⟩
      rw [pre_get] at q1
      obtain ⟨a, ha, _⟩ := (k2 b).1 B q1
      exact ⟨b, a, δ, by rw [pre_get]; exact ha, q2⟩
  have joined : ∀ {l : List (Option Block)} {b : Nat} {B : Block}, (l[b]?).join = some B → l[b]? = some (some B) := fun {l b B} h => by
    cases e : l[b]? with
    | none => rw [e] at h; cases h
    | some o => rw [e] at h; have h : o = some B := h; rw [h]
  have ownQ : ∀ r, Owned μ' (heapP post (empty 0)) r → Owned μ' (heapP post' (empty 0)) r := fun r ⟨b, B, δ, q1, q2⟩ => by
    rw [post_get] at q1
    obtain ⟨a, ha, _⟩ := (k4 b).1 B (joined q1)
    exact ⟨b, a, δ, by rw [post_get, ha]; rfl, q2⟩
  have H2 : HRel (ρ.sub τ) μ' (heapP post (empty 0)) w' := by
    refine g'.rel.over (by rw [post_next, post_next, l4]) rfl (by rw [(heapP_spec post (empty 0)).2.1]; exact Facts.Hold.none _) fun b B hB => ?_
    rw [post_get] at hB
    obtain ⟨a, ha, hs⟩ := (k4 b).1 B (joined hB)
    exact ⟨a, by rw [post_get, ha]; rfl, fun o δ => (blockSub_rel hs).2⟩
  refine ⟨g'.le, H2, g'.size, fun r hr ho => ?_, g'.os, g'.output, ?_, fun b hb => g'.old b ?_, fun k o hk => ?_, ?_⟩
  · obtain ⟨q1, q2⟩ := g'.kept r hr fun e => ho ((ownP r).1 e)
    exact ⟨q1, fun e => q2 (ownQ r e)⟩
  · have := g'.next
    rw [pre_next, post_next] at this ⊢
    show pre.length ≤ post.length
    have this : pre'.length ≤ post'.length := this
    omega
  · rw [pre_next] at hb ⊢
    show b < pre'.length
    have hb : b < pre.length := hb
    omega
  · rcases g'.icy k o hk with q | q | q
    · exact .inl q
    · exact .inr (.inl ((ownP k).1 q))
    · exact .inr (.inr q)
  · rw [(heapP_spec post (empty 0)).2.1, (heapOf_spec pre (empty 0)).2.1]

/-- FOR OTHER VARIABLES -/
theorem Holds.sub {P : Program} {g : FuncId} {x y : Known} (hs : x.sub τ = some y) (hx : Holds P (ρ.sub τ) g x) : Holds P ρ g y := by
  unfold Known.sub at hs
  split at hs
  case h_2 => cases hs
  rename_i args pre res post h1 h2 h3 h4
  simp only [Option.some.injEq] at hs
  subst hs
  refine ⟨hx.1, fun μ w vargs H hv => (hx.2 μ w vargs (sub_before h2 H) ((subVs_rel h1).2 hv)).mono fun e w' he => ?_⟩
  obtain ⟨μ', g', he⟩ := he
  refine ⟨μ', sub_after h2 h4 g', ?_⟩
  cases e
  case returned u => exact (subV_rel h3).1 (show VRel (ρ.sub τ) μ' x.res u from he)
  all_goals exact he.elim

/-- and back -/
theorem Holds.unsub {P : Program} {g : FuncId} {x y : Known} (hs : x.sub τ = some y) (hy : Holds P ρ g y) : Holds P (ρ.sub τ) g x := by
  unfold Known.sub at hs
  split at hs
  case h_2 => cases hs
  rename_i args pre res post h1 h2 h3 h4
  simp only [Option.some.injEq] at hs
  subst hs
  refine ⟨hy.1, fun μ w vargs H hv => (hy.2 μ w vargs (unsub_before h2 H) ((subVs_rel h1).1 hv)).mono fun e w' he => ?_⟩
  obtain ⟨μ', g', he⟩ := he
  refine ⟨μ', unsub_after h2 h4 g', ?_⟩
  cases e
  case returned u => exact (subV_rel h3).2 (show VRel ρ μ' res u from he)
  all_goals exact he.elim

/-! loops -/

def subTs (τ : Tau) : List (Nat × AVal) → Option (List (Nat × AVal))
  | [] => some []
  | v :: r => match v.2.subV τ, subTs τ r with
    | some a, some r => some ((v.1, a) :: r)
    | _, _ => none

def subDf (τ : Tau) (p : List (FuncId × List AVal)) : Option (List (FuncId × List AVal)) :=
  match p with
  | [] => some []
  | [p] => (subVs τ p.2).map fun l => [(p.1, l)]
  | _ => none

theorem subDf_rel {l r : List (FuncId × List AVal)} (h : subDf τ l = some r) {ds : List Deferred} : DefsRel (ρ.sub τ) μ l ds ↔ DefsRel ρ μ r ds := by
  unfold subDf at h
  split at h
  · simp only [Option.some.injEq] at h
    subst h
    exact Iff.rfl
  · obtain ⟨l, hl, rfl⟩ := Option.map_eq_some_iff.1 h
    constructor
    · rintro ⟨c, rest, e1, ⟨cap, e2, e3⟩, e4⟩
      exact ⟨c, rest, e1, ⟨cap, e2, (subVs_rel hl).1 e3⟩, e4⟩
    · rintro ⟨c, rest, e1, ⟨cap, e2, e3⟩, e4⟩
      exact ⟨c, rest, e1, ⟨cap, e2, (subVs_rel hl).2 e3⟩, e4⟩
  · cases h

def LoopK.sub (τ : Tau) (k : LoopK) : Option LoopK :=
  match subTs τ k.tms, subBs τ k.pre, subTs τ k.tms', subOs τ k.post, subDf τ k.df with
  | some tms, some pre, some tms', some post, some df => some ⟨k.id, tms, pre, tms', post, df⟩
  | _, _, _, _, _ => none

theorem subTs_get : ∀ {l l' : List (Nat × AVal)} {t t' : Tr AVal}, subTs τ l = some l' → (∀ n, match t.get n with | some p => ∃ a, t'.get n = some a ∧ p.subV τ = some a | none => t'.get n = none) →
    ∀ n, match (tmL l t).get n with | some p => ∃ a, (tmL l' t').get n = some a ∧ p.subV τ = some a | none => (tmL l' t').get n = none
  | [], l', t, t', h, ht, n => by
    simp only [subTs, Option.some.injEq] at h
    subst h
    exact ht n
  | v :: r, l', t, t', h, ht, n => by
    simp only [subTs] at h
    split at h
    · rename_i a r' ha hr
      simp only [Option.some.injEq] at h
      subst h
      show match (tmL r (t.set v.1 (some v.2))).get n with | some p => ∃ b, (tmL r' (t'.set v.1 (some a))).get n = some b ∧ p.subV τ = some b | none => (tmL r' (t'.set v.1 (some a))).get n = none
      refine subTs_get hr (fun m => ?_) n
      rw [Tr.get_set, Tr.get_set]
      by_cases e : m = v.1
      · rw [if_pos e, if_pos e]; exact ⟨a, rfl, ha⟩
      · rw [if_neg e, if_neg e]; exact ht m
    · cases h

theorem subTs_rel {l l' : List (Nat × AVal)} (h : subTs τ l = some l') {a : Act} : TRel (ρ.sub τ) μ (tmL l .nil) a ↔ TRel ρ μ (tmL l' .nil) a := by
  have hg := subTs_get (τ := τ) (t := .nil) (t' := .nil) h fun n => rfl
  constructor
  · intro hT t
    have h1 := hg t
    have h2 := hT t
    cases e : (tmL l .nil).get t with
    | none => rw [e] at h1; simp only at h1; rw [h1]; trivial
    | some p =>
      rw [e] at h1 h2
      obtain ⟨b, k1, k2⟩ := h1
      rw [k1]
      exact (subV_rel k2).1 h2
  · intro hT t
    have h1 := hg t
    have h2 := hT t
    cases e : (tmL l .nil).get t with
    | none => trivial
    | some p =>
      rw [e] at h1
      obtain ⟨b, k1, k2⟩ := h1
      rw [k1] at h2
      exact (subV_rel k2).2 h2

theorem LHolds.sub {P : Program} {nt : Nat} {x : Code} {k k' : LoopK} (hs : k.sub τ = some k') (hk : LHolds P (ρ.sub τ) nt x k) : LHolds P ρ nt x k' := by
  unfold LoopK.sub at hs
  split at hs
  case h_2 => cases hs
  rename_i tms pre tms' post df h1 h2 h3 h4 h5
  simp only [Option.some.injEq] at hs
  subst hs
  obtain ⟨n, hk⟩ := hk
  exact ⟨n, fun μ a w Q F hQ => hk μ a w Q ⟨(subTs_rel h1).2 F.tmps, F.size, sub_before h2 F.heap, (subDf_rel h5).2 F.defs⟩ fun μ' a' w' F' g' => hQ μ' a' w' ⟨(subTs_rel h3).1 F'.tmps, F'.size, (sub_after h2 h4 g').rel, (subDf_rel h5).1 F'.defs⟩ (sub_after h2 h4 g')⟩

theorem LHolds.unsub {P : Program} {nt : Nat} {x : Code} {k k' : LoopK} (hs : k.sub τ = some k') (hk : LHolds P ρ nt x k') : LHolds P (ρ.sub τ) nt x k := by
  unfold LoopK.sub at hs
  split at hs
  case h_2 => cases hs
  rename_i tms pre tms' post df h1 h2 h3 h4 h5
  simp only [Option.some.injEq] at hs
  subst hs
  obtain ⟨n, hk⟩ := hk
  exact ⟨n, fun μ a w Q F hQ => hk μ a w Q ⟨(subTs_rel h1).1 F.tmps, F.size, unsub_before h2 F.heap, (subDf_rel h5).1 F.defs⟩ fun μ' a' w' F' g' => hQ μ' a' w' ⟨(subTs_rel h3).2 F'.tmps, F'.size, (unsub_after h2 h4 g').rel, (subDf_rel h5).2 F'.defs⟩ (unsub_after h2 h4 g')⟩
end

/-! ### From a run -/

noncomputable def idsN (n : Nat) : Nat → List Nat := Nat.rec (motive := fun _ => Nat → List Nat) (fun _ => []) (fun _ ih i => i :: ih (i + 1)) n

theorem idsN_get : ∀ (n k i : Nat), (idsN n k)[i]? = if i < n then some (k + i) else none
  | 0, k, i => by rw [if_neg (by omega)]; show ([] : List Nat)[i]? = none; simp
  | n + 1, k, i => by
    show (k :: idsN n (k + 1))[i]? = _
    cases i with
    | zero => simp
    | succ i =>
      rw [List.getElem?_cons_succ, idsN_get n (k + 1) i]
      by_cases h : i < n
      · rw [if_pos h, if_pos (by omega)]; congr 1; omega
      · rw [if_neg h, if_neg (by omega)]

noncomputable def eqRes (Γ : Facts) (σ : List Nat) (p a : AVal) : Bool :=
  match p, a with
  | .agg ps, .agg as => eqRenL Γ σ ps as
  | .tuple ps, .tuple as => eqRenL Γ σ ps as
  | p, a => eqRen Γ σ p a

noncomputable def eqPost (Γ : Facts) (h : Heap) (σ : List Nat) (l : List (Option Block)) : Nat → Bool :=
  List.rec (motive := fun _ => Nat → Bool) (fun _ => true) (fun B _ ih i => (match B with | some B => eqB Γ h σ i B | none => true) && ih (i + 1)) l

noncomputable def leAll (k : Nat) (l : List Nat) : Bool := List.rec (motive := fun _ => Bool) true (fun n _ ih => Nat.ble k n && ih) l

/-- does the run show what is said of the call? `nw`: the numbers of new blocks -/
noncomputable def shows (Γ : Facts) (x : Known) (nw : List Nat) (r : Option (CRes × Heap)) : Bool :=
  match r with
  | some (.ret v, h) => Nat.beq (olen x.post) (blen x.pre + nlen nw) && (nodupN nw && (leAll (blen x.pre) nw && (eqRes Γ (idsN (blen x.pre) 0 ++ nw) x.res v && eqPost Γ h (idsN (blen x.pre) 0 ++ nw) x.post 0)))
  | _ => false

section
variable {ρ : Env} {μ μ' : Where} {σ : List Nat}

theorem eqRenL_vs {Γ : Facts} (hΓ : Γ.Hold ρ) (R : Ren μ' μ σ) : ∀ {ps as : List AVal} {us : List Value}, eqRenL Γ σ ps as = true → VsRel ρ μ as us → VsRel ρ μ' ps us
  | [], [], us, _, h => by simp only [VsRel] at h ⊢; exact h
  | [], _ :: _, _, h, _ => by cases h
  | _ :: _, [], _, h, _ => by cases h
  | p :: ps, a :: as, us, h, hr => by
    rw [eqRenL_cons, Bool.and_eq_true] at h
    simp only [VsRel] at hr ⊢
    obtain ⟨u, rest, e, h2, h3⟩ := hr
    exact ⟨u, rest, e, (eqRen_rel hΓ R h.1 h2).1, eqRenL_vs hΓ R h.2 h3⟩

theorem eqRes_rel {Γ : Facts} (hΓ : Γ.Hold ρ) (R : Ren μ' μ σ) {p a : AVal} (h : eqRes Γ σ p a = true) {u : Value} (hr : VRel ρ μ a u) : VRel ρ μ' p u := by
  unfold eqRes at h
  split at h
  · obtain ⟨x, e, hx⟩ := hr.agg
    subst e
    simp only [VRel]
    exact ⟨x, rfl, eqRenL_cs hΓ R h hx⟩
  · obtain ⟨x, e, hx⟩ := hr.tuple
    subst e
    simp only [VRel]
    exact ⟨x, rfl, eqRenL_vs hΓ R h hx⟩
  · exact (eqRen_rel hΓ R h hr).1

theorem eqPost_cons {Γ : Facts} {h : Heap} (W : Option Block) (r : List (Option Block)) (k : Nat) : eqPost Γ h σ (W :: r) k = ((match W with | some B => eqB Γ h σ k B | none => true) && eqPost Γ h σ r (k + 1)) := rfl

theorem eqPost_get {Γ : Facts} {h : Heap} : ∀ {l : List (Option Block)} {k : Nat}, eqPost Γ h σ l k = true → ∀ i B, l[i]? = some (some B) → ∃ b A, nnth σ (k + i) = some b ∧ h.get b = some A ∧ eqBlk Γ σ B A = true
  | [], _, _, i, vs, hv => by simp at hv
  | W :: r, k, hb, i, B, hv => by
    rw [eqPost_cons, Bool.and_eq_true] at hb
    cases i with
    | zero =>
      simp only [List.getElem?_cons_zero, Option.some.injEq] at hv
      subst hv
      have h1 := hb.1
      simp only at h1
      unfold eqB at h1
      split at h1
      · rename_i b hσ
        split at h1
        · rename_i A hg
          exact ⟨b, A, hσ, hg, h1⟩
        · cases h1
      · cases h1
    | succ i =>
      obtain ⟨b, A, h1, h2, h3⟩ := eqPost_get hb.2 i B (by simpa using hv)
      exact ⟨b, A, by rw [← h1]; congr 1; omega, h2, h3⟩

theorem leAll_iff {k : Nat} : ∀ {l : List Nat}, leAll k l = true → ∀ n ∈ l, k ≤ n
  | [], _, n, hn => by cases hn
  | m :: r, h, n, hn => by
    have h : (Nat.ble k m && leAll k r) = true := h
    rw [Bool.and_eq_true] at h
    rcases List.mem_cons.1 hn with rfl | hn
    · exact ble_iff.1 h.1
    · exact leAll_iff h.2 n hn

/-- what a run made of pieces, as other pieces -/
theorem shown {Γ : Facts} (hΓ : Γ.Hold ρ) {pre : List Block} {post : List (Option Block)} {nw : List Nat} {d : Nat} {h : Heap} {w w' : World} {μ1 : Where} (hlen : post.length = pre.length + nw.length) (hnd : nw.Nodup) (hle : ∀ n ∈ nw, pre.length ≤ n) (hpost : eqPost Γ h (idsN pre.length 0 ++ nw) post 0 = true)
    (H : HRel ρ μ (heapOf pre (empty 0)) w) (g1 : Grows ρ μ (heapOf pre (empty d Γ)) w μ1 h w') : ∃ μ', Grows ρ μ (heapOf pre (empty 0)) w μ' (heapP post (empty 0)) w' ∧ Ren μ' μ1 (idsN pre.length 0 ++ nw) := by
  generalize hσ : idsN pre.length 0 ++ nw = σ at hpost ⊢
  have hidl : (idsN pre.length 0).length = pre.length := by
    apply Nat.le_antisymm
    · rcases Nat.lt_or_ge pre.length (idsN pre.length 0).length with hlt | hge
      · have := List.getElem?_eq_getElem hlt
        rw [idsN_get, if_neg (by omega)] at this
        cases this
      · exact hge
    · rcases Nat.lt_or_ge (idsN pre.length 0).length pre.length with hlt | hge
      · have := List.getElem?_eq_none (Nat.le_refl (idsN pre.length 0).length)
        rw [idsN_get, if_pos hlt] at this
        cases this
      · exact hge
  have hσget : ∀ i b, nnth σ i = some b ↔ (i < pre.length ∧ b = i) ∨ (pre.length ≤ i ∧ nw[i - pre.length]? = some b) := fun i b => by
    rw [← hσ, nnth_eq]
    by_cases hi : i < pre.length
    · rw [List.getElem?_append_left (by omega), idsN_get, if_pos hi]
      simp only [Nat.zero_add, Option.some.injEq]
      constructor
      · intro e; exact .inl ⟨hi, e.symm⟩
      · rintro (⟨_, e⟩ | ⟨e, _⟩)
        · exact e.symm
        · omega
    · rw [List.getElem?_append_right (by omega), hidl]
      constructor
      · intro e; exact .inr ⟨by omega, e⟩
      · rintro (⟨e, _⟩ | ⟨_, e⟩)
        · omega
        · exact e
  have hinj : ∀ i j b, nnth σ i = some b → nnth σ j = some b → i = j := fun i j b hi hj => by
    rcases (hσget i b).1 hi with ⟨h1, h2⟩ | ⟨h1, h2⟩ <;> rcases (hσget j b).1 hj with ⟨h3, h4⟩ | ⟨h3, h4⟩
    · omega
    · have := hle b (List.mem_of_getElem? h4); omega
    · have := hle b (List.mem_of_getElem? h2); omega
    · obtain ⟨l1, e1⟩ := List.getElem?_eq_some_iff.1 h2
      obtain ⟨l2, e2⟩ := List.getElem?_eq_some_iff.1 h4
      have := (List.getElem_inj hnd).1 (e1.trans e2.symm)
      omega
  have ownP : ∀ r, Owned μ (heapOf pre (empty d Γ)) r ↔ Owned μ (heapOf pre (empty 0)) r := fun r => by
    unfold Owned
    simp only [pre_get]
  let μ' : Where := ⟨fun i => (nnth σ i).bind μ1.spot, μ1.ice⟩
  have R : Ren μ' μ1 σ := ⟨fun i b e => by show (nnth σ i).bind μ1.spot = _; rw [e]; rfl, rfl⟩
  have joined : ∀ {l : List (Option Block)} {b : Nat} {B : Block}, (l[b]?).join = some B → l[b]? = some (some B) := fun {l b B} h => by
    cases e : l[b]? with
    | none => rw [e] at h; cases h
    | some o => rw [e] at h; have h : o = some B := h; rw [h]
  have piece : ∀ i B, (heapP post (empty 0)).get i = some B → ∃ b A, nnth σ i = some b ∧ h.get b = some A ∧ eqBlk Γ σ B A = true := fun i B hB => by
    rw [post_get] at hB
    obtain ⟨b, A, k1, k2, k3⟩ := eqPost_get hpost i B (joined hB)
    exact ⟨b, A, by rw [← k1, Nat.zero_add], k2, k3⟩
  have hold : ∀ b, b < pre.length → μ' b = μ b := fun b hb => by
    have e : nnth σ b = some b := (hσget b b).2 (.inl ⟨hb, rfl⟩)
    rw [R.spot b b e, g1.old b (by rw [pre_next]; exact hb)]
  have ownQ : ∀ r, Owned μ' (heapP post (empty 0)) r → Owned μ1 h r := fun r ⟨i, B, δ, q1, q2⟩ => by
    obtain ⟨b, A, k1, k2, _⟩ := piece i B q1
    rw [R.spot i b k1] at q2
    exact ⟨b, A, δ, k2, q2⟩
  refine ⟨μ', ⟨⟨fun b y hy => ?_, g1.le.ice⟩, ⟨fun b hb => ?_, fun b B hB => ?_, fun b b' B B' r δ δ' hb hb' hm hm' => ?_, ⟨fun k o hk => ?_, fun k o hk => ?_, ?_⟩⟩, g1.size, fun r hr ho => ?_, g1.os, g1.output, ?_, fun b hb => ?_, fun k o hk => ?_, ?_⟩, R⟩
  · have hb : b < pre.length := by
      rcases Nat.lt_or_ge b pre.length with hlt | hge
      · exact hlt
      · rw [H.fresh b (by rw [pre_next]; exact hge)] at hy; cases hy
    rw [hold b hb]; exact hy
  · rw [post_next] at hb
    show (nnth σ b).bind μ1.spot = none
    cases e : nnth σ b with
    | none => rfl
    | some c =>
      rcases (hσget b c).1 e with ⟨q, _⟩ | ⟨q1, q2⟩
      · omega
      · have := (List.getElem?_eq_some_iff.1 q2).1; omega
  · obtain ⟨c, A, k1, k2, k3⟩ := piece b B hB
    obtain ⟨r, δ, m1, m2⟩ := g1.rel.blk c A k2
    exact ⟨r, δ, by rw [R.spot b c k1]; exact m1, eqBlk_rel hΓ R k3 m2⟩
  · obtain ⟨c, A, k1, k2, _⟩ := piece b B hb
    obtain ⟨c', A', k1', k2', _⟩ := piece b' B' hb'
    rw [R.spot b c k1] at hm
    rw [R.spot b' c' k1'] at hm'
    have := g1.rel.inj _ _ _ _ _ _ _ k2 k2' hm hm'
    subst this
    exact hinj b b' c k1 k1'
  · obtain ⟨q1, q2⟩ := g1.rel.tabs.tabs k o hk
    exact ⟨q1, fun q => q2 (ownQ k q)⟩
  · obtain ⟨q1, q2⟩ := g1.rel.tabs.ice k o hk
    exact ⟨q1, fun q => q2 (ownQ k q)⟩
  · rw [(heapP_spec post (empty 0)).2.1]; exact Facts.Hold.none ρ
  · obtain ⟨q1, q2⟩ := g1.kept r hr fun q => ho ((ownP r).1 q)
    exact ⟨q1, fun q => q2 (ownQ r q)⟩
  · rw [pre_next, post_next]; omega
  · rw [pre_next] at hb
    exact hold b hb
  · rcases g1.icy k o hk with q | q | q
    · exact .inl q
    · exact .inr (.inl ((ownP k).1 q))
    · exact .inr (.inr q)
  · rw [(heapP_spec post (empty 0)).2.1, (heapOf_spec pre (empty 0)).2.1]

theorem HRel.withFacts {Γ : Facts} (hΓ : Γ.Hold ρ) {pre : List Block} {d : Nat} {w : World} (H : HRel ρ μ (heapOf pre (empty 0)) w) : HRel ρ μ (heapOf pre (empty d Γ)) w := by
  refine H.over (by rw [pre_next, pre_next]) rfl (by rw [(heapOf_spec pre (empty d Γ)).2.1]; exact hΓ) fun b B hB => ?_
  rw [pre_get] at hB
  exact ⟨B, by rw [pre_get]; exact hB, fun o δ h => h⟩

/-- WHAT A RUN SHOWS OF A CALL -/
theorem holds_of_top {P : Program} {Γ : Facts} (hΓ : Γ.Hold ρ) {g : FuncId} {call : OracleF} (hc : SoundO P ρ g call) {x : Known} {d : Nat} {nw : List Nat} (hrun : shows Γ x nw (call x.args (heapOf x.pre (empty d Γ))) = true) : Holds P ρ g x := by
  unfold shows at hrun
  split at hrun
  case h_2 => cases hrun
  rename_i v h hcall
  rw [Bool.and_eq_true, Bool.and_eq_true, Bool.and_eq_true, Bool.and_eq_true, nbeq_iff, olen_eq, blen_eq, nlen_eq] at hrun
  obtain ⟨hlen, hnd, hle, hres, hpost⟩ := hrun
  refine ⟨(hc x.args _ _ _ hcall).1, fun μ w vargs H hv => ?_⟩
  refine ((hc x.args _ _ _ hcall).2 μ w vargs (H.withFacts hΓ) hv).mono fun e w' he => ?_
  obtain ⟨μ1, g1, he⟩ := he
  obtain ⟨μ', g', R⟩ := shown hΓ hlen (nodupN_iff hnd) (leAll_iff hle) hpost H g1
  refine ⟨μ', g', ?_⟩
  cases e
  case returned u => exact eqRes_rel hΓ R hres (show VRel ρ μ1 v u from he)
  all_goals exact he.elim

theorem holds_of_run {P : Program} {Γ : Facts} (hΓ : Γ.Hold ρ) {call : CallF} (hc : SoundCall P ρ call) {g : FuncId} {x : Known} {d : Nat} {nw : List Nat} (hrun : shows Γ x nw (call g x.args (heapOf x.pre (empty d Γ))) = true) : Holds P ρ g x :=
  holds_of_top (call := call g) hΓ (fun args h r h' hx => hc g args h r h' hx) hrun

/-! ### Loops -/

/-- the loop with the block `k.id` of a function -/
def LHoldsAt (P : Program) (ρ : Env) (g : FuncId) (k : LoopK) : Prop := ∀ fn c, P.funcs[g]? = some fn → fn.body = some c → ∀ y ∈ loopsOf 0 c, y.1 = k.id → LHolds P ρ fn.ntmps y.2 k

theorem loopsOk_of {P : Program} {g : FuncId} {l : List LoopK} (h : ∀ k ∈ l, LHoldsAt P ρ g k) : ∀ fn c, P.funcs[g]? = some fn → fn.body = some c → LoopsOk P ρ fn.ntmps l 0 c :=
  fun fn c hf hc y hy k hk e => h k hk fn c hf hc y hy e.symm

noncomputable def icLoops (c : IC) : Nat → List (Nat × IC) :=
  IC.rec (motive := fun _ => Nat → List (Nat × IC)) (fun _ => []) (fun _ _ _ => []) (fun _ _ a b k => a k ++ b k) (fun _ _ _ a b k => a k ++ b k) (fun id _ b _ => b id) (fun b ih k => (k, b) :: ih k) (fun _ _ => []) (fun _ => []) c

theorem icLoops_of {P : Program} {pl : List Held} {nt : Nat} : ∀ {c : Code} {ic : IC} {k : Nat}, compCode P pl nt c = some ic → ∀ y ∈ loopsOf k c, ∃ icx, compCode P pl nt y.2 = some icx ∧ (y.1, icx) ∈ icLoops ic k := by
  intro c
  induction c with
  | seq a b iha ihb =>
    intro ic k h y hy
    simp only [compCode] at h
    split at h
    · rename_i i1 i2 h1 h2
      simp only [Option.some.injEq] at h
      subst h
      rcases List.mem_append.1 hy with hy | hy
      · obtain ⟨x, k1, k2⟩ := iha h1 y hy
        exact ⟨x, k1, List.mem_append_left _ k2⟩
      · obtain ⟨x, k1, k2⟩ := ihb h2 y hy
        exact ⟨x, k1, List.mem_append_right _ k2⟩
    · cases h
  | cond v a b iha ihb =>
    intro ic k h y hy
    simp only [compCode] at h
    split at h
    · rename_i i1 i2 h1 h2
      simp only [Option.some.injEq] at h
      subst h
      rcases List.mem_append.1 hy with hy | hy
      · obtain ⟨x, k1, k2⟩ := iha h1 y hy
        exact ⟨x, k1, List.mem_append_left _ k2⟩
      · obtain ⟨x, k1, k2⟩ := ihb h2 y hy
        exact ⟨x, k1, List.mem_append_right _ k2⟩
    · cases h
  | block id b ih =>
    intro ic k h y hy
    simp only [compCode] at h
    obtain ⟨i1, h1, e⟩ := Option.map_eq_some_iff.1 h
    subst e
    exact ih h1 y hy
  | loop b ih =>
    intro ic k h y hy
    simp only [compCode] at h
    obtain ⟨i1, h1, e⟩ := Option.map_eq_some_iff.1 h
    subst e
    rcases List.mem_cons.1 hy with rfl | hy
    · exact ⟨i1, h1, List.mem_cons_self⟩
    · obtain ⟨x, k1, k2⟩ := ih h1 y hy
      exact ⟨x, k1, List.mem_cons_of_mem _ k2⟩
  | _ => intro ic k h y hy; simp [loopsOf] at hy

noncomputable def pickL (id : Nat) (l : List (Nat × IC)) : List IC := List.rec (motive := fun _ => List IC) [] (fun x _ ih => bif Nat.beq x.1 id then x.2 :: ih else ih) l

theorem pickL_mem {id : Nat} {x : IC} : ∀ {l : List (Nat × IC)}, (id, x) ∈ l → x ∈ pickL id l
  | [], h => by cases h
  | y :: r, h => by
    show x ∈ (bif Nat.beq y.1 id then y.2 :: pickL id r else pickL id r)
    rw [cond_beq]
    rcases List.mem_cons.1 h with rfl | h
    · rw [if_pos rfl]; exact List.mem_cons_self
    · split
      · exact List.mem_cons_of_mem _ (pickL_mem h)
      · exact pickL_mem h

/-- do the rounds show what is said of the loop? -/
noncomputable def showsL (Γ : Facts) (k : LoopK) (nw : List Nat) (r : Option (AExit × Fr)) : Bool :=
  match r with
  | some (.exit i, f) => Nat.beq i k.id && (eqDf Γ (idsN (blen k.pre) 0 ++ nw) k.df f.df && (Nat.beq (olen k.post) (blen k.pre + nlen nw) && (nodupN nw && (leAll (blen k.pre) nw && (eqTms Γ (idsN (blen k.pre) 0 ++ nw) f.tm k.tms' && eqPost Γ f.h (idsN (blen k.pre) 0 ++ nw) k.post 0)))))
  | _ => false

/-- the rounds of the only loop with the block `k.id`, from the pieces that `k` says -/
noncomputable def loopRun (Γ : Facts) (call : CallF) (fuel d : Nat) (F : IFun) (k : LoopK) : Option (AExit × Fr) :=
  match pickL k.id (icLoops F.body 0) with
  | [b] => iter (fun f => loopL Γ k.id f Γ.loops) (fun f => execK Γ call fuel b k.id f) fuel ⟨tmL k.tms .nil, heapOf k.pre (empty d Γ), k.df⟩
  | _ => none

/-- WHAT ROUNDS SHOW OF A LOOP -/
theorem lholds_of_run {P : Program} {pl : List Held} {Γ : Facts} (hΓ : Γ.Hold ρ) {call : CallF} (hc : SoundCall P ρ call) (hmix : P.follows .mixedOrders = true) {tab : FuncId → Option IFun} (ht : TabOk P pl tab) {g : FuncId} {F : IFun} (hF : tab g = some F) (hl : ∀ k ∈ Γ.loops, LHoldsAt P ρ g k)
    {fuel d : Nat} {k : LoopK} {nw : List Nat} (hrun : showsL Γ k nw (loopRun Γ call fuel d F k) = true) : LHoldsAt P ρ g k := by
  intro fn c hf hcb y hy hyk
  obtain ⟨fn', hf', hcomp, _⟩ := ht g F hF
  rw [hf] at hf'
  simp only [Option.some.injEq] at hf'
  subst hf'
  obtain ⟨c', hb', hcc, _⟩ := compFun_spec hcomp
  rw [hcb] at hb'
  simp only [Option.some.injEq] at hb'
  subst hb'
  obtain ⟨icx, hx, hmem⟩ := icLoops_of hcc y hy
  rw [hyk] at hmem
  have hmem := pickL_mem hmem
  unfold loopRun at hrun
  split at hrun
  case h_2 => cases hrun
  rename_i b hb
  rw [hb, List.mem_singleton] at hmem
  subst hmem
  unfold showsL at hrun
  split at hrun
  case h_2 => cases hrun
  rename_i i f hit
  rw [Bool.and_eq_true, Bool.and_eq_true, Bool.and_eq_true, Bool.and_eq_true, Bool.and_eq_true, Bool.and_eq_true, nbeq_iff, nbeq_iff, olen_eq, blen_eq, nlen_eq] at hrun
  obtain ⟨rfl, hdf, hlen, hnd, hle, htms, hpost⟩ := hrun
  have hsub : LoopsOk P ρ fn.ntmps Γ.loops k.id y.2 := fun z hz k' hk' e => by
    refine hl k' hk' fn c hf hcb z ?_ e.symm
    have sub : ∀ (c : Code) (cur : Nat), y ∈ loopsOf cur c → z ∈ loopsOf cur c := by
      intro c
      induction c with
      | seq a b iha ihb => intro cur h; rcases List.mem_append.1 h with h | h; exact List.mem_append_left _ (iha _ h); exact List.mem_append_right _ (ihb _ h)
      | cond v a b iha ihb => intro cur h; rcases List.mem_append.1 h with h | h; exact List.mem_append_left _ (iha _ h); exact List.mem_append_right _ (ihb _ h)
      | block id b ih => intro cur h; exact ih _ h
      | loop b ih =>
        intro cur h
        rcases List.mem_cons.1 h with e | h
        · subst e
          refine List.mem_cons_of_mem _ ?_
          have hyk : cur = k.id := hyk
          rw [hyk]
          exact hz
        · exact List.mem_cons_of_mem _ (ih _ h)
      | _ => intro cur h; simp [loopsOf] at h
    exact sub c 0 hy
  obtain ⟨m, hm⟩ := rounds_of_iter (nt := fn.ntmps) (x := y.2) hΓ (fun k' hk' e => hl k' hk' fn c hf hcb y hy (by rw [hyk, e])) (fun hr1 F L => execK_sound hΓ hc hmix y.2 hsub hx hr1 F L) fuel hit
  refine ⟨m, fun μ a w Q F0 hQ => hm ⟨F0.tmps, F0.size, F0.heap.withFacts hΓ, F0.defs⟩ ?_⟩
  intro μ1 a' w' e F1 g1 he
  have he : e = .exit k.id := he
  subst he
  obtain ⟨μ', g', R⟩ := shown hΓ hlen (nodupN_iff hnd) (leAll_iff hle) hpost F0.heap g1
  refine hQ μ' a' w' ⟨fun t => ?_, F1.size, g'.rel, ?_⟩ g'
  · show VRel ρ μ' (orAny ((tmL k.tms' .nil).get t)) _
    cases hg : (tmL k.tms' .nil).get t with
    | none => trivial
    | some v =>
      rcases tmL_get _ _ _ _ hg with q | q
      · exact eqArg_rel hΓ R (eqTms_mem htms t v q) (F1.tmps t)
      · cases q
  · exact eqDf_rel hΓ R hdf F1.defs

theorem LHoldsAt.sub {P : Program} {τ : Tau} {g : FuncId} {k k' : LoopK} (hs : k.sub τ = some k') (hk : LHoldsAt P (ρ.sub τ) g k) : LHoldsAt P ρ g k' := fun fn c hf hc y hy e => by
  have hid : k'.id = k.id := by
    unfold LoopK.sub at hs
    split at hs
    · simp only [Option.some.injEq] at hs; subst hs; rfl
    · cases hs
  exact LHolds.sub hs (hk fn c hf hc y hy (by rw [e, hid]))

theorem LHoldsAt.unsub {P : Program} {τ : Tau} {g : FuncId} {k k' : LoopK} (hs : k.sub τ = some k') (hk : LHoldsAt P ρ g k') : LHoldsAt P (ρ.sub τ) g k := fun fn c hf hc y hy e => by
  have hid : k'.id = k.id := by
    unfold LoopK.sub at hs
    split at hs
    · simp only [Option.some.injEq] at hs; subst hs; rfl
    · cases hs
  exact LHolds.unsub hs (hk fn c hf hc y hy (by rw [e, hid]))
end
end Go.AM
