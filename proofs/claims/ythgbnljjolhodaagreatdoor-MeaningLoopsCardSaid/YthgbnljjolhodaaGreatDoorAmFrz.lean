/- A slice that nothing changes any more: from now on it is a list variable, wherever it occurs. -/
import Derived.Test.YthgbnljjolhodaaGreatDoorAmDraw5
import Derived.Test.YthgbnljjolhodaaGreatDoorAmData
set_option linter.all false
namespace Go.AM

theorem Tr.map_nil {α : Type} (g : α → α) : Tr.map g (Tr.nil : Tr α) = .nil := rfl
theorem Tr.map_node {α : Type} (g : α → α) (v : Option α) (l r : Tr α) : Tr.map g (Tr.node v l r) = .node (v.map g) (Tr.map g l) (Tr.map g r) := rfl
theorem Tr.map_over {α : Type} (g : α → α) (n : Nat) (v : Option α) (t : Tr α) : Tr.map g (Tr.over n v t) = .over n (v.map g) (Tr.map g t) := rfl

theorem Tr.get_map {α : Type} (g : α → α) : ∀ (t : Tr α) (n : Nat), (Tr.map g t).get n = (t.get n).map g
  | .nil, n => rfl
  | .node v l r, n => by
    rw [Tr.map_node, Tr.get_node, Tr.get_node, Tr.get_map g l, Tr.get_map g r]
    cases Nat.beq n 0 with
    | true => rfl
    | false => cases Nat.beq (n % 2) 1 <;> rfl
  | .over m v t, n => by
    rw [Tr.map_over, Tr.get_over, Tr.get_over, Tr.get_map g t]
    cases Nat.beq n m <;> rfl

theorem frzL_cons (b off len es j : Nat) (v : AVal) (r : List AVal) : frzL b off len es j (v :: r) = frzV b off len es j v :: frzL b off len es j r := rfl

theorem frzL_get {b off len es j : Nat} : ∀ {l : List AVal} {i : Nat}, (frzL b off len es j l)[i]? = (l[i]?).map (frzV b off len es j)
  | [], i => by show ([] : List AVal)[i]? = _; simp
  | v :: r, i => by
    rw [frzL_cons]
    cases i with
    | zero => simp
    | succ i => simpa using frzL_get (l := r) (i := i)

/-- a block becomes ice -/
def Where.cool (μ : Where) (r : Nat) (o : Option Obj) : Where := ⟨μ.spot, fun g => if g = r then o else μ.ice g⟩

section
variable {ρ : Env} {μ : Where} {w : World} {h : Heap} {b off len es j : Nat}

theorem Where.le_cool {r : Nat} {o : Option Obj} (hr : ∀ x, μ.ice r = some x → o = some x) : μ.le (μ.cool r o) :=
  ⟨fun _ _ e => e, fun g x e => by
    show (if g = r then o else μ.ice g) = some x
    by_cases hg : g = r
    · subst hg; rw [if_pos rfl]; exact hr x e
    · rw [if_neg hg]; exact e⟩

/-- what the block's number stands for -/
structure Frz (ρ : Env) (μ : Where) (b off len es j r δ m : Nat) (c : Array Value) (e : TypeId) : Prop where
  spot : μ b = some (r, δ, m)
  len : (ρ.lst j).length = len
  ice : μ.ice r = some (.cells c e (0, 0))
  rep : RepLL μ.ice es c (δ + off) (ρ.lst j)

theorem frzV_rel {r δ m : Nat} {c : Array Value} {e : TypeId} (F : Frz ρ μ b off len es j r δ m c e) {v : AVal} {u : Value} (hv : VRel ρ μ v u) : VRel ρ μ (frzV b off len es j v) u ∧ (frzV b off len es j v).single = v.single := by
  have key : ∀ (cap : Nat), u = .slice (some ⟨r, δ + off, none⟩) len cap → len ≤ cap → VRel ρ μ (.lst false j es (.lit (.ofNat len))) u := fun cap hu hc => by
    simp only [VRel, Rep]
    refine ⟨⟨cap, by rw [F.len]; exact hc, .inr ⟨r, δ + off, c, e, by rw [F.len]; exact hu, F.ice, F.rep⟩⟩, ?_, fun e => by cases e⟩
    rw [F.len]; rfl
  unfold frzV
  split
  · rename_i b' off' len' cap
    cases hc : Nat.beq b b' && (Nat.beq off off' && Nat.beq len len') with
    | false => exact ⟨hv, rfl⟩
    | true =>
      rw [Bool.and_eq_true, Bool.and_eq_true, nbeq_iff, nbeq_iff, nbeq_iff] at hc
      obtain ⟨rfl, rfl, rfl⟩ := hc
      obtain ⟨r', δ', m', h1, h2, h3⟩ := hv.slice
      rw [F.spot] at h1
      simp only [Option.some.injEq, Prod.mk.injEq] at h1
      obtain ⟨rfl, rfl, rfl⟩ := h1
      refine ⟨?_, rfl⟩
      have hk := key cap h2 h3
      simp only [VRel] at hk ⊢
      obtain ⟨q1, q2, _⟩ := hk
      refine ⟨q1, q2, fun e => ?_⟩
      have e := nbeq_iff.1 e
      exact ⟨_, by rw [F.len]; rw [h2, e]⟩
  · rename_i b' off' len' es'
    cases hc : Nat.beq b b' && (Nat.beq off off' && Nat.beq len len') with
    | false => exact ⟨hv, rfl⟩
    | true =>
      rw [Bool.and_eq_true, Bool.and_eq_true, nbeq_iff, nbeq_iff, nbeq_iff] at hc
      obtain ⟨rfl, rfl, rfl⟩ := hc
      obtain ⟨r', δ', m', cap, h1, h2, h3, _⟩ := hv.gslice
      rw [F.spot] at h1
      simp only [Option.some.injEq, Prod.mk.injEq] at h1
      obtain ⟨rfl, rfl, rfl⟩ := h1
      exact ⟨key cap h2 h3, rfl⟩
  · exact ⟨hv, rfl⟩

theorem frzL_cs {r δ m : Nat} {c : Array Value} {e : TypeId} (F : Frz ρ μ b off len es j r δ m c e) : ∀ {l : List AVal} {us : List Value}, CsRel ρ μ l us → CsRel ρ μ (frzL b off len es j l) us
  | [], us, h => h
  | v :: l, us, h => by
    rw [frzL_cons]
    simp only [CsRel] at h ⊢
    obtain ⟨u, rest, rfl, ⟨h1, h2⟩, h3⟩ := h
    obtain ⟨k1, k2⟩ := frzV_rel F h2
    exact ⟨u, rest, rfl, ⟨by rw [k2]; exact h1, k1⟩, frzL_cs F h3⟩

theorem frzL_vs {r δ m : Nat} {c : Array Value} {e : TypeId} (F : Frz ρ μ b off len es j r δ m c e) : ∀ {l : List AVal} {us : List Value}, VsRel ρ μ l us → VsRel ρ μ (frzL b off len es j l) us
  | [], us, h => h
  | v :: l, us, h => by
    rw [frzL_cons]
    simp only [VsRel] at h ⊢
    obtain ⟨u, rest, rfl, h2, h3⟩ := h
    exact ⟨u, rest, rfl, (frzV_rel F h2).1, frzL_vs F h3⟩

theorem frzA_rel {r δ m : Nat} {c : Array Value} {e : TypeId} (F : Frz ρ μ b off len es j r δ m c e) {v : AVal} {u : Value} (hv : VRel ρ μ v u) : VRel ρ μ (frzA b off len es j v) u := by
  unfold frzA
  split
  · obtain ⟨x, e, hx⟩ := hv.agg
    subst e
    simp only [VRel]
    exact ⟨x, rfl, frzL_cs F hx⟩
  · obtain ⟨x, e, hx⟩ := hv.tuple
    subst e
    simp only [VRel]
    exact ⟨x, rfl, frzL_vs F hx⟩
  · exact (frzV_rel F hv).1

theorem frzB_rel {r δ m : Nat} {c : Array Value} {e : TypeId} (F : Frz ρ μ b off len es j r δ m c e) {B : Block} {o : Option Obj} {x : Nat × Nat} (hB : BRel ρ μ B o x) : BRel ρ μ (frzB b off len es j B) o x := by
  cases B with
  | cells vs =>
    obtain ⟨d, t, ho, hm, hc⟩ := hB
    refine ⟨d, t, ho, hm, fun i a ha => ?_⟩
    rw [frzL_get] at ha
    obtain ⟨a', ha', rfl⟩ := Option.map_eq_some_iff.1 ha
    obtain ⟨v, h1, h2, h3⟩ := hc i a' ha'
    obtain ⟨k1, k2⟩ := frzV_rel F h3
    exact ⟨v, h1, by rw [k2]; exact h2, k1⟩
  | typed t vs =>
    obtain ⟨d, ho, ⟨h0, hs⟩, hm, hc⟩ := hB
    have hl : (frzL b off len es j vs).length = vs.length := by
      have : ∀ l : List AVal, (frzL b off len es j l).length = l.length := fun l => by
        induction l with
        | nil => rfl
        | cons v l ih => rw [frzL_cons]; simp [ih]
      exact this vs
    refine ⟨d, ho, ⟨h0, by rw [hl]; exact hs⟩, hm, fun i a ha => ?_⟩
    rw [frzL_get] at ha
    obtain ⟨a', ha', rfl⟩ := Option.map_eq_some_iff.1 ha
    obtain ⟨v, h1, h2, h3⟩ := hc i a' ha'
    obtain ⟨k1, k2⟩ := frzV_rel F h3
    exact ⟨v, h1, by rw [k2]; exact h2, k1⟩
  | map es clock => exact hB
  | bytes n e => exact hB
  | sbytes n e => exact hB
  | list i es => exact hB
  | smap i => exact hB

theorem frzW_rel {i : Nat} {t : ST} {r m : Nat} {c : Array Value} {e : TypeId} (hs : μ b = some (r, 0, m)) (hi : μ.ice r = some (.cells c e (0, 0))) (hr : RepLL μ.ice es c 0 (ρ.lst i)) (ht : t.den ρ = ((ρ.lst i).length : Int)) {v : AVal} {u : Value} (hv : VRel ρ μ v u) : VRel ρ μ (frzW b i es t v) u ∧ (frzW b i es t v).single = v.single := by
  unfold frzW
  split
  · rename_i b' es' n
    cases hc : Nat.beq b b' && (Nat.beq es es' && n.eq t) with
    | false => exact ⟨hv, rfl⟩
    | true =>
      rw [Bool.and_eq_true, Bool.and_eq_true, nbeq_iff, nbeq_iff] at hc
      obtain ⟨rfl, rfl, hn⟩ := hc
      have hn := ST.eq_sound hn
      subst hn
      obtain ⟨r', m', k, h1, h2, h3, h4, h5⟩ := hv.vec
      rw [hs] at h1
      simp only [Option.some.injEq, Prod.mk.injEq, true_and] at h1
      obtain ⟨rfl, rfl⟩ := h1
      have hk : (ρ.lst i).length = k := by omega
      refine ⟨?_, rfl⟩
      simp only [cond_true, VRel, Rep]
      exact ⟨⟨hCap m, by omega, .inr ⟨r, 0, c, e, by rw [hk]; exact h2, hi, hr⟩⟩, ht, fun e => by cases e⟩
  · exact ⟨hv, rfl⟩

theorem frzWL_cons (b i es : Nat) (t : ST) (v : AVal) (r : List AVal) : frzWL b i es t (v :: r) = frzW b i es t v :: frzWL b i es t r := rfl

theorem frzWL_get {i : Nat} {t : ST} : ∀ {l : List AVal} {k : Nat}, (frzWL b i es t l)[k]? = (l[k]?).map (frzW b i es t)
  | [], k => by show ([] : List AVal)[k]? = _; simp
  | v :: r, k => by
    rw [frzWL_cons]
    cases k with
    | zero => simp
    | succ k => simpa using frzWL_get (l := r) (k := k)

theorem isTrueO_iff {o : Option Bool} : isTrueO o = true ↔ o = some true := by
  unfold isTrueO
  split
  · simp
  · rename_i h
    constructor
    · intro e; cases e
    · intro e; exact absurd e h

theorem frzOk_spec {Γ : Facts} (hΓ : Γ.Hold ρ) {vs : List AVal} (hk : frzOk Γ off len es j vs = true) : ∃ cs, cut vs off (len * es) = some cs ∧ (ρ.lst j).length = len ∧ (∀ p ∈ ρ.lst j, p.length = es) ∧ FDens ρ (looseL cs) (ρ.lst j).flatten := by
  unfold frzOk at hk
  obtain ⟨cs, hcs, hk2⟩ := bnd_some (isTrueO_iff.1 hk)
  obtain ⟨_, hk3⟩ := cond_some hk2
  obtain ⟨E, hE, hk4⟩ := bnd_some hk3
  obtain ⟨j', hj', hk5⟩ := bnd_some hk4
  simp only [Option.some.injEq] at hk5
  have hk5 := nbeq_iff.1 hk5
  subst hk5
  obtain ⟨c1, c2, c3⟩ := chunkA_spec hE
  obtain ⟨A, B, e1, e2, e3⟩ := hΓ.defs _ (lookD_mem hj')
  have e3 : B = [] := e3
  subst e3
  rw [List.append_nil] at e1
  have e1 : ρ.lst j' = A := e1
  subst e1
  obtain ⟨f1, f2, f3⟩ := FDenss.flat e2
  exact ⟨cs, hcs, by omega, f3 es c3, by rw [c1] at f1; exact f1⟩

/-- cells of a block, as data -/
theorem cut_freeze {vs cs : List AVal} {c : Array Value} {δ n : Nat} (hc : ∀ (i : Nat) (x : AVal), vs[i]? = some x → ∃ v, c[δ + i]? = some v ∧ x.single = true ∧ VRel ρ μ x v) (hcut : cut vs off n = some cs) {ps : List PV} (hd : FDens ρ (looseL cs) ps) : RepL μ.ice c (δ + off) ps := by
  obtain ⟨l, h1, h2, h3⟩ := cut_cells hc hcut
  exact CsRel.freeze hd h2 fun i v hv => h3 i v hv

/-- a block becomes ice, and values are said in other words -/
theorem frz_core {nt : Nat} {f : Fr} {a : Act} (F : FRel ρ μ nt f a w) {B0 : Block} {r : Nat} {x0 : Nat × Nat} (hb : f.h.get b = some B0) (hm : μ b = some (r, x0)) (gA : AVal → AVal) (gB : Block → Block)
    (hA : ∀ v u, VRel ρ (μ.cool r w.heap[r]?) v u → VRel ρ (μ.cool r w.heap[r]?) (gA v) u) (hB : ∀ B o x, BRel ρ (μ.cool r w.heap[r]?) B o x → BRel ρ (μ.cool r w.heap[r]?) (gB B) o x) :
    ∃ μ', FRel ρ μ' nt ⟨Tr.map gA f.tm, ⟨Tr.map gB (Tr.set f.h.tab b none), f.h.next, f.h.fx⟩, f.df⟩ a w ∧ Grows ρ μ f.h w μ' ⟨Tr.map gB (Tr.set f.h.tab b none), f.h.next, f.h.fx⟩ w := by
  have H := F.heap
  have hown : Owned μ f.h r := ⟨b, _, x0, hb, hm⟩
  have hice : ∀ x, μ.ice r = some x → w.heap[r]? = some x := fun x hx => absurd hown (H.tabs.ice r x hx).2
  have hle : μ.le (μ.cool r w.heap[r]?) := Where.le_cool hice
  have hget : ∀ d B, (⟨Tr.map gB (Tr.set f.h.tab b none), f.h.next, f.h.fx⟩ : Heap).get d = some B → ∃ B', f.h.get d = some B' ∧ B = gB B' ∧ d ≠ b := fun d B hd => by
    have hd : (Tr.map gB (Tr.set f.h.tab b none)).get d = some B := hd
    rw [Tr.get_map, Tr.get_set] at hd
    obtain ⟨B', h1, h2⟩ := Option.map_eq_some_iff.1 hd
    by_cases e : d = b
    · rw [if_pos e] at h1; cases h1
    · rw [if_neg e] at h1; exact ⟨B', h1, h2.symm, e⟩
  have hown' : ∀ s, Owned (μ.cool r w.heap[r]?) ⟨Tr.map gB (Tr.set f.h.tab b none), f.h.next, f.h.fx⟩ s → Owned μ f.h s ∧ s ≠ r := fun s ⟨d, B, x, h1, h2⟩ => by
    obtain ⟨B', k1, k2, k3⟩ := hget d B h1
    exact ⟨⟨d, B', x, k1, h2⟩, fun e => k3 (H.inj _ _ _ _ _ _ _ k1 hb h2 (e ▸ hm))⟩
  have hH : HRel ρ (μ.cool r w.heap[r]?) ⟨Tr.map gB (Tr.set f.h.tab b none), f.h.next, f.h.fx⟩ w := by
    refine ⟨fun d hd => H.fresh d hd, fun d B hd => ?_, fun d d' B B' s x x' h1 h2 m1 m2 => ?_, ⟨fun g o hg => ?_, fun g o hg => ?_, H.tabs.facts⟩⟩
    · obtain ⟨B', k1, rfl, k3⟩ := hget d B hd
      obtain ⟨s, x, e1, e2⟩ := H.blk d B' k1
      exact ⟨s, x, e1, hB _ _ _ (e2.mono hle)⟩
    · obtain ⟨B1, k1, _, _⟩ := hget _ _ h1
      obtain ⟨B2, k2, _, _⟩ := hget _ _ h2
      exact H.inj _ _ _ _ _ _ _ k1 k2 m1 m2
    · obtain ⟨q1, q2⟩ := H.tabs.tabs g o hg
      exact ⟨q1, fun e => q2 (hown' g e).1⟩
    · have hg : (if g = r then w.heap[r]? else μ.ice g) = some o := hg
      by_cases e : g = r
      · subst e
        rw [if_pos rfl] at hg
        exact ⟨hg, fun q => (hown' _ q).2 rfl⟩
      · rw [if_neg e] at hg
        obtain ⟨q1, q2⟩ := H.tabs.ice g o hg
        exact ⟨q1, fun q => q2 (hown' g q).1⟩
  refine ⟨μ.cool r w.heap[r]?, ⟨fun t => ?_, F.size, hH, F.defs.mono hle⟩, ⟨hle, hH, Nat.le_refl _, fun s _ hs => ⟨rfl, fun q => hs (hown' s q).1⟩, rfl, rfl, Nat.le_refl _, fun _ _ => rfl, fun g o hg => ?_, rfl⟩⟩
  · show VRel _ _ (orAny ((Tr.map gA f.tm).get t)) _
    rw [Tr.get_map]
    have ht := (F.tmps t).mono hle
    cases hx : f.tm.get t with
    | none => trivial
    | some v =>
      rw [hx] at ht
      exact hA _ _ ht
  · have hg : (if g = r then w.heap[r]? else μ.ice g) = some o := hg
    by_cases e : g = r
    · subst e; exact .inr (.inl hown)
    · rw [if_neg e] at hg; exact .inl hg

theorem frzOne_sound {Γ : Facts} (hΓ : Γ.Hold ρ) {nt : Nat} {f : Fr} {a : Act} (F : FRel ρ μ nt f a w) (z : Nat × Nat × Nat × Nat × Nat) : ∃ μ', FRel ρ μ' nt (frzOne Γ z f) a w ∧ Grows ρ μ f.h w μ' (frzOne Γ z f).h w := by
  have same : ∃ μ', FRel ρ μ' nt f a w ∧ Grows ρ μ f.h w μ' f.h w := ⟨μ, F, Grows.refl F.heap⟩
  have H := F.heap
  unfold frzOne
  split
  case h_3 => exact same
  · rename_i vs hb
    cases hk : frzOk Γ z.2.1 z.2.2.1 z.2.2.2.1 z.2.2.2.2 vs with
    | false => exact same
    | true =>
    simp only [cond_true]
    obtain ⟨b, off, len, es, j⟩ := z
    simp only at hb hk ⊢
    obtain ⟨cs, hcut, hlen, hall, hd⟩ := frzOk_spec hΓ hk
    obtain ⟨r, ⟨δ, m⟩, hm, c, t, ho, hsz, hc⟩ := H.blk b _ hb
    have hown : Owned μ f.h r := ⟨b, _, (δ, m), hb, hm⟩
    have hice : ∀ x, μ.ice r = some x → w.heap[r]? = some x := fun x hx => absurd hown (H.tabs.ice r x hx).2
    have hle : μ.le (μ.cool r w.heap[r]?) := Where.le_cool hice
    have hrep : RepL μ.ice c (δ + off) (ρ.lst j).flatten := cut_freeze hc hcut hd
    have Z : Frz ρ (μ.cool r w.heap[r]?) b off len es j r δ m c t := by
      refine ⟨hm, hlen, ?_, ?_⟩
      · show (if r = r then w.heap[r]? else μ.ice r) = _
        rw [if_pos rfl]; exact ho
      · exact RepLL.mono hle.ice (RepLL_flat.2 ⟨hall, hrep⟩)
    exact frz_core F hb hm _ _ (fun v u hv => frzA_rel Z hv) (fun B o x hB => frzB_rel Z hB)
  · rename_i i es hb
    cases hk : Nat.beq i z.2.2.2.2 with
    | false => exact same
    | true =>
    simp only [cond_true]
    split
    case h_2 => exact same
    rename_i t ht
    obtain ⟨r, ⟨δ, m⟩, hm, c, e, ho, h0, h1, h2, h3, h4, h5⟩ := H.blk z.1 _ hb
    subst h0
    have hown : Owned μ f.h r := ⟨z.1, _, (0, m), hb, hm⟩
    have hice : ∀ x, μ.ice r = some x → w.heap[r]? = some x := fun x hx => absurd hown (H.tabs.ice r x hx).2
    have hle : μ.le (μ.cool r w.heap[r]?) := Where.le_cool hice
    have hi : (μ.cool r w.heap[r]?).ice r = some (.cells c e (0, 0)) := by
      show (if r = r then w.heap[r]? else μ.ice r) = _
      rw [if_pos rfl]; exact ho
    have ht : t.den ρ = ((ρ.lst i).length : Int) := hΓ.llen _ (lookLen_mem ht)
    have hv : ∀ {v : AVal} {u : Value}, VRel ρ (μ.cool r w.heap[r]?) v u → VRel ρ (μ.cool r w.heap[r]?) (frzW z.1 i es t v) u ∧ (frzW z.1 i es t v).single = v.single := fun {v u} h => frzW_rel (μ := μ.cool r w.heap[r]?) (m := m) hm hi (RepLL.mono hle.ice h5) ht h
    have hcs : ∀ {l : List AVal} {us : List Value}, CsRel ρ (μ.cool r w.heap[r]?) l us → CsRel ρ (μ.cool r w.heap[r]?) (frzWL z.1 i es t l) us := by
      intro l
      induction l with
      | nil => intro us h; exact h
      | cons v l ih =>
        intro us h
        rw [frzWL_cons]
        simp only [CsRel] at h ⊢
        obtain ⟨u, rest, rfl, ⟨h1, h2⟩, h3⟩ := h
        obtain ⟨k1, k2⟩ := hv h2
        exact ⟨u, rest, rfl, ⟨by rw [k2]; exact h1, k1⟩, ih h3⟩
    have hvs : ∀ {l : List AVal} {us : List Value}, VsRel ρ (μ.cool r w.heap[r]?) l us → VsRel ρ (μ.cool r w.heap[r]?) (frzWL z.1 i es t l) us := by
      intro l
      induction l with
      | nil => intro us h; exact h
      | cons v l ih =>
        intro us h
        rw [frzWL_cons]
        simp only [VsRel] at h ⊢
        obtain ⟨u, rest, rfl, h2, h3⟩ := h
        exact ⟨u, rest, rfl, (hv h2).1, ih h3⟩
    refine frz_core F hb hm _ _ (fun v u hvu => ?_) (fun B o x hB => ?_)
    · unfold frzWA
      split
      · obtain ⟨x, e, hx⟩ := hvu.agg
        subst e
        simp only [VRel]
        exact ⟨x, rfl, hcs hx⟩
      · obtain ⟨x, e, hx⟩ := hvu.tuple
        subst e
        simp only [VRel]
        exact ⟨x, rfl, hvs hx⟩
      · exact (hv hvu).1
    · cases B with
      | cells vs =>
        obtain ⟨d, t', ho, hm, hc⟩ := hB
        refine ⟨d, t', ho, hm, fun k a ha => ?_⟩
        rw [frzWL_get] at ha
        obtain ⟨a', ha', rfl⟩ := Option.map_eq_some_iff.1 ha
        obtain ⟨v, h1, h2, h3⟩ := hc k a' ha'
        obtain ⟨k1, k2⟩ := hv h3
        exact ⟨v, h1, by rw [k2]; exact h2, k1⟩
      | typed t' vs =>
        obtain ⟨d, ho, ⟨h0, hs⟩, hm, hc⟩ := hB
        have hl : (frzWL z.1 i es t vs).length = vs.length := by
          have : ∀ l : List AVal, (frzWL z.1 i es t l).length = l.length := fun l => by
            induction l with
            | nil => rfl
            | cons v l ih => rw [frzWL_cons]; simp [ih]
          exact this vs
        refine ⟨d, ho, ⟨h0, by rw [hl]; exact hs⟩, hm, fun k a ha => ?_⟩
        rw [frzWL_get] at ha
        obtain ⟨a', ha', rfl⟩ := Option.map_eq_some_iff.1 ha
        obtain ⟨v, h1, h2, h3⟩ := hc k a' ha'
        obtain ⟨k1, k2⟩ := hv h3
        exact ⟨v, h1, by rw [k2]; exact h2, k1⟩
      | map es clock => exact hB
      | bytes n e => exact hB
      | sbytes n e => exact hB
      | list i es => exact hB
      | smap i => exact hB

theorem frzAll_sound {Γ : Facts} (hΓ : Γ.Hold ρ) {nt : Nat} {a : Act} : ∀ (l : List (Nat × Nat × Nat × Nat × Nat)) {μ : Where} {f : Fr}, FRel ρ μ nt f a w → ∃ μ', FRel ρ μ' nt (frzAll Γ l f) a w ∧ Grows ρ μ f.h w μ' (frzAll Γ l f).h w
  | [], μ, f, F => ⟨μ, F, Grows.refl F.heap⟩
  | z :: l, μ, f, F => by
    obtain ⟨μ1, F1, g1⟩ := frzOne_sound hΓ F z
    obtain ⟨μ2, F2, g2⟩ := frzAll_sound hΓ l F1
    exact ⟨μ2, F2, g1.trans g2⟩

theorem settle_lands {Γ : Facts} (hΓ : Γ.Hold ρ) {nt : Nat} {h : Heap} {Q : Exit → Act → World → Prop} {r : AExit × Fr} (L : Lands ρ nt μ h w Q (settleA Γ r)) : Lands ρ nt μ h w Q r := by
  unfold settleA at L
  split at L
  · rename_i z l h1 h2
    intro μ' a' w' e F g he
    obtain ⟨μ2, F2, g2⟩ := frzAll_sound hΓ (z :: l) F
    rw [h1] at he
    exact L μ2 a' w' e F2 (g.trans g2) he
  · exact L
end
end Go.AM
