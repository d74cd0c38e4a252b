/- Pieces of memory: how they are found, what becomes of them where they lie. -/
import Derived.Test.YthgbnljjolhodaaGreatDoorAmFrz
import Derived.WalkKit
import Derived.ProofKit
import Derived.OpenShut
set_option linter.all false
namespace Go.AM

/-- the empty memory -/
def empty (d : Nat) (fx : Facts := {}) : Heap := ⟨Tr.full Block d, 0, fx⟩

theorem empty_get (d : Nat) (fx : Facts) (b : Nat) : (empty d fx).get b = none := Tr.get_full d b

theorem empty_rel' {ρ : Env} {T : Nat → Option Obj} (d : Nat) {fx : Facts} (w : World) (hT : ∀ g o, ρ.tabs g = some o → w.heap[g]? = some o) (hI : ∀ g o, T g = some o → w.heap[g]? = some o) (hf : fx.Hold ρ) : HRel ρ ⟨fun _ => none, T⟩ (empty d fx) w where
  tabs := ⟨fun g o h => ⟨hT g o h, by rintro ⟨_, _, _, _, e⟩; cases e⟩, fun g o h => ⟨hI g o h, by rintro ⟨_, _, _, _, e⟩; cases e⟩, hf⟩
  fresh := fun _ _ => rfl
  blk := fun b B hb => by rw [empty_get] at hb; cases hb
  inj := fun b _ B _ _ _ _ hb => by rw [empty_get] at hb; cases hb

theorem empty_rel {ρ : Env} (d : Nat) (w : World) (hT : ∀ g o, ρ.tabs g = some o → w.heap[g]? = some o) : HRel ρ Where.none (empty d) w :=
  empty_rel' d w hT (fun _ _ h => by cases h) (Facts.Hold.none ρ)

/-! ### Lists -/

theorem nnth_lt {σ : List Nat} {i b : Nat} (h : nnth σ i = some b) : i < σ.length := by
  rw [nnth_eq] at h
  exact (List.getElem?_eq_some_iff.1 h).1

theorem memN_iff {n : Nat} : ∀ {l : List Nat}, memN n l = true ↔ n ∈ l
  | [] => by
    constructor
    · intro h; cases h
    · intro h; cases h
  | m :: r => by
    have e : memN n (m :: r) = (Nat.beq m n || memN n r) := rfl
    rw [e, Bool.or_eq_true, nbeq_iff, memN_iff, List.mem_cons]
    constructor
    · rintro (h | h)
      · exact .inl h.symm
      · exact .inr h
    · rintro (h | h)
      · exact .inl h.symm
      · exact .inr h

theorem nodupN_iff : ∀ {l : List Nat}, nodupN l = true → l.Nodup
  | [], _ => List.nodup_nil
  | n :: r, h => by
    have e : nodupN (n :: r) = (!(memN n r) && nodupN r) := rfl
    rw [e, Bool.and_eq_true] at h
    refine List.nodup_cons.2 ⟨fun hm => ?_, nodupN_iff h.2⟩
    rw [memN_iff.2 hm] at h
    cases h.1

theorem blen_eq : ∀ l : List Block, blen l = l.length
  | [] => rfl
  | _ :: r => by show blen r + 1 = _; rw [blen_eq r]; rfl

theorem olen_eq : ∀ l : List (Option Block), olen l = l.length
  | [] => rfl
  | _ :: r => by show olen r + 1 = _; rw [olen_eq r]; rfl

theorem nnth_inj {σ : List Nat} (hn : σ.Nodup) {i j b : Nat} (hi : nnth σ i = some b) (hj : nnth σ j = some b) : i = j := by
  rw [nnth_eq] at hi hj
  obtain ⟨h1, e1⟩ := List.getElem?_eq_some_iff.1 hi
  obtain ⟨h2, e2⟩ := List.getElem?_eq_some_iff.1 hj
  exact (List.getElem_inj hn).1 (e1.trans e2.symm)

theorem moreN_get : ∀ (l : List (Option Block)) (k n i : Nat), (moreN l k n)[i]? = if k + i < l.length then some (n + i) else none
  | [], k, n, i => by rw [if_neg (by simp)]; show ([] : List Nat)[i]? = none; simp
  | _ :: r, 0, n, i => by
    show (n :: moreN r 0 (n + 1))[i]? = _
    cases i with
    | zero => simp
    | succ i =>
      rw [List.getElem?_cons_succ, moreN_get r 0 (n + 1) i]
      simp only [List.length_cons, Nat.zero_add, Nat.add_lt_add_iff_right]
      rw [show n + 1 + i = n + (i + 1) by omega]
  | _ :: r, k + 1, n, i => by
    show (moreN r k n)[i]? = _
    rw [moreN_get r k n i, List.length_cons]
    by_cases hc : k + i < r.length
    · rw [if_pos hc, if_pos (by omega)]
    · rw [if_neg hc, if_neg (by omega)]

/-! ### The pieces' memory -/

theorem heapOf_spec : ∀ (l : List Block) (h : Heap), (heapOf l h).next = h.next + l.length ∧ (heapOf l h).fx = h.fx ∧
    ∀ b, (heapOf l h).get b = if h.next ≤ b ∧ b < h.next + l.length then l[b - h.next]? else h.get b
  | [], h => ⟨rfl, rfl, fun b => by rw [if_neg (by simp only [List.length_nil]; omega)]; rfl⟩
  | B :: r, h => by
    have e : heapOf (B :: r) h = heapOf r (h.add B) := rfl
    obtain ⟨h1, hf, h2⟩ := heapOf_spec r (h.add B)
    rw [e]
    refine ⟨by rw [h1, Heap.next_add, List.length_cons]; omega, hf, fun b => ?_⟩
    rw [h2 b, Heap.next_add, List.length_cons, Heap.get_add]
    by_cases hb : b = h.next
    · subst hb
      rw [if_neg (by omega), if_pos rfl, if_pos (by omega)]
      simp
    · by_cases hc : h.next + 1 ≤ b ∧ b < h.next + 1 + r.length
      · rw [if_pos hc, if_pos (by omega)]
        have : b - h.next = (b - (h.next + 1)) + 1 := by omega
        rw [this, List.getElem?_cons_succ]
      · rw [if_neg hc, if_neg hb, if_neg (by omega)]

theorem heapP_spec : ∀ (l : List (Option Block)) (h : Heap), (heapP l h).next = h.next + l.length ∧ (heapP l h).fx = h.fx ∧
    ∀ b, (heapP l h).get b = if h.next ≤ b ∧ b < h.next + l.length then (l[b - h.next]?).join else h.get b
  | [], h => ⟨rfl, rfl, fun b => by rw [if_neg (by simp only [List.length_nil]; omega)]; rfl⟩
  | B :: r, h => by
    have e : heapP (B :: r) h = heapP r ⟨Tr.set h.tab h.next B, h.next + 1, h.fx⟩ := rfl
    obtain ⟨h1, hf, h2⟩ := heapP_spec r ⟨Tr.set h.tab h.next B, h.next + 1, h.fx⟩
    rw [e]
    refine ⟨by rw [h1, List.length_cons]; show h.next + 1 + _ = _; omega, hf, fun b => ?_⟩
    have hg : (⟨Tr.set h.tab h.next B, h.next + 1, h.fx⟩ : Heap).get b = if b = h.next then B else h.get b := Tr.get_set _ _ _ _
    rw [h2 b, List.length_cons, hg]
    show (if h.next + 1 ≤ b ∧ b < h.next + 1 + r.length then (r[b - (h.next + 1)]?).join else _) = _
    by_cases hb : b = h.next
    · subst hb
      rw [if_neg (by omega), if_pos rfl, if_pos (by omega)]
      simp
    · by_cases hc : h.next + 1 ≤ b ∧ b < h.next + 1 + r.length
      · rw [if_pos hc, if_pos (by omega)]
        have : b - h.next = (b - (h.next + 1)) + 1 := by omega
        rw [this, List.getElem?_cons_succ]
      · rw [if_neg hc, if_neg hb, if_neg (by omega)]

theorem pre_get {d : Nat} {fx : Facts} {l : List Block} {b : Nat} : (heapOf l (empty d fx)).get b = l[b]? := by
  obtain ⟨_, _, h⟩ := heapOf_spec l (empty d fx)
  rw [h b]
  have e : (empty d fx).next = 0 := rfl
  rw [e]
  by_cases hb : b < l.length
  · rw [if_pos (by omega)]; rfl
  · rw [if_neg (by omega), empty_get, List.getElem?_eq_none (by omega)]

theorem post_get {d : Nat} {fx : Facts} {l : List (Option Block)} {b : Nat} : (heapP l (empty d fx)).get b = (l[b]?).join := by
  obtain ⟨_, _, h⟩ := heapP_spec l (empty d fx)
  rw [h b]
  have e : (empty d fx).next = 0 := rfl
  rw [e]
  by_cases hb : b < l.length
  · rw [if_pos (by omega)]; rfl
  · rw [if_neg (by omega), empty_get, List.getElem?_eq_none (by omega)]; rfl

theorem pre_next {d : Nat} {fx : Facts} {l : List Block} : (heapOf l (empty d fx)).next = l.length := by
  have h := (heapOf_spec l (empty d fx)).1
  rw [h]; show 0 + _ = _; omega

theorem post_next {d : Nat} {fx : Facts} {l : List (Option Block)} : (heapP l (empty d fx)).next = l.length := by
  have h := (heapP_spec l (empty d fx)).1
  rw [h]; show 0 + _ = _; omega

/-! ### Renumbering -/

section
variable {ρ : Env} {μ μ' : Where} {σ : List Nat}

/-- where the two tables agree on the pieces' numbers -/
structure Ren (μ' μ : Where) (σ : List Nat) : Prop where
  spot : ∀ i b, nnth σ i = some b → μ' i = μ b
  ice : μ'.ice = μ.ice

theorem renV_rel (R : Ren μ' μ σ) {p a : AVal} (h : renV σ p = some a) {u : Value} : (VRel ρ μ a u ↔ VRel ρ μ' p u) ∧ a.single = p.single := by
  have hμ := R.spot
  cases p <;> simp only [renV, Option.some.injEq, reduceCtorEq] at h
  case ptr b o =>
    obtain ⟨c, hc, e⟩ := bnd_some h
    simp only [Option.some.injEq] at e
    subst e
    simp only [VRel, hμ _ _ hc, AVal.single, and_self]
  case slice b o l c =>
    obtain ⟨c, hc, e⟩ := bnd_some h
    simp only [Option.some.injEq] at e
    subst e
    simp only [VRel, hμ _ _ hc, AVal.single, and_self]
  case gslice b o l es =>
    obtain ⟨c, hc, e⟩ := bnd_some h
    simp only [Option.some.injEq] at e
    subst e
    simp only [VRel, hμ _ _ hc, AVal.single, and_self]
  case map b =>
    obtain ⟨c, hc, e⟩ := bnd_some h
    simp only [Option.some.injEq] at e
    subst e
    simp only [VRel, hμ _ _ hc, AVal.single, and_self]
  case vec b es n =>
    obtain ⟨c, hc, e⟩ := bnd_some h
    simp only [Option.some.injEq] at e
    subst e
    simp only [VRel, hμ _ _ hc, AVal.single, and_self]
  case gbytes b =>
    obtain ⟨c, hc, e⟩ := bnd_some h
    simp only [Option.some.injEq] at e
    subst e
    simp only [VRel, hμ _ _ hc, AVal.single, and_self]
  all_goals
    subst h
    simp only [VRel, R.ice, AVal.single, and_self]

theorem loose_rel {a : AVal} {u : Value} (h : VRel ρ μ a u) : VRel ρ μ (loose a) u ∧ (loose a).single = a.single := by
  cases a <;> simp only [loose, and_true] <;> try exact h
  case lst f i es n =>
    obtain ⟨h1, h2, _⟩ := h.lst
    exact ⟨by simp only [VRel]; exact ⟨h1, h2, fun e => by cases e⟩, rfl⟩

theorem eqRen_rel {Γ : Facts} (hΓ : Γ.Hold ρ) (R : Ren μ' μ σ) {p a : AVal} (h : eqRen Γ σ p a = true) {u : Value} (hv : VRel ρ μ a u) : VRel ρ μ' p u ∧ p.single = a.single := by
  unfold eqRen at h
  split at h
  · rename_i v hr
    rw [Bool.or_eq_true, Bool.or_eq_true] at h
    rcases h with (h | h) | h
    · have h := AVal.eq_spec h
      subst h
      obtain ⟨k1, k2⟩ := renV_rel (ρ := ρ) R hr (u := u)
      exact ⟨k1.1 hv, k2.symm⟩
    · have h := AVal.eq_spec h
      subst h
      obtain ⟨k1, k2⟩ := renV_rel (ρ := ρ) R hr (u := u)
      obtain ⟨q1, q2⟩ := loose_rel hv
      exact ⟨k1.1 q1, by rw [← k2, q2]⟩
    · split at h
      · rename_i j es n
        rw [Bool.and_eq_true, Bool.and_eq_true] at h
        obtain ⟨h1, h2, h3⟩ := h
        have ha : a = .nilSlice := by
          unfold isNilS at h1
          split at h1
          · rfl
          · cases h1
        subst ha
        have hl : (ρ.lst j).length = 0 := by
          unfold emptyL at h2
          split at h2
          · rename_i e
            have := hΓ.llen _ (lookLen_mem e)
            have this : (0 : Int) = ((ρ.lst j).length : Int) := this
            omega
          · cases h2
        have hj : ρ.lst j = [] := List.eq_nil_of_length_eq_zero hl
        have e : u = .slice none 0 0 := by simpa only [VRel] using hv
        obtain ⟨k1, k2⟩ := renV_rel (ρ := ρ) R hr (u := u)
        refine ⟨k1.1 ?_, by rw [← k2]; rfl⟩
        rw [ST.eq_sound h3]
        simp only [VRel, Rep]
        exact ⟨⟨0, by rw [hl]; exact Nat.le_refl _, .inl ⟨hj, none, e⟩⟩, by rw [hl]; rfl, fun e => by cases e⟩
      · cases h
  · cases h

theorem eqRenL_cons {Γ : Facts} (p a : AVal) (ps as : List AVal) : eqRenL Γ σ (p :: ps) (a :: as) = (eqRen Γ σ p a && eqRenL Γ σ ps as) := rfl

theorem eqRenL_length {Γ : Facts} : ∀ {ps as : List AVal}, eqRenL Γ σ ps as = true → ps.length = as.length
  | [], [], _ => rfl
  | [], _ :: _, h => by cases h
  | _ :: _, [], h => by cases h
  | p :: ps, a :: as, h => by
    rw [eqRenL_cons, Bool.and_eq_true] at h
    simp [eqRenL_length h.2]

theorem eqRenL_get {Γ : Facts} : ∀ {ps as : List AVal}, eqRenL Γ σ ps as = true → ∀ (i : Nat) (p a : AVal), ps[i]? = some p → as[i]? = some a → eqRen Γ σ p a = true
  | [], [], _, i, p, a, h, _ => by simp at h
  | [], _ :: _, h, _, _, _, _, _ => by cases h
  | _ :: _, [], h, _, _, _, _, _ => by cases h
  | p :: ps, a :: as, h, i, q, b, h1, h2 => by
    rw [eqRenL_cons, Bool.and_eq_true] at h
    cases i with
    | zero =>
      simp only [List.getElem?_cons_zero, Option.some.injEq] at h1 h2
      subst h1 h2
      exact h.1
    | succ i => exact eqRenL_get h.2 i q b (by simpa using h1) (by simpa using h2)

theorem eqRenL_cs {Γ : Facts} (hΓ : Γ.Hold ρ) (R : Ren μ' μ σ) : ∀ {ps as : List AVal} {us : List Value}, eqRenL Γ σ ps as = true → CsRel ρ μ as us → CsRel ρ μ' ps us
  | [], [], us, _, h => by simp only [CsRel] at h ⊢; exact h
  | [], _ :: _, _, h, _ => by cases h
  | _ :: _, [], _, h, _ => by cases h
  | p :: ps, a :: as, us, h, hr => by
    rw [eqRenL_cons, Bool.and_eq_true] at h
    simp only [CsRel] at hr ⊢
    obtain ⟨u, rest, e, ⟨h1, h2⟩, h3⟩ := hr
    obtain ⟨k1, k2⟩ := eqRen_rel hΓ R h.1 h2
    exact ⟨u, rest, e, ⟨by rw [k2]; exact h1, k1⟩, eqRenL_cs hΓ R h.2 h3⟩

theorem eqArg_rel {Γ : Facts} (hΓ : Γ.Hold ρ) (R : Ren μ' μ σ) {p a : AVal} (h : eqArg Γ σ p a = true) {u : Value} (hr : VRel ρ μ a u) : VRel ρ μ' p u := by
  unfold eqArg at h
  split at h
  · obtain ⟨x, e, hx⟩ := hr.agg
    subst e
    simp only [VRel]
    exact ⟨x, rfl, eqRenL_cs hΓ R h hx⟩
  · exact (eqRen_rel hΓ R h hr).1

theorem eqArgs_rel {Γ : Facts} (hΓ : Γ.Hold ρ) (R : Ren μ' μ σ) : ∀ {ps as : List AVal} {us : List Value}, eqArgs Γ σ ps as = true → VsRel ρ μ as us → VsRel ρ μ' ps us
  | [], [], us, _, h => by simp only [VsRel] at h ⊢; exact h
  | [], _ :: _, _, h, _ => by cases h
  | _ :: _, [], _, h, _ => by cases h
  | p :: ps, a :: as, us, h, hr => by
    have e : eqArgs Γ σ (p :: ps) (a :: as) = (eqArg Γ σ p a && eqArgs Γ σ ps as) := rfl
    rw [e, Bool.and_eq_true] at h
    simp only [VsRel] at hr ⊢
    obtain ⟨u, rest, e, h1, h2⟩ := hr
    exact ⟨u, rest, e, eqArg_rel hΓ R h.1 h1, eqArgs_rel hΓ R h.2 h2⟩

theorem lookMd_mem {i : Nat} {v : List (AVal × List AVal)} : ∀ {l : List (Nat × List (AVal × List AVal))}, lookMd i l = some v → (i, v) ∈ l
  | [], h => by cases h
  | e :: r, h => by
    have h : (bif Nat.beq e.1 i then some e.2 else lookMd i r) = some v := h
    cases c : Nat.beq e.1 i with
    | true =>
      rw [c] at h
      simp only [cond_true, Option.some.injEq] at h
      rw [← h, ← Nat.eq_of_beq_eq_true c]
      exact List.mem_cons_self
    | false => rw [c] at h; exact List.mem_cons_of_mem _ (lookMd_mem h)

/-- a map's entries as data -/
theorem eqEs_rel : ∀ {es : List Entry} {l : List (AVal × List AVal)} {ms : List MapEntry} {d : List (List Nat × List PV)}, eqEs es l = true → MDen ρ l d → EsRel ρ μ es ms → MRel μ.ice d ms
  | [], [], ms, d, _, hd, h => by
    have hd : d = [] := hd
    subst hd
    exact h
  | [], _ :: _, _, _, h, _, _ => by cases h
  | _ :: _, [], _, _, h, _, _ => by cases h
  | e :: es, x :: l, ms, d, h, hd, hr => by
    have h : (e.key.eq x.1 && ((match e.val with | .agg cs => denL cs && AVal.eqL (looseL cs) x.2 | _ => false) && eqEs es l)) = true := h
    rw [Bool.and_eq_true, Bool.and_eq_true] at h
    obtain ⟨h1, h2, h3⟩ := h
    obtain ⟨s, ps, rest, rfl, d1, d2, d3⟩ := hd
    obtain ⟨m, mrest, rfl, ⟨_, m1, m2, _⟩, m4⟩ := hr
    rw [← AVal.eq_spec h1] at d1
    obtain ⟨b, k1, k2⟩ := strV_sound d1 m1
    split at h2
    · rename_i cs ecs
      rw [Bool.and_eq_true] at h2
      rw [ecs] at m2
      obtain ⟨a, ea, ha⟩ := m2.agg
      have hlen : a.size = ps.length := by
        have q1 := ha.length
        have q2 := d2.length
        have q3 : (looseL cs).length = x.2.length := by rw [AVal.eqL_spec h2.2]
        rw [looseL_length] at q3
        simp at q1
        omega
      refine ⟨m, mrest, rfl, ⟨b, k1, k2⟩, ⟨a, ea, hlen, ?_⟩, eqEs_rel h3 d3 m4⟩
      exact CsRel.freeze (by rw [AVal.eqL_spec h2.2]; exact d2) ha fun i v hv => by simpa using hv
    · cases h2

theorem preOf_spec {i j : Nat} : ∀ {l : List (Nat × List LPart)}, (∀ x ∈ l, PartsDen ρ x.2 (ρ.lst x.1)) → preOf i j l = true → ∃ n, ρ.lst i = (ρ.lst j).take n
  | [], _, h => by cases h
  | x :: r, hl, h => by
    have h : ((Nat.beq x.1 i && (match x.2 with | [.take k _] => Nat.beq k j | _ => false)) || preOf i j r) = true := h
    rw [Bool.or_eq_true] at h
    rcases h with h | h
    · rw [Bool.and_eq_true, nbeq_iff] at h
      obtain ⟨h1, h2⟩ := h
      have hd := hl x List.mem_cons_self
      split at h2
      · rename_i k t e
        have h2 := nbeq_iff.1 h2
        rw [e, h1, h2] at hd
        obtain ⟨A, B, q1, ⟨_, _, q4⟩, q5⟩ := hd
        have q5 : B = [] := q5
        subst q5
        rw [List.append_nil] at q1
        exact ⟨_, q1.trans q4⟩
      · cases h2
    · exact preOf_spec (fun y hy => hl y (List.mem_cons_of_mem _ hy)) h

theorem eqBlk_rel {Γ : Facts} (hΓ : Γ.Hold ρ) (R : Ren μ' μ σ) {B A : Block} (h : eqBlk Γ σ B A = true) {o : Option Obj} {δ : Nat × Nat} (hA : BRel ρ μ A o δ) : BRel ρ μ' B o δ := by
  unfold eqBlk at h
  split at h
  · rename_i ps as
    obtain ⟨c, e, ho, hm, hc⟩ := hA
    have hl := eqRenL_length h
    refine ⟨c, e, ho, hm, fun i p hp => ?_⟩
    have hi := (List.getElem?_eq_some_iff.1 hp).1
    obtain ⟨a, ha⟩ : ∃ a, as[i]? = some a := ⟨_, List.getElem?_eq_getElem (by omega)⟩
    obtain ⟨v, h1, h2, h3⟩ := hc i a ha
    obtain ⟨k1, k2⟩ := eqRen_rel hΓ R (eqRenL_get h i p a hp ha) h3
    exact ⟨v, h1, by rw [k2]; exact h2, k1⟩
  · rename_i e ps e' as
    rw [Bool.and_eq_true, nbeq_iff] at h
    obtain ⟨rfl, h⟩ := h
    obtain ⟨c, ho, ⟨h0, hs⟩, hm, hc⟩ := hA
    have hl := eqRenL_length h
    refine ⟨c, ho, ⟨h0, by rw [hl]; exact hs⟩, hm, fun i p hp => ?_⟩
    have hi := (List.getElem?_eq_some_iff.1 hp).1
    obtain ⟨a, ha⟩ : ∃ a, as[i]? = some a := ⟨_, List.getElem?_eq_getElem (by omega)⟩
    obtain ⟨v, h1, h2, h3⟩ := hc i a ha
    obtain ⟨k1, k2⟩ := eqRen_rel hΓ R (eqRenL_get h i p a hp ha) h3
    exact ⟨v, h1, by rw [k2]; exact h2, k1⟩
  · rename_i i es j es'
    rw [Bool.and_eq_true, Bool.or_eq_true, nbeq_iff, nbeq_iff] at h
    obtain ⟨h, rfl⟩ := h
    obtain ⟨c, e, x1, x2, x3, x4, x5, x6, x7⟩ := hA
    rcases h with rfl | h
    · exact ⟨c, e, x1, x2, x3, x4, x5, x6, by rw [R.ice]; exact x7⟩
    · obtain ⟨n, hn⟩ := preOf_spec hΓ.defs h
      refine ⟨c, e, x1, x2, ?_, x4, x5, x6, ?_⟩
      · rw [hn, List.length_take]; omega
      · rw [R.ice, hn]
        rw [RepLL_flat] at x7 ⊢
        refine ⟨fun ps hps => x7.1 ps (List.mem_of_mem_take hps), ?_⟩
        have := x7.2
        rw [← List.take_append_drop n (ρ.lst j), List.flatten_append, RepL.append_iff] at this
        exact this.1
  · have h := nbeq_iff.1 h
    subst h
    obtain ⟨hδ, ms, c, x1, x2⟩ := hA
    exact ⟨hδ, ms, c, x1, by rw [R.ice]; exact x2⟩
  · rename_i i es clk
    obtain ⟨l, hl, h2⟩ := bnd_some (isTrueO_iff.1 h)
    simp only [Option.some.injEq] at h2
    obtain ⟨hδ, ms, ho, he⟩ := hA
    exact ⟨hδ, ms, clk, ho, by rw [R.ice]; exact eqEs_rel h2 (hΓ.mdefs _ (lookMd_mem hl)) he⟩
  · rw [Bool.and_eq_true, nbeq_iff] at h
    obtain ⟨h1, rfl⟩ := h
    rw [ST.eq_sound h1]
    exact hA
  · rename_i t e n e'
    rw [Bool.and_eq_true, nbeq_iff] at h
    obtain ⟨h1, rfl⟩ := h
    rw [ST.eq_sound h1]
    obtain ⟨c, x1, x2, x3, x4, x5, x6⟩ := hA
    refine ⟨c, x1, x2, x3, ?_, ?_, x6⟩
    · show (hLen _ : Int) ≤ Int.ofNat n
      simp only [Int.ofNat_eq_natCast]; omega
    · show Int.ofNat n ≤ 1048576
      simp only [Int.ofNat_eq_natCast]; omega
  · rw [Bool.and_eq_true, nbeq_iff, nbeq_iff] at h
    obtain ⟨rfl, rfl⟩ := h
    exact hA
  · cases h

theorem eqBs_get {Γ : Facts} {h : Heap} : ∀ {l : List Block} {k : Nat}, eqBs Γ h σ l k = true → ∀ i B, l[i]? = some B → ∃ b A, nnth σ (k + i) = some b ∧ h.get b = some A ∧ eqBlk Γ σ B A = true
  | [], _, _, i, vs, hv => by simp at hv
  | W :: r, k, hb, i, B, hv => by
    have e : eqBs Γ h σ (W :: r) k = (eqB Γ h σ k W && eqBs Γ h σ r (k + 1)) := rfl
    rw [e, Bool.and_eq_true] at hb
    cases i with
    | zero =>
      simp only [List.getElem?_cons_zero, Option.some.injEq] at hv
      subst hv
      have h1 := hb.1
      unfold eqB at h1
      split at h1
      · rename_i b hσ
        split at h1
        · rename_i A hg
          exact ⟨b, A, hσ, hg, h1⟩
        · cases h1
      · cases h1
    | succ i =>
      obtain ⟨b, A, h1, h2, h3⟩ := eqBs_get hb.2 i B (by simpa using hv)
      exact ⟨b, A, by rw [← h1]; congr 1; omega, h2, h3⟩

theorem renL_spec : ∀ {l r : List AVal}, renL σ l = some r → l.length = r.length ∧ ∀ (i : Nat) (a : AVal), r[i]? = some a → ∃ p, l[i]? = some p ∧ renV σ p = some a
  | [], r, h => by
    have h : some [] = some r := h
    simp only [Option.some.injEq] at h
    subst h
    exact ⟨rfl, fun i a ha => by simp at ha⟩
  | v :: l, r, h => by
    have h : (bnd (renV σ v) fun u => bnd (renL σ l) fun us => some (u :: us)) = some r := h
    obtain ⟨u, hu, h⟩ := bnd_some h
    obtain ⟨us, hus, h⟩ := bnd_some h
    simp only [Option.some.injEq] at h
    subst h
    obtain ⟨k1, k2⟩ := renL_spec hus
    refine ⟨by simp [k1], fun i a ha => ?_⟩
    cases i with
    | zero =>
      simp only [List.getElem?_cons_zero, Option.some.injEq] at ha
      subst ha
      exact ⟨v, rfl, hu⟩
    | succ i => simpa using k2 i a (by simpa using ha)

theorem renL_cs (R : Ren μ' μ σ) : ∀ {l r : List AVal} {us : List Value}, renL σ l = some r → CsRel ρ μ' l us → CsRel ρ μ r us
  | [], r, us, h, hr => by
    have h : some [] = some r := h
    simp only [Option.some.injEq] at h
    subst h
    exact hr
  | v :: l, r, us, h, hr => by
    have h : (bnd (renV σ v) fun u => bnd (renL σ l) fun us => some (u :: us)) = some r := h
    obtain ⟨u, hu, h⟩ := bnd_some h
    obtain ⟨us', hus, h⟩ := bnd_some h
    simp only [Option.some.injEq] at h
    subst h
    simp only [CsRel] at hr ⊢
    obtain ⟨x, rest, rfl, ⟨h1, h2⟩, h3⟩ := hr
    obtain ⟨k1, k2⟩ := renV_rel (ρ := ρ) R hu (u := x)
    exact ⟨x, rest, rfl, ⟨by rw [k2]; exact h1, k1.2 h2⟩, renL_cs R hus h3⟩

theorem renL_vs (R : Ren μ' μ σ) : ∀ {l r : List AVal} {us : List Value}, renL σ l = some r → VsRel ρ μ' l us → VsRel ρ μ r us
  | [], r, us, h, hr => by
    have h : some [] = some r := h
    simp only [Option.some.injEq] at h
    subst h
    exact hr
  | v :: l, r, us, h, hr => by
    have h : (bnd (renV σ v) fun u => bnd (renL σ l) fun us => some (u :: us)) = some r := h
    obtain ⟨u, hu, h⟩ := bnd_some h
    obtain ⟨us', hus, h⟩ := bnd_some h
    simp only [Option.some.injEq] at h
    subst h
    simp only [VsRel] at hr ⊢
    obtain ⟨x, rest, rfl, h2, h3⟩ := hr
    obtain ⟨k1, k2⟩ := renV_rel (ρ := ρ) R hu (u := x)
    exact ⟨x, rest, rfl, k1.2 h2, renL_vs R hus h3⟩

theorem renA_rel (R : Ren μ' μ σ) {p a : AVal} (h : renA σ p = some a) {u : Value} (hv : VRel ρ μ' p u) : VRel ρ μ a u := by
  unfold renA at h
  split at h
  · obtain ⟨cs, hcs, e⟩ := bnd_some h
    simp only [Option.some.injEq] at e
    subst e
    obtain ⟨x, rfl, hx⟩ := hv.agg
    simp only [VRel]
    exact ⟨x, rfl, renL_cs R hcs hx⟩
  · obtain ⟨cs, hcs, e⟩ := bnd_some h
    simp only [Option.some.injEq] at e
    subst e
    obtain ⟨x, rfl, hx⟩ := hv.tuple
    simp only [VRel]
    exact ⟨x, rfl, renL_vs R hcs hx⟩
  · exact (renV_rel R h).1.2 hv

theorem renB_rel (R : Ren μ' μ σ) {B C : Block} (h : renB σ B = some C) {o : Option Obj} {δ : Nat × Nat} (hB : BRel ρ μ' B o δ) : BRel ρ μ C o δ := by
  unfold renB at h
  split at h
  · rename_i vs
    obtain ⟨us, hus, e⟩ := bnd_some h
    simp only [Option.some.injEq] at e
    subst e
    obtain ⟨k1, k2⟩ := renL_spec hus
    obtain ⟨c, e, ho, hm, hc⟩ := hB
    refine ⟨c, e, ho, hm, fun i a ha => ?_⟩
    obtain ⟨p, hp, hr⟩ := k2 i a ha
    obtain ⟨v, h1, h2, h3⟩ := hc i p hp
    obtain ⟨q1, q2⟩ := renV_rel (ρ := ρ) R hr (u := v)
    exact ⟨v, h1, by rw [q2]; exact h2, q1.2 h3⟩
  · rename_i t vs
    obtain ⟨us, hus, e⟩ := bnd_some h
    simp only [Option.some.injEq] at e
    subst e
    obtain ⟨k1, k2⟩ := renL_spec hus
    obtain ⟨c, ho, ⟨h0, hs⟩, hm, hc⟩ := hB
    refine ⟨c, ho, ⟨h0, by rw [← k1]; exact hs⟩, hm, fun i a ha => ?_⟩
    obtain ⟨p, hp, hr⟩ := k2 i a ha
    obtain ⟨v, h1, h2, h3⟩ := hc i p hp
    obtain ⟨q1, q2⟩ := renV_rel (ρ := ρ) R hr (u := v)
    exact ⟨v, h1, by rw [q2]; exact h2, q1.2 h3⟩
  · simp only [Option.some.injEq] at h
    subst h
    obtain ⟨c, e, x1, x2, x3, x4, x5, x6, x7⟩ := hB
    exact ⟨c, e, x1, x2, x3, x4, x5, x6, by rw [← R.ice]; exact x7⟩
  · simp only [Option.some.injEq] at h
    subst h
    obtain ⟨hδ, ms, c, x1, x2⟩ := hB
    exact ⟨hδ, ms, c, x1, by rw [← R.ice]; exact x2⟩
  · simp only [Option.some.injEq] at h
    subst h
    exact hB
  · simp only [Option.some.injEq] at h
    subst h
    exact hB
  · cases h

theorem putPs_cons (B : Option Block) (r : List (Option Block)) (i : Nat) (h : Heap) : putPs σ (B :: r) i h = bnd (putP σ i B h) fun h' => putPs σ r (i + 1) h' := rfl

theorem putP_spec {i : Nat} {B : Option Block} {h h' : Heap} (hp : putP σ i B h = some h') : h'.next = h.next ∧ h'.fx = h.fx ∧ ∃ b, nnth σ i = some b ∧ ∃ C, (match B with | some B => ∃ D, renB σ B = some D ∧ C = some D | none => C = none) ∧ ∀ d, h'.get d = if d = b then C else h.get d := by
  unfold putP at hp
  obtain ⟨b, hb, hp⟩ := bnd_some hp
  cases B with
  | none =>
    simp only [Option.some.injEq] at hp
    subst hp
    exact ⟨rfl, rfl, b, hb, none, rfl, fun d => Heap.get_set _ _ _ _⟩
  | some B =>
    obtain ⟨D, hD, hp⟩ := bnd_some hp
    simp only [Option.some.injEq] at hp
    subst hp
    exact ⟨rfl, rfl, b, hb, some D, ⟨D, hD, rfl⟩, fun d => Heap.get_set _ _ _ _⟩

theorem putPs_spec (hn : σ.Nodup) : ∀ {l : List (Option Block)} {i : Nat} {h h' : Heap}, putPs σ l i h = some h' → h'.next = h.next ∧ h'.fx = h.fx ∧ (∀ b, (∀ j, j < l.length → nnth σ (i + j) ≠ some b) → h'.get b = h.get b) ∧
    ∀ j B, l[j]? = some B → ∃ b, nnth σ (i + j) = some b ∧ (match B with | some B => ∃ D, renB σ B = some D ∧ h'.get b = some D | none => h'.get b = none)
  | [], i, h, h', hp => by
    have hp : some h = some h' := hp
    simp only [Option.some.injEq] at hp
    subst hp
    exact ⟨rfl, rfl, fun _ _ => rfl, fun j B hB => by simp at hB⟩
  | B :: r, i, h, h', hp => by
    rw [putPs_cons] at hp
    obtain ⟨h1, hp1, hp2⟩ := bnd_some hp
    obtain ⟨n1, f1, b, hb, C, hC, g1⟩ := putP_spec hp1
    obtain ⟨n2, f2, g2, g3⟩ := putPs_spec hn hp2
    refine ⟨n2.trans n1, f2.trans f1, fun d hd => ?_, fun j D hD => ?_⟩
    · have q1 : ∀ j, j < r.length → nnth σ (i + 1 + j) ≠ some d := fun j hj => by
        rw [show i + 1 + j = i + (j + 1) by omega]; exact hd (j + 1) (by simp; omega)
      have q2 : d ≠ b := fun e => by
        subst e; exact hd 0 (by simp) (by simpa using hb)
      rw [g2 d q1, g1 d, if_neg q2]
    · cases j with
      | zero =>
        simp only [List.getElem?_cons_zero, Option.some.injEq] at hD
        subst hD
        have hkeep : h'.get b = C := by
          have q1 : ∀ j, j < r.length → nnth σ (i + 1 + j) ≠ some b := fun j hj e => by
            have := nnth_inj hn hb e
            omega
          rw [g2 b q1, g1 b, if_pos rfl]
        refine ⟨b, by simpa using hb, ?_⟩
        cases B with
        | none => exact hkeep.trans hC
        | some B => obtain ⟨D, k1, k2⟩ := hC; exact ⟨D, k1, hkeep.trans k2⟩
      | succ j =>
        obtain ⟨d, k1, k2⟩ := g3 j D (by simpa using hD)
        exact ⟨d, by rw [← k1]; congr 1; omega, k2⟩
end

/-- the pieces of memory that are named by `σ` -/
noncomputable def whereP (μ : Where) (σ : List Nat) : Where := ⟨fun i => (nnth σ i).bind μ.spot, μ.ice⟩

/-- memory has these pieces -/
structure Fits (Γ : Facts) (h : Heap) (σ : List Nat) (pre : List Block) (n : Nat) : Prop where
  len : σ.length = pre.length
  ple : pre.length ≤ n
  nodup : σ.Nodup
  bs : eqBs Γ h σ pre 0 = true

section
variable {ρ : Env} {μ : Where} {Γ : Facts} {h : Heap} {w : World} {σ : List Nat} {pre : List Block} {post : List (Option Block)}

theorem Fits.lt (F : Fits Γ h σ pre post.length) (H : HRel ρ μ h w) : ∀ i b, nnth σ i = some b → i < pre.length ∧ b < h.next := fun i b e => by
  have hi := nnth_lt e
  rw [F.len] at hi
  obtain ⟨b', A, k1, k2, _⟩ := eqBs_get F.bs i _ (List.getElem?_eq_getElem hi)
  rw [Nat.zero_add, e] at k1
  simp only [Option.some.injEq] at k1
  subst k1
  exact ⟨hi, H.next_lt k2⟩

theorem Fits.ren : Ren (whereP μ σ) μ σ := ⟨fun i b e => by show (nnth σ i).bind μ.spot = _; rw [e]; rfl, rfl⟩

theorem Fits.get (F : Fits Γ h σ pre post.length) : ∀ b B, (heapOf pre (empty 0)).get b = some B → ∃ c A, pre[b]? = some B ∧ nnth σ b = some c ∧ h.get c = some A ∧ eqBlk Γ σ B A = true := fun b B e => by
  rw [pre_get] at e
  obtain ⟨c, A, k1, k2, k3⟩ := eqBs_get F.bs b B e
  rw [Nat.zero_add] at k1
  exact ⟨c, A, e, k1, k2, k3⟩

theorem Fits.own (F : Fits Γ h σ pre post.length) : ∀ r, Owned (whereP μ σ) (heapOf pre (empty 0)) r → ∃ i b B δ, nnth σ i = some b ∧ h.get b = some B ∧ μ b = some (r, δ) := fun r ⟨b, B, δ, hb, hm⟩ => by
  obtain ⟨c, A, _, k1, k2, _⟩ := F.get b B hb
  rw [Fits.ren.spot b c k1] at hm
  exact ⟨b, c, A, δ, k1, k2, hm⟩

/-- the pieces before -/
theorem Fits.before (hΓ : Γ.Hold ρ) (F : Fits Γ h σ pre post.length) (H : HRel ρ μ h w) : HRel ρ (whereP μ σ) (heapOf pre (empty 0)) w := by
  have ownh : ∀ r, Owned (whereP μ σ) (heapOf pre (empty 0)) r → Owned μ h r := fun r ho => by
    obtain ⟨i, b, B, δ, _, k1, k2⟩ := F.own r ho
    exact ⟨b, B, δ, k1, k2⟩
  refine ⟨fun b hb => ?_, fun b B hb => ?_, fun b b' B B' r δ δ' hb hb' hm hm' => ?_, ⟨fun g o e => ⟨(H.tabs.tabs g o e).1, fun ho => (H.tabs.tabs g o e).2 (ownh g ho)⟩, fun g o e => ⟨(H.tabs.ice g o e).1, fun ho => (H.tabs.ice g o e).2 (ownh g ho)⟩, ?_⟩⟩
  · rw [pre_next] at hb
    show (nnth σ b).bind μ.spot = none
    cases e : nnth σ b with
    | none => rfl
    | some c => have := (F.lt H b c e).1; omega
  · obtain ⟨c, A, _, k1, k2, k3⟩ := F.get b B hb
    obtain ⟨r, δ, hm, hA⟩ := H.blk c A k2
    exact ⟨r, δ, by rw [Fits.ren.spot b c k1]; exact hm, eqBlk_rel hΓ Fits.ren k3 hA⟩
  · obtain ⟨c, A, _, k1, k2, _⟩ := F.get b B hb
    obtain ⟨c', A', _, k1', k2', _⟩ := F.get b' B' hb'
    rw [Fits.ren.spot b c k1] at hm
    rw [Fits.ren.spot b' c' k1'] at hm'
    have := H.inj _ _ _ _ _ _ _ k2 k2' hm hm'
    subst this
    exact nnth_inj F.nodup k1 k1'
  · rw [(heapOf_spec pre (empty 0)).2.1]
    exact Facts.Hold.none ρ

/-- and afterwards -/
theorem Fits.after (F : Fits Γ h σ pre post.length) (H : HRel ρ μ h w) {h1 : Heap} (hput : putPs (σ ++ moreN post pre.length h.next) post 0 ⟨h.tab, h.next + (post.length - pre.length), h.fx⟩ = some h1) {μ' : Where} {w' : World} (g' : Grows ρ (whereP μ σ) (heapOf pre (empty 0)) w μ' (heapP post (empty 0)) w') :
    ∃ μ'', Grows ρ μ h w μ'' h1 w' ∧ Ren μ' μ'' (σ ++ moreN post pre.length h.next) := by
  have hlen := F.len
  have hple := F.ple
  have hnd := F.nodup
  have hσget := F.lt H
  have own := F.own (μ := μ)
  have ownh : ∀ r, Owned (whereP μ σ) (heapOf pre (empty 0)) r → Owned μ h r := fun r ho => by
    obtain ⟨i, b, B, δ, _, k1, k2⟩ := own r ho
    exact ⟨b, B, δ, k1, k2⟩
  generalize hσ' : σ ++ moreN post pre.length h.next = σ' at hput ⊢
  have hσ'get : ∀ i b, nnth σ' i = some b ↔ (i < pre.length ∧ nnth σ i = some b) ∨ (pre.length ≤ i ∧ i < post.length ∧ b = h.next + (i - pre.length)) := fun i b => by
    rw [← hσ', nnth_eq, nnth_eq]
    by_cases hi : i < pre.length
    · rw [List.getElem?_append_left (by omega)]
      constructor
      · intro e; exact .inl ⟨hi, e⟩
      · rintro (⟨_, e⟩ | ⟨e, _⟩)
        · exact e
        · omega
    · rw [List.getElem?_append_right (by omega), moreN_get, hlen]
      constructor
      · intro e
        split at e
        · simp only [Option.some.injEq] at e
          exact .inr ⟨by omega, by omega, e.symm⟩
        · cases e
      · rintro (⟨e, _⟩ | ⟨e1, e2, e3⟩)
        · omega
        · rw [if_pos (by omega), e3]
  have hnd' : σ'.Nodup := by
    rw [← hσ', List.nodup_append]
    refine ⟨hnd, ?_, fun a ha b hb e => ?_⟩
    · rw [List.nodup_iff_pairwise_ne, List.pairwise_iff_getElem]
      intro i j hi hj hij e
      have e1 := List.getElem?_eq_getElem hi
      have e2 := List.getElem?_eq_getElem hj
      rw [moreN_get] at e1 e2
      split at e1 <;> split at e2 <;> simp at e1 e2
      omega
    · subst e
      obtain ⟨i, hi⟩ := List.mem_iff_getElem?.1 ha
      obtain ⟨j, hj⟩ := List.mem_iff_getElem?.1 hb
      rw [moreN_get] at hj
      split at hj
      · simp only [Option.some.injEq] at hj
        have := (hσget i a (by rw [nnth_eq]; exact hi)).2
        omega
      · cases hj
  obtain ⟨n1, f1, g1, g2⟩ := putPs_spec hnd' hput
  have n1 : h1.next = h.next + (post.length - pre.length) := n1
  -- memory afterwards
  let μ'' : Where := ⟨fun b => if h.next ≤ b ∧ b < h.next + (post.length - pre.length) then μ' (pre.length + (b - h.next)) else μ b, μ'.ice⟩
  have hold : ∀ b, b < h.next → μ'' b = μ b := fun b hb => by
    show (if _ then _ else _) = _
    rw [if_neg (by omega)]
  have R1 : Ren μ' μ'' σ' := ⟨fun i b e => by
    rcases (hσ'get i b).1 e with ⟨hi, e⟩ | ⟨hi1, hi2, rfl⟩
    · rw [hold b (hσget i b e).2, g'.old i (by rw [pre_next]; exact hi)]
      exact Fits.ren.spot i b e
    · show _ = (if _ then _ else _)
      rw [if_pos (by omega)]
      congr 1; omega, rfl⟩
  have hle : μ.le μ'' := ⟨fun b y e => by
    have hb : b < h.next := by
      rcases Nat.lt_or_ge b h.next with hb | hb
      · exact hb
      · rw [H.fresh b hb] at e; cases e
    rw [hold b hb]; exact e, fun k o e => g'.le.ice k o e⟩
  have hin : ∀ b B, h1.get b = some B → (∃ i Bp, nnth σ' i = some b ∧ (heapP post (empty 0)).get i = some Bp ∧ renB σ' Bp = some B) ∨ ((∀ i, nnth σ i ≠ some b) ∧ h.get b = some B) := fun b B hb => by
    by_cases hex : ∃ i, nnth σ' i = some b
    · obtain ⟨i, hi⟩ := hex
      left
      have hil : i < post.length := by
        rcases (hσ'get i b).1 hi with ⟨q, _⟩ | ⟨_, q, _⟩
        · omega
        · exact q
      obtain ⟨b', k1, k2⟩ := g2 i _ (List.getElem?_eq_getElem hil)
      rw [Nat.zero_add, hi] at k1
      simp only [Option.some.injEq] at k1
      subst k1
      cases hp : post[i] with
      | none => rw [hp] at k2; simp only at k2; rw [hb] at k2; cases k2
      | some Bp =>
        rw [hp] at k2
        obtain ⟨D, k3, k4⟩ := k2
        rw [hb] at k4
        simp only [Option.some.injEq] at k4
        subst k4
        refine ⟨i, Bp, hi, ?_, k3⟩
        rw [post_get, List.getElem?_eq_getElem hil, hp]; rfl
    · right
      have hno : ∀ i, nnth σ' i ≠ some b := fun i e => hex ⟨i, e⟩
      refine ⟨fun i e => hno i ((hσ'get i b).2 (.inl ⟨(hσget i b e).1, e⟩)), ?_⟩
      have := g1 b fun j _ => by rw [Nat.zero_add]; exact hno j
      rw [this] at hb
      exact hb
  have hpost : ∀ r, Owned μ' (heapP post (empty 0)) r → ∀ b B δ, (∀ i, nnth σ i ≠ some b) → h.get b = some B → μ b = some (r, δ) → False := fun r ho b B δ hno hb hm => by
    have hlt := H.lt hb hm
    refine (g'.kept r hlt fun hp => ?_).2 ho
    obtain ⟨i, c, C, δ', k1, k2, k3⟩ := own r hp
    have := H.inj _ _ _ _ _ _ _ hb k2 hm k3
    subst this
    exact hno i k1
  have hown : ∀ r, Owned μ'' h1 r → Owned μ' (heapP post (empty 0)) r ∨ ∃ b B δ, (∀ i, nnth σ i ≠ some b) ∧ h.get b = some B ∧ μ b = some (r, δ) := fun r ⟨b, B, δ, hb, hm⟩ => by
    rcases hin b B hb with ⟨i, Bp, k1, k2, k3⟩ | ⟨k1, k2⟩
    · left
      rw [← R1.spot i b k1] at hm
      exact ⟨i, Bp, δ, k2, hm⟩
    · right
      rw [hold b (H.next_lt k2)] at hm
      exact ⟨b, B, δ, k1, k2, hm⟩
  have hkept : ∀ r, r < w.heap.size → ¬ Owned μ h r → w'.heap[r]? = w.heap[r]? ∧ ¬ Owned μ'' h1 r := fun r hr ho => by
    obtain ⟨q1, q2⟩ := g'.kept r hr fun hp => ho (ownh r hp)
    refine ⟨q1, fun hq => ?_⟩
    rcases hown r hq with hq | ⟨b, B, δ, _, k2, k3⟩
    · exact q2 hq
    · exact ho ⟨b, B, δ, k2, k3⟩
  have hicy : ∀ k o, μ'.ice k = some o → μ.ice k = some o ∨ Owned (whereP μ σ) (heapOf pre (empty 0)) k ∨ w.heap.size ≤ k := g'.icy
  have H1 : HRel ρ μ'' h1 w' := by
    refine ⟨fun b hb => ?_, fun b B hb => ?_, fun b b' B B' r δ δ' hb hb' hm hm' => ?_, ⟨fun k o hk => ?_, fun k o hk => ?_, ?_⟩⟩
    · rw [n1] at hb
      show (if _ then _ else _) = none
      rw [if_neg (by omega)]
      exact H.fresh b (by omega)
    · rcases hin b B hb with ⟨i, Bp, k1, k2, k3⟩ | ⟨k1, k2⟩
      · obtain ⟨r, δ, e1, e2⟩ := g'.rel.blk i Bp k2
        exact ⟨r, δ, by rw [← R1.spot i b k1]; exact e1, renB_rel R1 k3 e2⟩
      · obtain ⟨r, δ, e1, e2⟩ := H.blk b B k2
        refine ⟨r, δ, by rw [hold b (H.next_lt k2)]; exact e1, ?_⟩
        have hno : ¬ Owned (whereP μ σ) (heapOf pre (empty 0)) r := fun hp => by
          obtain ⟨i, c, C, δ', q1, q2, q3⟩ := own r hp
          have := H.inj _ _ _ _ _ _ _ k2 q2 e1 q3
          subst this
          exact k1 i q1
        rw [(g'.kept r (H.lt k2 e1) hno).1]
        exact e2.mono hle
    · rcases hin b B hb with ⟨i, Bp, k1, k2, k3⟩ | ⟨k1, k2⟩ <;> rcases hin b' B' hb' with ⟨i', Bp', k1', k2', k3'⟩ | ⟨k1', k2'⟩
      · rw [← R1.spot i b k1] at hm
        rw [← R1.spot i' b' k1'] at hm'
        have := g'.rel.inj _ _ _ _ _ _ _ k2 k2' hm hm'
        subst this
        rw [k1] at k1'
        simpa using k1'
      · rw [← R1.spot i b k1] at hm
        rw [hold b' (H.next_lt k2')] at hm'
        exact (hpost r ⟨i, Bp, δ, k2, hm⟩ b' B' δ' k1' k2' hm').elim
      · rw [← R1.spot i' b' k1'] at hm'
        rw [hold b (H.next_lt k2)] at hm
        exact (hpost r ⟨i', Bp', δ', k2', hm'⟩ b B δ k1 k2 hm).elim
      · rw [hold b (H.next_lt k2)] at hm
        rw [hold b' (H.next_lt k2')] at hm'
        exact H.inj _ _ _ _ _ _ _ k2 k2' hm hm'
    · obtain ⟨q1, q2⟩ := H.tabs.tabs k o hk
      obtain ⟨q3, q4⟩ := hkept k (Array.getElem?_eq_some_iff.1 q1).1 q2
      exact ⟨q3.trans q1, q4⟩
    · obtain ⟨q1, q2⟩ := g'.rel.tabs.ice k o hk
      refine ⟨q1, fun hq => ?_⟩
      rcases hown k hq with hq | ⟨b, B, δ, k1, k2, k3⟩
      · exact q2 hq
      · rcases hicy k o hk with i1 | i1 | i1
        · exact (H.tabs.ice k o i1).2 ⟨b, B, δ, k2, k3⟩
        · obtain ⟨i, c, C, δ', q1, q2, q3⟩ := own k i1
          have := H.inj _ _ _ _ _ _ _ k2 q2 k3 q3
          subst this
          exact k1 i q1
        · have := H.lt k2 k3; omega
    · rw [f1]; exact H.tabs.facts
  refine ⟨μ'', ⟨hle, H1, g'.size, hkept, g'.os, g'.output, by rw [n1]; omega, hold, fun k o hk => ?_, f1⟩, R1⟩
  · rcases hicy k o hk with i1 | i1 | i1
    · exact .inl i1
    · exact .inr (.inl (ownh k i1))
    · exact .inr (.inr i1)
end
end Go.AM
