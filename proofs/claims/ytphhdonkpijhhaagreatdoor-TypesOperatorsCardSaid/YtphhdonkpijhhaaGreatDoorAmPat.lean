/- Calls whose outcome is known on given pieces of memory: what a run shows there holds wherever memory has these pieces. -/
import Derived.Test.YtphhdonkpijhhaaGreatDoorAmEnd
set_option linter.all false
namespace Go.AM

/-! ### Lists -/

theorem nnth_lt {σ : List Nat} {i b : Nat} (h : nnth σ i = some b) : i < σ.length := by
  rw [nnth_eq] at h
  exact (List.getElem?_eq_some_iff.1 h).1

theorem memN_iff {n : Nat} : ∀ {l : List Nat}, memN n l = true ↔ n ∈ l
  | [] => by
    constructor
    · intro h; cases h
    · intro h; cases h
  | m :: r => by
    have e : memN n (m :: r) = (Nat.beq m n || memN n r) := rfl
    rw [e, Bool.or_eq_true, nbeq_iff, memN_iff, List.mem_cons]
    constructor
    · rintro (h | h)
      · exact .inl h.symm
      · exact .inr h
    · rintro (h | h)
      · exact .inl h.symm
      · exact .inr h

theorem nodupN_iff : ∀ {l : List Nat}, nodupN l = true → l.Nodup
  | [], _ => List.nodup_nil
  | n :: r, h => by
    have e : nodupN (n :: r) = (!(memN n r) && nodupN r) := rfl
    rw [e, Bool.and_eq_true] at h
    refine List.nodup_cons.2 ⟨fun hm => ?_, nodupN_iff h.2⟩
    rw [memN_iff.2 hm] at h
    cases h.1

theorem blen_eq : ∀ l : List (List AVal), blen l = l.length
  | [] => rfl
  | _ :: r => by show blen r + 1 = _; rw [blen_eq r]; rfl

theorem nnth_inj {σ : List Nat} (hn : σ.Nodup) {i j b : Nat} (hi : nnth σ i = some b) (hj : nnth σ j = some b) : i = j := by
  rw [nnth_eq] at hi hj
  obtain ⟨h1, e1⟩ := List.getElem?_eq_some_iff.1 hi
  obtain ⟨h2, e2⟩ := List.getElem?_eq_some_iff.1 hj
  exact (List.getElem_inj hn).1 (e1.trans e2.symm)

/-! ### The pieces' memory -/

theorem heapOf_spec : ∀ (l : List (List AVal)) (h : Heap), (heapOf l h).next = h.next + l.length ∧
    ∀ b, (heapOf l h).get b = if h.next ≤ b ∧ b < h.next + l.length then (l[b - h.next]?).map Block.cells else h.get b
  | [], h => ⟨rfl, fun b => by rw [if_neg (by simp only [List.length_nil]; omega)]; rfl⟩
  | vs :: r, h => by
    have e : heapOf (vs :: r) h = heapOf r (h.add (.cells vs)) := rfl
    obtain ⟨h1, h2⟩ := heapOf_spec r (h.add (.cells vs))
    rw [e]
    refine ⟨by rw [h1, Heap.next_add, List.length_cons]; omega, fun b => ?_⟩
    rw [h2 b, Heap.next_add, List.length_cons, Heap.get_add]
    by_cases hb : b = h.next
    · subst hb
      rw [if_neg (by omega), if_pos rfl, if_pos (by omega)]
      simp
    · by_cases hc : h.next + 1 ≤ b ∧ b < h.next + 1 + r.length
      · rw [if_pos hc, if_pos (by omega)]
        have : b - h.next = (b - (h.next + 1)) + 1 := by omega
        rw [this, List.getElem?_cons_succ]
      · rw [if_neg hc, if_neg hb, if_neg (by omega)]

theorem pieces_get {d : Nat} {l : List (List AVal)} {b : Nat} : (heapOf l (empty d)).get b = if b < l.length then (l[b]?).map Block.cells else none := by
  obtain ⟨_, h⟩ := heapOf_spec l (empty d)
  rw [h b]
  have e : (empty d).next = 0 := rfl
  rw [e]
  by_cases hb : b < l.length
  · rw [if_pos (by omega), if_pos hb]; rfl
  · rw [if_neg (by omega), if_neg hb]; exact Tr.get_full d b

/-! ### Renumbering -/

section
variable {ρ : Env} {μ μ' : Where} {σ : List Nat}

noncomputable def whereP (μ : Where) (σ : List Nat) : Where := fun i => (nnth σ i).bind μ

theorem whereP_some {i b : Nat} (h : nnth σ i = some b) : whereP μ σ i = μ b := by simp [whereP, h]

/-- where the two tables agree on the pieces' numbers -/
theorem renV_rel (hμ : ∀ i b, nnth σ i = some b → μ' i = μ b) {p a : AVal} (h : renV σ p = some a) {u : Value} : (VRel ρ μ a u ↔ VRel ρ μ' p u) ∧ a.single = p.single := by
  cases p <;> simp only [renV, Option.some.injEq, reduceCtorEq] at h
  case ptr b o =>
    obtain ⟨c, hc, e⟩ := bnd_some h
    simp only [Option.some.injEq] at e
    subst e
    simp only [VRel, hμ _ _ hc, AVal.single, and_self]
  case slice b o l c =>
    obtain ⟨c, hc, e⟩ := bnd_some h
    simp only [Option.some.injEq] at e
    subst e
    simp only [VRel, hμ _ _ hc, AVal.single, and_self]
  case gslice b o l es =>
    obtain ⟨c, hc, e⟩ := bnd_some h
    simp only [Option.some.injEq] at e
    subst e
    simp only [VRel, hμ _ _ hc, AVal.single, and_self]
  all_goals
    subst h
    simp only [VRel, AVal.single, and_self]

theorem eqRen_rel (hμ : ∀ i b, nnth σ i = some b → μ' i = μ b) {p a : AVal} (h : eqRen σ p a = true) {u : Value} : (VRel ρ μ a u ↔ VRel ρ μ' p u) ∧ a.single = p.single := by
  unfold eqRen at h
  split at h
  · rename_i v hv
    rw [← AVal.eq_spec h]
    exact renV_rel hμ hv
  · cases h

theorem eqRenL_cons (p a : AVal) (ps as : List AVal) : eqRenL σ (p :: ps) (a :: as) = (eqRen σ p a && eqRenL σ ps as) := rfl

theorem eqRenL_length : ∀ {ps as : List AVal}, eqRenL σ ps as = true → ps.length = as.length
  | [], [], _ => rfl
  | [], _ :: _, h => by cases h
  | _ :: _, [], h => by cases h
  | p :: ps, a :: as, h => by
    rw [eqRenL_cons, Bool.and_eq_true] at h
    simp [eqRenL_length h.2]

theorem eqRenL_get : ∀ {ps as : List AVal}, eqRenL σ ps as = true → ∀ (i : Nat) (p a : AVal), ps[i]? = some p → as[i]? = some a → eqRen σ p a = true
  | [], [], _, i, p, a, h, _ => by simp at h
  | [], _ :: _, h, _, _, _, _, _ => by cases h
  | _ :: _, [], h, _, _, _, _, _ => by cases h
  | p :: ps, a :: as, h, i, q, b, h1, h2 => by
    rw [eqRenL_cons, Bool.and_eq_true] at h
    cases i with
    | zero =>
      simp only [List.getElem?_cons_zero, Option.some.injEq] at h1 h2
      subst h1 h2
      exact h.1
    | succ i => exact eqRenL_get h.2 i q b (by simpa using h1) (by simpa using h2)

theorem eqRenL_cs (hμ : ∀ i b, nnth σ i = some b → μ' i = μ b) : ∀ {ps as : List AVal} {us : List Value}, eqRenL σ ps as = true → CsRel ρ μ as us → CsRel ρ μ' ps us
  | [], [], us, _, h => by simp only [CsRel] at h ⊢; exact h
  | [], _ :: _, _, h, _ => by cases h
  | _ :: _, [], _, h, _ => by cases h
  | p :: ps, a :: as, us, h, hr => by
    rw [eqRenL_cons, Bool.and_eq_true] at h
    simp only [CsRel] at hr ⊢
    obtain ⟨u, rest, e, ⟨h1, h2⟩, h3⟩ := hr
    obtain ⟨k1, k2⟩ := eqRen_rel (ρ := ρ) hμ h.1 (u := u)
    exact ⟨u, rest, e, ⟨by rw [← k2]; exact h1, k1.1 h2⟩, eqRenL_cs hμ h.2 h3⟩

theorem eqArg_rel (hμ : ∀ i b, nnth σ i = some b → μ' i = μ b) {p a : AVal} (h : eqArg σ p a = true) {u : Value} (hr : VRel ρ μ a u) : VRel ρ μ' p u := by
  unfold eqArg at h
  split at h
  · obtain ⟨x, e, hx⟩ := hr.agg
    subst e
    simp only [VRel]
    exact ⟨x, rfl, eqRenL_cs hμ h hx⟩
  · exact (eqRen_rel hμ h).1.1 hr

theorem eqArgs_rel (hμ : ∀ i b, nnth σ i = some b → μ' i = μ b) : ∀ {ps as : List AVal} {us : List Value}, eqArgs σ ps as = true → VsRel ρ μ as us → VsRel ρ μ' ps us
  | [], [], us, _, h => by simp only [VsRel] at h ⊢; exact h
  | [], _ :: _, _, h, _ => by cases h
  | _ :: _, [], _, h, _ => by cases h
  | p :: ps, a :: as, us, h, hr => by
    have e : eqArgs σ (p :: ps) (a :: as) = (eqArg σ p a && eqArgs σ ps as) := rfl
    rw [e, Bool.and_eq_true] at h
    simp only [VsRel] at hr ⊢
    obtain ⟨u, rest, e, h1, h2⟩ := hr
    exact ⟨u, rest, e, eqArg_rel hμ h.1 h1, eqArgs_rel hμ h.2 h2⟩

theorem eqBs_get {h : Heap} : ∀ {l : List (List AVal)} {k : Nat}, eqBs h σ l k = true → ∀ i vs, l[i]? = some vs → ∃ b us, nnth σ (k + i) = some b ∧ h.get b = some (.cells us) ∧ eqRenL σ vs us = true
  | [], _, _, i, vs, hv => by simp at hv
  | ws :: r, k, hb, i, vs, hv => by
    have e : eqBs h σ (ws :: r) k = (eqB h σ k ws && eqBs h σ r (k + 1)) := rfl
    rw [e, Bool.and_eq_true] at hb
    cases i with
    | zero =>
      simp only [List.getElem?_cons_zero, Option.some.injEq] at hv
      subst hv
      have h1 := hb.1
      unfold eqB at h1
      split at h1
      · rename_i b hσ
        split at h1
        · rename_i us hg
          exact ⟨b, us, hσ, hg, h1⟩
        · cases h1
      · cases h1
    | succ i =>
      obtain ⟨b, us, h1, h2, h3⟩ := eqBs_get hb.2 i vs (by simpa using hv)
      exact ⟨b, us, by rw [← h1]; congr 1; omega, h2, h3⟩
end

/-! ### What a run shows -/

/-- nothing of memory in it -/
def plainR (v : AVal) : Bool :=
  match v with
  | .tuple vs => vs.all plainV
  | v => plainV v

theorem plainR_rel {ρ : Env} {μ μ' : Where} {v : AVal} {u : Value} (hp : plainR v = true) (h : VRel ρ μ v u) : VRel ρ μ' v u := by
  unfold plainR at hp
  split at hp
  · simp only [VRel] at h ⊢
    obtain ⟨a, e, hv⟩ := h
    exact ⟨a, e, plainVs_rel hp hv⟩
  · exact plainV_rel hp h

noncomputable def keepsB (h : Heap) (l : List (List AVal)) : Nat → Bool :=
  List.rec (motive := fun _ => Nat → Bool) (fun _ => true) (fun vs _ ih i => (match h.get i with | some (.cells us) => AVal.eqL us vs | _ => false) && ih (i + 1)) l

theorem keepsB_get {h : Heap} : ∀ {l : List (List AVal)} {k : Nat}, keepsB h l k = true → ∀ i vs, l[i]? = some vs → h.get (k + i) = some (.cells vs)
  | [], _, _, i, vs, hv => by simp at hv
  | ws :: r, k, hb, i, vs, hv => by
    have e : keepsB h (ws :: r) k = ((match h.get k with | some (.cells us) => AVal.eqL us ws | _ => false) && keepsB h r (k + 1)) := rfl
    rw [e, Bool.and_eq_true] at hb
    cases i with
    | zero =>
      simp only [List.getElem?_cons_zero, Option.some.injEq] at hv
      subst hv
      have h1 := hb.1
      split at h1
      · rename_i us hg
        rw [Nat.add_zero, hg, AVal.eqL_spec h1]
      · cases h1
    | succ i => rw [← keepsB_get hb.2 i vs (by simpa using hv)]; congr 1; omega

/-- the run on the pieces gives the result, and leaves the pieces as they were -/
noncomputable def PMemoOk (call : CallF) (d : Nat) (g : FuncId) (x : PMemo) : Bool :=
  match call g x.args (heapOf x.bs (empty d)) with
  | some (.ret u, h') => plainR x.res && (u.eqs x.res && keepsB h' x.bs 0)
  | _ => false

theorem PMemoOk_spec {call : CallF} {d : Nat} {g : FuncId} {x : PMemo} (h : PMemoOk call d g x = true) :
    plainR x.res = true ∧ ∃ h', call g x.args (heapOf x.bs (empty d)) = some (.ret x.res, h') ∧ ∀ i vs, x.bs[i]? = some vs → h'.get i = some (.cells vs) := by
  unfold PMemoOk at h
  split at h
  · rename_i u h' hc
    rw [Bool.and_eq_true, Bool.and_eq_true] at h
    refine ⟨h.1, h', by rw [hc, AVal.eqs_spec h.2.1], fun i vs hv => ?_⟩
    have := keepsB_get h.2.2 i vs hv
    rwa [Nat.zero_add] at this
  · cases h

/-- A KNOWN CALL -/
theorem patO_sound {P : Program} {ρ : Env} {call : CallF} (hc : SoundCall P ρ call) {g : FuncId} {d : Nat} {x : PMemo} (hx : PMemoOk call d g x = true) : SoundO P ρ g (patO x) := by
  intro args h r h' hr
  obtain ⟨hp, h1, hrun, hkeep⟩ := PMemoOk_spec hx
  unfold patO at hr
  obtain ⟨hfit, hr⟩ := cond_some hr
  simp only [Option.some.injEq, Prod.mk.injEq] at hr
  obtain ⟨rfl, rfl⟩ := hr
  generalize zipBs h x.bs 0 (zipArgs x.args args []) = σ at hfit
  unfold fitsP at hfit
  rw [Bool.and_eq_true, Bool.and_eq_true, Bool.and_eq_true] at hfit
  obtain ⟨hlen, hnd, hargs, hbs⟩ := hfit
  have hlen := nbeq_iff.1 hlen
  rw [nlen_eq, blen_eq] at hlen
  have hnd := nodupN_iff hnd
  have piece := eqBs_get hbs
  refine ⟨(hc g x.args _ _ _ hrun).1, fun μ w vargs H hv => ?_⟩
  have hμ : ∀ i b, nnth σ i = some b → whereP μ σ i = μ b := fun i b e => whereP_some e
  have lt_of : ∀ i b, nnth σ i = some b → i < x.bs.length := fun i b e => by rw [← hlen]; exact nnth_lt e
  -- the pieces' blocks
  have hget : ∀ b B, (heapOf x.bs (empty d)).get b = some B → ∃ vs c us, x.bs[b]? = some vs ∧ B = .cells vs ∧ nnth σ b = some c ∧ h.get c = some (.cells us) ∧ eqRenL σ vs us = true := fun b B e => by
    rw [pieces_get] at e
    split at e
    · obtain ⟨vs, hvs, e⟩ := Option.map_eq_some_iff.1 e
      obtain ⟨c, us, k1, k2, k3⟩ := piece b vs hvs
      rw [Nat.zero_add] at k1
      exact ⟨vs, c, us, hvs, e.symm, k1, k2, k3⟩
    · cases e
  have own : ∀ r, Owned (whereP μ σ) (heapOf x.bs (empty d)) r → Owned μ h r := fun r ⟨b, B, δ, hb, hm⟩ => by
    obtain ⟨vs, c, us, _, _, k1, k2, _⟩ := hget b B hb
    rw [hμ b c k1] at hm
    exact ⟨c, _, δ, k2, hm⟩
  have HP : HRel ρ (whereP μ σ) (heapOf x.bs (empty d)) w := by
    refine ⟨fun b hb => ?_, fun b B hb => ?_, fun b b' B B' r δ δ' hb hb' hm hm' => ?_, fun g o e => ⟨(H.tabs g o e).1, fun ho => (H.tabs g o e).2 (own g ho)⟩⟩
    · have hn := (heapOf_spec x.bs (empty d)).1
      have e0 : (empty d).next = 0 := rfl
      have hb : (heapOf x.bs (empty d)).next ≤ b := hb
      cases e : nnth σ b with
      | none => simp [whereP, e]
      | some c => have := lt_of b c e; omega
    · obtain ⟨vs, c, us, _, rfl, k1, k2, k3⟩ := hget b B hb
      obtain ⟨r, ⟨δ, m⟩, hm, a, e, ho, hsz, hcs⟩ := H.blk c _ k2
      refine ⟨r, (δ, m), by rw [hμ b c k1]; exact hm, a, e, ho, hsz, fun i v hvi => ?_⟩
      have hl := eqRenL_length k3
      have hi := (List.getElem?_eq_some_iff.1 hvi).1
      obtain ⟨u, hu⟩ : ∃ u, us[i]? = some u := ⟨_, List.getElem?_eq_getElem (by omega)⟩
      obtain ⟨q1, q2⟩ := eqRen_rel (ρ := ρ) hμ (eqRenL_get k3 i v u hvi hu) (u := (a[δ + i]?).getD undef)
      obtain ⟨y, hy, hs, hr⟩ := hcs i u hu
      rw [hy] at q1
      exact ⟨y, hy, by rw [← q2]; exact hs, q1.1 hr⟩
    · obtain ⟨vs, c, us, _, _, k1, k2, _⟩ := hget b B hb
      obtain ⟨vs', c', us', _, _, k1', k2', _⟩ := hget b' B' hb'
      rw [hμ b c k1] at hm
      rw [hμ b' c' k1'] at hm'
      have := H.inj _ _ _ _ _ _ _ k2 k2' hm hm'
      subst this
      exact nnth_inj hnd k1 k1'
  refine ((hc g x.args _ _ _ hrun).2 _ w vargs HP (eqArgs_rel hμ hargs hv)).mono fun e w' he => ?_
  obtain ⟨μ', g', he⟩ := he
  have hkept : ∀ r, r < w.heap.size → ¬ Owned μ h r → w'.heap[r]? = w.heap[r]? ∧ ¬ Owned μ h r := fun r hr ho => ⟨(g'.kept r hr fun hp => ho (own r hp)).1, ho⟩
  refine ⟨μ, ⟨μ.le_refl, ⟨H.fresh, fun b B hb => ?_, H.inj, H.tabs_of hkept⟩, g'.size, hkept, g'.os, g'.output, Nat.le_refl _, fun _ _ => rfl⟩, ?_⟩
  · obtain ⟨r, δ, hm, hB⟩ := H.blk b B hb
    by_cases hin : ∃ i, nnth σ i = some b
    · obtain ⟨i, hi⟩ := hin
      have hlt := lt_of i b hi
      obtain ⟨c, us, k1, k2, k3⟩ := piece i _ (List.getElem?_eq_getElem hlt)
      rw [Nat.zero_add, hi] at k1
      simp only [Option.some.injEq] at k1
      subst k1
      rw [hb] at k2
      simp only [Option.some.injEq] at k2
      subst k2
      have hgi := hkeep i _ (List.getElem?_eq_getElem hlt)
      obtain ⟨r', ⟨δ', m'⟩, hm', a, e', ho, hsz, hcs⟩ := g'.rel.blk i _ hgi
      have holds : ∀ j c, nnth σ j = some c → μ' j = μ c := fun j c hj => by
        have hn := (heapOf_spec x.bs (empty d)).1
        have e0 : (empty d).next = 0 := rfl
        rw [g'.old j (by have := lt_of j c hj; omega), hμ j c hj]
      rw [holds i b hi, hm] at hm'
      simp only [Option.some.injEq, Prod.mk.injEq] at hm'
      obtain ⟨rfl, rfl⟩ := hm'
      refine ⟨r, (δ', m'), hm, a, e', ho, hsz, fun j u hu => ?_⟩
      have hl := eqRenL_length k3
      have hj := (List.getElem?_eq_some_iff.1 hu).1
      obtain ⟨v, hvv⟩ : ∃ v, (x.bs[i])[j]? = some v := ⟨(x.bs[i])[j]'(by omega), List.getElem?_eq_getElem (by omega)⟩
      obtain ⟨y, hy, hs, hr⟩ := hcs j v hvv
      obtain ⟨q1, q2⟩ := eqRen_rel (ρ := ρ) holds (eqRenL_get k3 j v u hvv hu) (u := y)
      exact ⟨y, hy, by rw [q2]; exact hs, q1.2 hr⟩
    · refine ⟨r, δ, hm, ?_⟩
      have hno : ¬ Owned (whereP μ σ) (heapOf x.bs (empty d)) r := fun ⟨i, B', δ', hb', hm'⟩ => by
        obtain ⟨vs, c, us, _, _, k1, k2, _⟩ := hget i B' hb'
        rw [hμ i c k1] at hm'
        have := H.inj _ _ _ _ _ _ _ k2 hb hm' hm
        subst this
        exact hin ⟨i, k1⟩
      rw [(g'.kept r (H.lt hb hm) hno).1]
      exact hB
  · cases e
    case returned u => exact plainR_rel hp (show VRel ρ μ' x.res u from he)
    all_goals exact he.elim

theorem patsO_sound {P : Program} {ρ : Env} {g : FuncId} : ∀ {l : List PMemo}, (∀ x ∈ l, SoundO P ρ g (patO x)) → SoundO P ρ g (patsO l)
  | [], _, args, h, r, h', hr => by cases hr
  | x :: l, hl, args, h, r, h', hr => by
    have e : patsO (x :: l) args h = (match patO x args h with | some y => some y | none => patsO l args h) := rfl
    rw [e] at hr
    split at hr
    · rename_i y hy
      simp only [Option.some.injEq] at hr
      subst hr
      exact hl x List.mem_cons_self args h r h' hy
    · exact patsO_sound (fun y hy => hl y (List.mem_cons_of_mem _ hy)) args h r h' hr
end Go.AM
