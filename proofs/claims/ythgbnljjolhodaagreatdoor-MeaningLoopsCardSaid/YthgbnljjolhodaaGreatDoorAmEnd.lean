/- From a run of the abstract machine to what a row asks of a call: it returns, old memory stays as it was. -/
import Derived.Test.YthgbnljjolhodaaGreatDoorAmCall
import Derived.WalkKit
import Derived.ProofKit
import Derived.OpenShut
set_option linter.all false
namespace Go.AM
open Go.ChangeShapes Go.WideShapes Go.ChangeAt Go.RowKit

/-- old memory is as it was; there may be new blocks -/
def Kept (W w' : World) : Prop := W.keptBut w' (fun _ => False) ∧ (∀ b off, b < W.heap.size → w'.frozen? ⟨b, off, none⟩ = W.frozen? ⟨b, off, none⟩) ∧ W.heap.size ≤ w'.heap.size

theorem Kept.of_same {W w' : World} (hk : ∀ r, r < W.heap.size → w'.heap[r]? = W.heap[r]?) (hs : W.heap.size ≤ w'.heap.size) (ho : w'.os = W.os) (hp : w'.output = W.output) : Kept W w' := by
  refine ⟨⟨ho, hp, fun i hi => ?_⟩, fun b off hb => ?_, hs⟩
  · rw [hk i hi]
    cases W.heap[i]? with
    | none => trivial
    | some o => cases o <;> simp
  · unfold World.frozen?
    simp only [hk b hb]

theorem Kept.frame {W w' : World} (h : Kept W w') (ps : List MemPlace) : W.keptBut w' (· ∈ ps) := World.keptBut_mono (fun _ h => h.elim) h.1

section
variable {H : Type} {enc : TypeId × Value → H} {P : Program}

/-- as 'post_of_same', of marks in old memory alone -/
theorem post_of_kept {f : Func} {s : ChangeSpec} {apart fresh handsOn again : Bool} {W W' : World} {args : Array Value} {v : Value} {ds gs : List (DataW H)} {before pa pv : List MemPlace}
    (hW : DataW.Whole enc P f.params.toList s.vars apart W args.toList ds gs before)
    (hres : ∀ (b : Nat) (sp : Nat → Bool) (hd : Bool), DataW.TrodAll enc P W' b sp hd f.resultTypes.toList (v.resultList f.resultTypes.size) (s.fn H (ds ++ gs)).results [])
    (hargs : ∀ sp : Nat → Bool, (∀ p ∈ before, sp p.block = true) → DataW.TrodAll enc P W' 0 sp true f.params.toList args.toList (s.fn H (ds ++ gs)).args pa)
    (hvars : ∀ sp : Nat → Bool, (∀ p ∈ before, sp p.block = true) → DataW.TrodVars enc P W' sp s.vars (s.fn H (ds ++ gs)).vars pv)
    (hps : before = pa ++ pv) (hk : Kept W W')
    (hok : ∀ (j : Nat) (t : TypeId) (r : Value), f.resultTypes[j]? = some t → (v.resultList f.resultTypes.size)[j]? = some r → Value.okWide P W' .any 0 t r) :
    s.post enc P f apart fresh handsOn again W args v W' := by
  have hold : ∀ p ∈ before, (fun b => decide (b < W.heap.size)) p.block = true := fun p hp => by simpa using hW.lt p hp
  have hlt := hW.lt
  refine ⟨ds, gs, before, [], pa, pv, hW, hres _ _ _, hargs _ hold, hvars _ hold, World.keptBut_mono (fun p hp => ⟨hp, ?_⟩) (hk.frame before), fun _ => ?_⟩
  · rw [hps, List.mem_append] at hp
    exact Or.inr hp
  · obtain ⟨_, _, _, _, _, hz, hn⟩ := hW
    refine ⟨hok, _, _, ([] ++ pa) ++ pv, ⟨[] ++ pa, pv, trodAll_append (hargs _ (fun _ _ => rfl)) (hres _ _ _), hvars _ (fun _ _ => rfl), rfl, ?_, ?_⟩, ?_⟩
    · intro b off hp
      have hb : MemPlace.cell b off ∈ before := by rw [hps]; simpa using hp
      rw [hk.2.1 b off (hlt _ hb)]
      exact hz b off hb
    · intro ha
      have := hn ha
      rw [hps] at this
      simpa using this
    · intro p hp _
      rw [hps]
      simpa using hp
end

theorem Grows.kept_all {ρ : Env} {μ' : Where} {d : Nat} {w w' : World} {h' : Heap} (g : Grows ρ Where.none (empty d) w μ' h' w') : Kept w w' :=
  Kept.of_same (fun r hr => (g.kept r hr (by rintro ⟨_, _, _, _, e⟩; cases e)).1) g.size g.os g.output

/-- did a run give 'true'? -/
def isTrue (r : Option (CRes × Heap)) : Bool :=
  match r with
  | some (.ret (.bool (.lit b)), _) => b
  | _ => false

theorem isTrue_spec {r : Option (CRes × Heap)} (h : isTrue r = true) : ∃ h', r = some (.ret yes, h') := by
  unfold isTrue at h
  split at h
  · subst h; exact ⟨_, rfl⟩
  · cases h

/-- A RUN THAT GIVES 'true' FROM THE EMPTY MEMORY -/
theorem calls_true {P : Program} {ρ : Env} {call : CallF} (hc : SoundCall P ρ call) {g : FuncId} {args : List AVal} {d : Nat} (hx : isTrue (call g args (empty d)) = true) {vargs : Array Value} (hv : VsRel ρ Where.none args vargs.toList) (w : World) (hT : ∀ g o, ρ.tabs g = some o → w.heap[g]? = some o) :
    Calls P g vargs w fun e w' => e = .returned (.bool true) ∧ Kept w w' := by
  obtain ⟨h', hx⟩ := isTrue_spec hx
  refine ((hc g args _ _ _ hx).2 _ w vargs (empty_rel d w hT) hv).mono fun e w' he => ?_
  obtain ⟨μ', g', he⟩ := he
  refine ⟨?_, g'.kept_all⟩
  cases e
  case returned u =>
    have he : VRel ρ μ' yes u := he
    simp only [yes, VRel] at he
    subst he
    rfl
  all_goals exact he.elim

/-- what changes nothing that was there -/
theorem Grows.idle {ρ : Env} {μ : Where} {h : Heap} {w w' : World} (H : HRel ρ μ h w) (hk : ∀ r, r < w.heap.size → w'.heap[r]? = w.heap[r]?) (hs : w.heap.size ≤ w'.heap.size) (ho : w'.os = w.os) (hp : w'.output = w.output) : Grows ρ μ h w μ h w' := by
  have hkept : ∀ r, r < w.heap.size → ¬ Owned μ h r → w'.heap[r]? = w.heap[r]? ∧ ¬ Owned μ h r := fun r hr hno => ⟨hk r hr, hno⟩
  refine ⟨μ.le_refl, ⟨H.fresh, fun b B hb => ?_, H.inj, H.tabs_of hkept⟩, hs, hkept, ho, hp, Nat.le_refl _, fun _ _ => rfl, fun _ _ h => .inl h, rfl⟩
  obtain ⟨r, δ, hm, hr⟩ := H.blk b B hb
  exact ⟨r, δ, hm, by rw [hk r (H.lt hb hm)]; exact hr⟩

/-- a function without arguments that a run has shown to return true -/
theorem trueO_sound {P : Program} {ρ : Env} {call : CallF} (hc : SoundCall P ρ call) {g : FuncId} {d : Nat} (hx : isTrue (call g [] (empty d)) = true) : SoundO P ρ g trueO := by
  intro args h r h' hr
  obtain ⟨h1, hx⟩ := isTrue_spec hx
  unfold trueO at hr
  split at hr
  · simp only [Option.some.injEq, Prod.mk.injEq] at hr
    obtain ⟨rfl, rfl⟩ := hr
    refine ⟨(hc g [] _ _ _ hx).1, fun μ w vargs H hv => ?_⟩
    refine ((hc g [] _ _ _ hx).2 _ w vargs (empty_rel d w fun g o e => (H.tabs.tabs g o e).1) hv).mono fun e w' he => ?_
    obtain ⟨μ', g', he⟩ := he
    refine ⟨μ, Grows.idle H (fun r hr => (g'.kept r hr (by rintro ⟨_, _, _, _, e⟩; cases e)).1) g'.size g'.os g'.output, ?_⟩
    cases e
    case returned u =>
      have he : VRel ρ μ' yes u := he
      simp only [yes, VRel] at he
      subst he
      show VRel ρ μ yes _
      simp only [yes, VRel]
    all_goals exact he.elim
  · cases hr

/-- a number, a string, a bool: it says nothing of memory -/
def plainV (v : AVal) : Bool :=
  match v with
  | .bool _ => true
  | .int _ _ => true
  | .str _ => true
  | _ => false

theorem plainV_rel {ρ : Env} {μ μ' : Where} {v : AVal} {u : Value} (hp : plainV v = true) (h : VRel ρ μ v u) : VRel ρ μ' v u := by
  cases v <;> simp only [plainV, Bool.false_eq_true] at hp <;> simp only [VRel] at h ⊢ <;> exact h

theorem plainVs_rel {ρ : Env} {μ μ' : Where} : ∀ {vs : List AVal} {us : List Value}, vs.all plainV = true → VsRel ρ μ vs us → VsRel ρ μ' vs us
  | [], us, _, h => by simp only [VsRel] at h ⊢; exact h
  | v :: vs, us, hp, h => by
    simp only [List.all_cons, Bool.and_eq_true] at hp
    simp only [VsRel] at h ⊢
    obtain ⟨u, rest, e, h1, h2⟩ := h
    exact ⟨u, rest, e, plainV_rel hp.1 h1, plainVs_rel hp.2 h2⟩

/-- did a run give this? -/
noncomputable def isRes (v : AVal) (r : Option (CRes × Heap)) : Bool :=
  match r with
  | some (.ret u, _) => plainV v && u.eq v
  | _ => false

theorem isRes_spec {v : AVal} {r : Option (CRes × Heap)} (h : isRes v r = true) : plainV v = true ∧ ∃ h', r = some (.ret v, h') := by
  unfold isRes at h
  split at h
  · rw [Bool.and_eq_true] at h
    exact ⟨h.1, _, by rw [AVal.eq_spec h.2]⟩
  · cases h

theorem lookMemo_mem {args : List AVal} : ∀ {l : List (List AVal × AVal)} {v : AVal}, lookMemo args l = some v → (args, v) ∈ l
  | [], v, h => by cases h
  | x :: r, v, h => by
    have h : (bif AVal.eqL args x.1 then some x.2 else lookMemo args r) = some v := h
    cases e : AVal.eqL args x.1 with
    | true =>
      rw [e] at h
      simp only [cond_true, Option.some.injEq] at h
      rw [AVal.eqL_spec e, ← h]
      exact List.mem_cons_self
    | false => rw [e] at h; exact List.mem_cons_of_mem _ (lookMemo_mem h)

/-- one value of a function, as a run has shown it -/
def MemoOk (call : CallF) (d : Nat) (g : FuncId) (x : List AVal × AVal) : Prop := (x.1.all plainV && isRes x.2 (call g x.1 (empty d))) = true

theorem memoO_sound {P : Program} {ρ : Env} {call : CallF} (hc : SoundCall P ρ call) {g : FuncId} {d : Nat} {l : List (List AVal × AVal)} (hl : ∀ x ∈ l, MemoOk call d g x) : SoundO P ρ g (memoO l) := by
  intro args h r h' hr
  unfold memoO at hr
  obtain ⟨v, hv0, hr⟩ := bnd_some hr
  simp only [Option.some.injEq, Prod.mk.injEq] at hr
  obtain ⟨rfl, rfl⟩ := hr
  have hx := hl _ (lookMemo_mem hv0)
  unfold MemoOk at hx
  rw [Bool.and_eq_true] at hx
  obtain ⟨hp, hx⟩ := hx
  obtain ⟨hpv, h1, hx⟩ := isRes_spec hx
  refine ⟨(hc g args _ _ _ hx).1, fun μ w vargs H hv => ?_⟩
  refine ((hc g args _ _ _ hx).2 _ w vargs (empty_rel d w fun g o e => (H.tabs.tabs g o e).1) (plainVs_rel hp hv)).mono fun e w' he => ?_
  obtain ⟨μ', g', he⟩ := he
  refine ⟨μ, Grows.idle H (fun r hr => (g'.kept r hr (by rintro ⟨_, _, _, _, e⟩; cases e)).1) g'.size g'.os g'.output, ?_⟩
  cases e
  case returned u => exact plainV_rel hpv (show VRel ρ μ' v u from he)
  all_goals exact he.elim

theorem orcOf_mem {f : Nat} : ∀ {l : List (Nat × OracleF)} {o : OracleF}, orcOf f l = some o → (f, o) ∈ l
  | [], o, h => by cases h
  | x :: r, o, h => by
    have h : (bif Nat.beq x.1 f then some x.2 else orcOf f r) = some o := h
    rw [cond_beq] at h
    by_cases e : x.1 = f
    · rw [if_pos e] at h
      simp only [Option.some.injEq] at h
      rw [← e, ← h]
      exact List.mem_cons_self
    · rw [if_neg e] at h
      exact List.mem_cons_of_mem _ (orcOf_mem h)

/-! ### Facts -/

theorem wrap_in (k : IntKind) (n : Int) (h : k.min ≤ n ∧ n ≤ k.max) : k.wrap n = n := by
  obtain ⟨h1, h2⟩ := h
  unfold IntKind.wrap
  unfold IntKind.min at h1
  unfold IntKind.max at h2
  cases k <;> simp [IntKind.signed, IntKind.bits] at h1 h2 ⊢ <;> (try split) <;> omega

theorem and_low (x : Int) (c : Nat) (hc : c < 9223372036854775808) : 0 ≤ bits .and .i64 x c ∧ bits .and .i64 x c ≤ c := by
  rw [← bitsF_eq .and .i64 x c (.inl rfl)]
  have e : nmod (c : Int) (modulus .i64) = c := Nat.mod_eq_of_lt (show c < 18446744073709551616 by omega)
  unfold bitsF natBits
  simp only [e]
  have hle := Nat.and_le_right (n := nmod x (modulus .i64)) (m := c)
  show 0 ≤ back .i64 (nmod x (modulus .i64) &&& c) ∧ back .i64 (nmod x (modulus .i64) &&& c) ≤ c
  generalize nmod x (modulus .i64) &&& c = m at hle
  have hb : Nat.ble (modulus .i64) (m + m) = false := by
    cases h' : Nat.ble (modulus .i64) (m + m) with
    | false => rfl
    | true => have := Nat.le_of_ble_eq_true h'; have : 18446744073709551616 ≤ m + m := this; omega
  unfold back
  rw [hb]
  simp only [Bool.and_false, cond_false, Int.ofNat_eq_natCast]
  omega

theorem wf_range {k : IntKind} {n : Int} (h : (Lit.int k n).wf = true) : k.min ≤ n ∧ n ≤ k.max := by
  simpa [Lit.wf] using h

theorem facts_cons {α : Type} {p : α → Prop} {x : α} {l : List α} (h : p x) (h' : ∀ y ∈ l, p y) : ∀ y ∈ x :: l, p y := fun y hy => by
  rcases List.mem_cons.1 hy with rfl | hy
  · exact h
  · exact h' y hy

theorem facts_nil {α : Type} {p : α → Prop} : ∀ y ∈ ([] : List α), p y := fun y hy => by cases hy
end Go.AM
