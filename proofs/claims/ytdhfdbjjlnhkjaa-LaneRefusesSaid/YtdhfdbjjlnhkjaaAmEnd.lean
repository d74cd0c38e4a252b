/- From a run of the abstract machine to what a row asks of a call: it returns, old memory stays as it was. -/
import Derived.Test.YtdhfdbjjlnhkjaaAmCall
import Derived.WalkKit
import Derived.ProofKit
import Derived.OpenShut
set_option linter.all false
namespace Go.AM
open Go.ChangeShapes Go.WideShapes Go.ChangeAt Go.RowKit

/-- old memory is as it was; there may be new blocks -/
def Kept (W w' : World) : Prop := W.keptBut w' (fun _ => False) ∧ (∀ b off, b < W.heap.size → w'.frozen? ⟨b, off, none⟩ = W.frozen? ⟨b, off, none⟩) ∧ W.heap.size ≤ w'.heap.size

theorem Kept.of_same {W w' : World} (hk : ∀ r, r < W.heap.size → w'.heap[r]? = W.heap[r]?) (hs : W.heap.size ≤ w'.heap.size) (ho : w'.os = W.os) (hp : w'.output = W.output) : Kept W w' := by
  refine ⟨⟨ho, hp, fun i hi => ?_⟩, fun b off hb => ?_, hs⟩
  · rw [hk i hi]
    cases W.heap[i]? with
    | none => trivial
    | some o => cases o <;> simp
  · unfold World.frozen?
    simp only [hk b hb]

theorem Kept.frame {W w' : World} (h : Kept W w') (ps : List MemPlace) : W.keptBut w' (· ∈ ps) := World.keptBut_mono (fun _ h => h.elim) h.1

section
variable {H : Type} {enc : TypeId × Value → H} {P : Program}

/-- as 'post_of_same', of marks in old memory alone -/
theorem post_of_kept {f : Func} {s : ChangeSpec} {apart fresh handsOn again : Bool} {W W' : World} {args : Array Value} {v : Value} {ds gs : List (DataW H)} {before pa pv : List MemPlace}
    (hW : DataW.Whole enc P f.params.toList s.vars apart W args.toList ds gs before)
    (hres : ∀ (b : Nat) (sp : Nat → Bool) (hd : Bool), DataW.TrodAll enc P W' b sp hd f.resultTypes.toList (v.resultList f.resultTypes.size) (s.fn H (ds ++ gs)).results [])
    (hargs : ∀ sp : Nat → Bool, (∀ p ∈ before, sp p.block = true) → DataW.TrodAll enc P W' 0 sp true f.params.toList args.toList (s.fn H (ds ++ gs)).args pa)
    (hvars : ∀ sp : Nat → Bool, (∀ p ∈ before, sp p.block = true) → DataW.TrodVars enc P W' sp s.vars (s.fn H (ds ++ gs)).vars pv)
    (hps : before = pa ++ pv) (hk : Kept W W')
    (hok : ∀ (j : Nat) (t : TypeId) (r : Value), f.resultTypes[j]? = some t → (v.resultList f.resultTypes.size)[j]? = some r → Value.okWide P W' .any 0 t r) :
    s.post enc P f apart fresh handsOn again W args v W' := by
  have hold : ∀ p ∈ before, (fun b => decide (b < W.heap.size)) p.block = true := fun p hp => by simpa using hW.lt p hp
  have hlt := hW.lt
  refine ⟨ds, gs, before, [], pa, pv, hW, hres _ _ _, hargs _ hold, hvars _ hold, World.keptBut_mono (fun p hp => ⟨hp, ?_⟩) (hk.frame before), fun _ => ?_⟩
  · rw [hps, List.mem_append] at hp
    exact Or.inr hp
  · obtain ⟨_, _, _, _, _, hz, hn⟩ := hW
    refine ⟨hok, _, _, ([] ++ pa) ++ pv, ⟨[] ++ pa, pv, trodAll_append (hargs _ (fun _ _ => rfl)) (hres _ _ _), hvars _ (fun _ _ => rfl), rfl, ?_, ?_⟩, ?_⟩
    · intro b off hp
      have hb : MemPlace.cell b off ∈ before := by rw [hps]; simpa using hp
      rw [hk.2.1 b off (hlt _ hb)]
      exact hz b off hb
    · intro ha
      have := hn ha
      rw [hps] at this
      simpa using this
    · intro p hp _
      rw [hps]
      simpa using hp
end

/-- the empty memory -/
def empty (d : Nat) : Heap := ⟨Tr.full Block d, 0⟩

theorem empty_rel {ρ : Nat → Int} (d : Nat) (w : World) : HRel ρ (fun _ => none) (empty d) w where
  fresh := fun _ _ => rfl
  blk := fun b B hb => by rw [show (empty d).get b = none from Tr.get_full d b] at hb; cases hb
  inj := fun b _ B _ _ _ _ hb => by rw [show (empty d).get b = none from Tr.get_full d b] at hb; cases hb

theorem Grows.kept_all {ρ : Nat → Int} {μ' : Where} {d : Nat} {w w' : World} {h' : Heap} (g : Grows ρ (fun _ => none) (empty d) w μ' h' w') : Kept w w' :=
  Kept.of_same (fun r hr => (g.kept r hr (by rintro ⟨_, _, _, _, e⟩; cases e)).1) g.size g.os g.output

/-- did a run give 'true'? -/
def isTrue (r : Option (CRes × Heap)) : Bool :=
  match r with
  | some (.ret (.bool (.lit b)), _) => b
  | _ => false

theorem isTrue_spec {r : Option (CRes × Heap)} (h : isTrue r = true) : ∃ h', r = some (.ret yes, h') := by
  unfold isTrue at h
  split at h
  · subst h; exact ⟨_, rfl⟩
  · cases h

/-- A RUN THAT GIVES 'true' FROM THE EMPTY MEMORY -/
theorem calls_true {P : Program} {ρ : Nat → Int} {call : CallF} (hc : SoundCall P ρ call) {g : FuncId} {args : List AVal} {d : Nat} (hx : isTrue (call g args (empty d)) = true) {vargs : Array Value} (hv : VsRel ρ (fun _ => none) args vargs.toList) (w : World) :
    Calls P g vargs w fun e w' => e = .returned (.bool true) ∧ Kept w w' := by
  obtain ⟨h', hx⟩ := isTrue_spec hx
  refine ((hc g args _ _ _ hx).2 _ w vargs (empty_rel d w) hv).mono fun e w' he => ?_
  obtain ⟨μ', g', he⟩ := he
  refine ⟨?_, g'.kept_all⟩
  cases e
  case returned u =>
    have he : VRel ρ μ' yes u := he
    simp only [yes, VRel] at he
    subst he
    rfl
  all_goals exact he.elim

/-! ### Facts -/

theorem wrap_in (k : IntKind) (n : Int) (h : k.min ≤ n ∧ n ≤ k.max) : k.wrap n = n := by
  obtain ⟨h1, h2⟩ := h
  unfold IntKind.wrap
  unfold IntKind.min at h1
  unfold IntKind.max at h2
  cases k <;> simp [IntKind.signed, IntKind.bits] at h1 h2 ⊢ <;> (try split) <;> omega

theorem and_low (x : Int) (c : Nat) (hc : c < 9223372036854775808) : 0 ≤ bits .and .i64 x c ∧ bits .and .i64 x c ≤ c := by
  rw [← bitsF_eq .and .i64 x c (.inl rfl)]
  have e : nmod (c : Int) (modulus .i64) = c := Nat.mod_eq_of_lt (show c < 18446744073709551616 by omega)
  unfold bitsF natBits
  simp only [e]
  have hle := Nat.and_le_right (n := nmod x (modulus .i64)) (m := c)
  show 0 ≤ back .i64 (nmod x (modulus .i64) &&& c) ∧ back .i64 (nmod x (modulus .i64) &&& c) ≤ c
  generalize nmod x (modulus .i64) &&& c = m at hle
  have hb : Nat.ble (modulus .i64) (m + m) = false := by
    cases h' : Nat.ble (modulus .i64) (m + m) with
    | false => rfl
    | true => have := Nat.le_of_ble_eq_true h'; have : 18446744073709551616 ≤ m + m := this; omega
  unfold back
  rw [hb]
  simp only [Bool.and_false, cond_false, Int.ofNat_eq_natCast]
  omega

theorem wf_range {k : IntKind} {n : Int} (h : (Lit.int k n).wf = true) : k.min ≤ n ∧ n ≤ k.max := by
  simpa [Lit.wf] using h

theorem facts_cons {α : Type} {p : α → Prop} {x : α} {l : List α} (h : p x) (h' : ∀ y ∈ l, p y) : ∀ y ∈ x :: l, p y := fun y hy => by
  rcases List.mem_cons.1 hy with rfl | hy
  · exact h
  · exact h' y hy

theorem facts_nil {α : Type} {p : α → Prop} : ∀ y ∈ ([] : List α), p y := fun y hy => by cases hy
end Go.AM
