/- Known calls: what holds of a call on given pieces of memory holds wherever memory has these pieces. -/
import Derived.Test.YthgbnljjolhodaaGreatDoorAmEnd
set_option linter.all false
namespace Go.AM

/-! ### What is known of a call -/

/-- the call leads from these pieces to those -/
def Holds (P : Program) (ρ : Env) (g : FuncId) (x : Known) : Prop :=
  FnOk P g ∧ ∀ μ w (vargs : Array Value), HRel ρ μ (heapOf x.pre (empty 0)) w → VsRel ρ μ x.args vargs.toList →
    Calls P g vargs w fun e w' => ∃ μ', Grows ρ μ (heapOf x.pre (empty 0)) w μ' (heapP x.post (empty 0)) w' ∧ EndRel ρ μ' (.ret x.res) e

/-- A KNOWN CALL -/
theorem entryO_sound {P : Program} {ρ : Env} {g : FuncId} {x : Known} (hx : Holds P ρ g x) : SoundO P ρ g (entryO x) := by
  intro args h r h' hr
  unfold entryO at hr
  generalize zipBs h x.pre 0 (zipArgs x.args args []) = σ at hr
  simp only at hr
  obtain ⟨hfit, hr2⟩ := cond_some hr
  clear hr
  unfold fitsP at hfit
  rw [Bool.and_eq_true, Bool.and_eq_true, Bool.and_eq_true, Bool.and_eq_true] at hfit
  obtain ⟨hlen, hple, hnd, hargs, hbs⟩ := hfit
  have hlen := nbeq_iff.1 hlen
  rw [nlen_eq, blen_eq] at hlen
  have hple := ble_iff.1 hple
  rw [blen_eq, olen_eq] at hple
  have F : Fits h.fx h σ x.pre x.post.length := ⟨hlen, hple, nodupN_iff hnd, hbs⟩
  unfold applyE at hr2
  obtain ⟨h1, hput, hr3⟩ := bnd_some hr2
  obtain ⟨v, hv, hr4⟩ := bnd_some hr3
  simp only [Option.some.injEq, Prod.mk.injEq] at hr4
  obtain ⟨rfl, rfl⟩ := hr4
  rw [blen_eq] at hput hv
  rw [olen_eq] at hput
  refine ⟨hx.1, fun μ w vargs H hva => ?_⟩
  refine (hx.2 _ w vargs (Fits.before H.tabs.facts F H) (eqArgs_rel H.tabs.facts Fits.ren hargs hva)).mono fun e w' he => ?_
  obtain ⟨μ', g', he⟩ := he
  obtain ⟨μ'', g'', R1⟩ := F.after H hput g'
  refine ⟨μ'', g'', ?_⟩
  · cases e
    case returned u => exact renA_rel R1 hv (show VRel ρ μ' x.res u from he)
    all_goals exact he.elim

theorem entriesO_sound {P : Program} {ρ : Env} {g : FuncId} : ∀ {l : List Known}, (∀ x ∈ l, Holds P ρ g x) → SoundO P ρ g (entriesO l)
  | [], _, args, h, r, h', hr => by cases hr
  | x :: l, hl, args, h, r, h', hr => by
    have e : entriesO (x :: l) args h = (match entryO x args h with | some y => some y | none => entriesO l args h) := rfl
    rw [e] at hr
    split at hr
    · rename_i y hy
      simp only [Option.some.injEq] at hr
      subst hr
      exact entryO_sound (hl x List.mem_cons_self) args h r h' hy
    · exact entriesO_sound (fun y hy => hl y (List.mem_cons_of_mem _ hy)) args h r h' hr
end Go.AM
