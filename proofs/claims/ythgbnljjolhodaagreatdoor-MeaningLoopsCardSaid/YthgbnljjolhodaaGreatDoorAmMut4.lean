/- The abstract machine's operations that change memory: all of them together. -/
import Derived.Test.YthgbnljjolhodaaGreatDoorAmMut3
set_option linter.all false
namespace Go.AM

section
variable {P : Program} {Γ : Facts} {ρ : Env} {μ : Where} {tm : Tr AVal} {a : Act} {w : World} {h : Heap}

/-- ALL OTHER OPERATIONS -/
theorem other_sound (H : HRel ρ μ h w) (hT : TRel ρ μ tm a) {pl : List Held} {o : Oper} {q : MOp} (hc : compOp P pl o = some (.m q)) {r : MRes} (hr : otherA tm h q = some r) : Does P ρ μ h a o w r := by
  cases hop : o.op <;> simp only [compOp, hop, reduceCtorEq, Option.some.injEq] at hc
  case store t x y =>
    obtain ⟨n, hn, e⟩ := Option.map_eq_some_iff.1 hc
    simp only [IOp.m.injEq] at e
    subst e
    obtain ⟨h', hs, e⟩ := bnd_some hr
    simp only [Option.some.injEq] at e
    subst e
    exact does_store hop H hT hn hs
  case insert t m k x =>
    split at hc
    · rename_i kt e hu
      obtain ⟨kk, hk, e⟩ := Option.map_eq_some_iff.1 hc
      simp only [IOp.m.injEq] at e
      subst e
      obtain ⟨h', hs, e⟩ := bnd_some hr
      simp only [Option.some.injEq] at e
      subst e
      exact does_mapUp (.inr hop) H hT hu hk hs
    · cases hc
  case mapUpdate t m k x =>
    split at hc
    · rename_i kt e hu
      obtain ⟨kk, hk, e⟩ := Option.map_eq_some_iff.1 hc
      simp only [IOp.m.injEq] at e
      subst e
      obtain ⟨h', hs, e⟩ := bnd_some hr
      simp only [Option.some.injEq] at e
      subst e
      exact does_mapUp (.inl hop) H hT hu hk hs
    · cases hc
  case panic x =>
    simp only [IOp.m.injEq] at hc
    subst hc
    exact does_panic hop hT hr
  case call c =>
    unfold compCall at hc
    split at hc
    · rename_i f hf
      split at hc
      · rename_i fn hfn
        split at hc
        · simp only [Option.some.injEq, IOp.m.injEq] at hc
          subst hc
          simp only [otherA] at hr
          obtain ⟨p, hp, e⟩ := bnd_some hr
          simp only [Option.some.injEq] at e
          subst e
          exact does_call hop hf hT hp
        · rename_i hb
          split at hc
          · rename_i hn
            split at hc
            · rename_i x e1
              have ea : c.args = #[x] := by rw [← Array.toList_inj]; simpa using e1
              simp only [Option.some.injEq, IOp.m.injEq] at hc
              subst hc
              rw [Bool.and_eq_true, beq_iff_eq, beq_iff_eq] at hn
              exact does_clone hop hf ea hfn (by simpa using hb) hn.1 hn.2 H hT hr
            · cases hc
          · split at hc
            · rename_i hn
              split at hc
              · rename_i x e1
                have ea : c.args = #[x] := by rw [← Array.toList_inj]; simpa using e1
                simp only [Option.some.injEq, IOp.m.injEq] at hc
                subst hc
                rw [Bool.and_eq_true, beq_iff_eq, beq_iff_eq] at hn
                exact does_noesc hop hf ea hfn (by simpa using hb) hn.1 hn.2 H hT hr
              · cases hc
            · cases hc
      · cases hc
    · rename_i f _ hf
      simp only [Option.some.injEq, IOp.m.injEq] at hc
      subst hc
      obtain ⟨p, hp, e⟩ := bnd_some hr
      simp only [Option.some.injEq] at e
      subst e
      exact does_call hop hf hT hp
    · cases hc
    · rename_i b hb
      split at hc
      · split at hc <;> simp at hc
      · rename_i x y t u e1 e2
        have ea : c.args = #[x, y] := by rw [← Array.toList_inj]; simpa using e1
        have et : c.argTypes = #[t, u] := by rw [← Array.toList_inj]; simpa using e2
        have app : ∀ {e : TypeId} {bytes : Bool} {d : TypeDesc}, P.underlying t = some (.slice e) → P.underlying u = some d → Appended d → compApp P e bytes x y = some (.m q) → Does P ρ μ h a o w r := fun {e bytes d} ht hu hd hc => by
          unfold compApp at hc
          split at hc
          · rename_i i hi
            split at hc
            · rename_i hcond
              rw [Bool.and_eq_true, decide_eq_true_eq] at hcond
              simp only [Option.some.injEq, IOp.m.injEq] at hc
              subst hc
              obtain ⟨p, hp, e⟩ := bnd_some hr
              simp only [Option.some.injEq] at e
              subst e
              unfold appendsA at hp
              split at hp
              · rename_i e' h8 hh
                obtain ⟨s, hs, hp⟩ := bnd_some hp
                exact does_appendB hop hb ea et H hT ht hu hd hi hcond.1 h8 hs hp
              · obtain ⟨s, hs, hp⟩ := bnd_some hp
                exact does_append hop hb ea et H hT ht hu hd hi hcond.1 hcond.2 hs hp
            · cases hc
          · cases hc
        split at hc
        · rename_i ht hu
          exact app ht hu (.inl ⟨_, rfl⟩) hc
        · rename_i ht hu
          exact app ht hu (.inr rfl) hc
        · cases hc
      · rename_i x y t u e1 e2
        have ea : c.args = #[x, y] := by rw [← Array.toList_inj]; simpa using e1
        have et : c.argTypes = #[t, u] := by rw [← Array.toList_inj]; simpa using e2
        split at hc
        · rename_i ht hu
          obtain ⟨n, hn, e⟩ := Option.map_eq_some_iff.1 hc
          simp only [IOp.m.injEq] at e
          subst e
          obtain ⟨s, hs, hr2⟩ := bnd_some hr
          obtain ⟨p, hp, e⟩ := bnd_some hr2
          simp only [Option.some.injEq] at e
          subst e
          exact does_copy hop hb ea et H hT ht hn hs hp
        · rename_i ht hu
          obtain ⟨n, hn, e⟩ := Option.map_eq_some_iff.1 hc
          simp only [IOp.m.injEq] at e
          subst e
          obtain ⟨s, hs, hr2⟩ := bnd_some hr
          obtain ⟨p, hp, e⟩ := bnd_some hr2
          simp only [Option.some.injEq] at e
          subst e
          exact does_copy hop hb ea et H hT ht hn hs hp
        · cases hc
      · simp at hc
      · simp at hc
      · simp only [Option.some.injEq, IOp.m.injEq] at hc
        subst hc
        cases hr
      · simp at hc
      · rename_i p n pt it e1 e2
        have ea : c.args = #[p, n] := by rw [← Array.toList_inj]; simpa using e1
        have et : c.argTypes = #[pt, it] := by rw [← Array.toList_inj]; simpa using e2
        split at hc
        · rename_i e hp
          split at hc
          · rename_i hc1
            simp only [Option.some.injEq, IOp.m.injEq] at hc
            subst hc
            exact does_ustr hop hb ea et H hT hp (nbeq_iff.1 hc1) hr
          · cases hc
        · cases hc
      · cases hc
  case convert s d x =>
    rcases compConv_spec hc with ⟨k0, k, hs, hd, e⟩ | ⟨hs, hd, e⟩ | ⟨t, n, hs, hd, hn, e⟩ | ⟨u, n, hs, hd, hn, e⟩ <;> cases e
  case typeAssert x xt t ok =>
    obtain ⟨d, i, z, hu, hd, hi, hz, e⟩ := compAssert_spec hc
    cases e
  case defer c =>
    obtain ⟨cal, args, tys⟩ := c
    cases cal <;> simp at hc
    subst hc
    obtain ⟨p, hp, e⟩ := bnd_some hr
    simp only [Option.some.injEq] at e
    subst e
    exact does_defer hop rfl hT hp
  case makeFunc fn x c => cases fn <;> simp at hc
  case binOp op t x y yt => obtain ⟨_, _, e⟩ := Option.map_eq_some_iff.1 hc; cases e
  case slice t x lo hi mx =>
    exfalso
    split at hc
    · simp at hc
    · obtain ⟨_, _, e⟩ := Option.map_eq_some_iff.1 hc; cases e
    · split at hc
      · obtain ⟨_, _, e⟩ := Option.map_eq_some_iff.1 hc; cases e
      · cases hc
    · cases hc
  case build t parts =>
    exfalso
    split at hc
    · split at hc
      · obtain ⟨_, _, e⟩ := Option.map_eq_some_iff.1 hc; cases e
      · cases hc
    · obtain ⟨_, _, hc⟩ := Option.bind_eq_some_iff.1 hc
      obtain ⟨_, _, e⟩ := Option.map_eq_some_iff.1 hc; cases e
    · cases hc
  case fieldAddr t x f =>
    exfalso
    split at hc
    · obtain ⟨_, _, hc⟩ := Option.bind_eq_some_iff.1 hc
      split at hc <;> simp at hc
    · cases hc
  case field t x f =>
    exfalso
    split at hc
    · obtain ⟨_, _, hc⟩ := Option.bind_eq_some_iff.1 hc
      obtain ⟨_, _, e⟩ := Option.map_eq_some_iff.1 hc; cases e
    · cases hc
  all_goals
    exfalso
    first
      | (cases hc; done)
      | (split at hc <;> first | (cases hc; done) | (simp at hc; done) | (obtain ⟨_, _, e⟩ := Option.map_eq_some_iff.1 hc; cases e; done) | (split at hc <;> first | (cases hc; done) | (simp at hc; done) | (obtain ⟨_, _, e⟩ := Option.map_eq_some_iff.1 hc; cases e; done) | (split at hc <;> first | (cases hc; done) | (simp at hc; done) | (obtain ⟨_, _, e⟩ := Option.map_eq_some_iff.1 hc; cases e; done))))
      | (obtain ⟨_, _, e⟩ := Option.map_eq_some_iff.1 hc; cases e; done)

end
end Go.AM
