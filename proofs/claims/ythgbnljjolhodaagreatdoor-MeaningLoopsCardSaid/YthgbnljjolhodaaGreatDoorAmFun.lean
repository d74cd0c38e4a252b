/- The abstract machine's functions: arguments, results, deferred calls, calls. -/
import Derived.Test.YthgbnljjolhodaaGreatDoorAmExec
import Derived.Defers
import Derived.Recover
import Derived.Laws.Sem
set_option linter.all false
namespace Go.AM

section
variable {P : Program} {Γ : Facts} {ρ : Env} {μ : Where} {tm : Tr AVal} {a : Act} {w : World} {h : Heap} {pl : List Held} {call : CallF} {fuel : Nat}

/-! ### Arguments -/

theorem argsTm_get : ∀ (l : List AVal) (i : Nat) (t : Tr AVal) (n : Nat), (argsTm l i t).get n = if i ≤ n ∧ n < i + l.length then l[n - i]? else t.get n
  | [], i, t, n => by
    show t.get n = _
    rw [if_neg (by simp)]
  | v :: r, i, t, n => by
    have e : argsTm (v :: r) i t = argsTm r (i + 1) (t.set i (some v)) := rfl
    rw [e, argsTm_get r, Tr.get_set]
    simp only [List.length_cons]
    by_cases h1 : i + 1 ≤ n ∧ n < i + 1 + r.length
    · rw [if_pos h1, if_pos (by omega)]
      rw [show n - i = (n - (i + 1)) + 1 from by omega, List.getElem?_cons_succ]
    · rw [if_neg h1]
      by_cases h2 : n = i
      · subst h2
        rw [if_pos rfl, if_pos (by omega)]
        simp
      · rw [if_neg h2, if_neg (by omega)]

theorem args_rel {F : IFun} {args : List AVal} {vargs : Array Value} (hv : VsRel ρ μ args vargs.toList) (k : Nat) : TRel ρ μ (startF F args h).tm { tmps := vargs ++ Array.replicate k undef, defers := [] } := by
  intro t
  show VRel ρ μ (orAny ((argsTm args 0 (Tr.full AVal F.depth)).get t)) _
  rw [argsTm_get]
  split
  · rename_i hlt
    rw [Nat.sub_zero, List.getElem?_eq_getElem (by omega)]
    obtain ⟨v, h1, h2⟩ := hv.get (List.getElem?_eq_getElem (show t < args.length from by omega))
    have hs : t < vargs.size := by
      have := (List.getElem?_eq_some_iff.1 h1).1
      simpa using this
    have : (vargs ++ Array.replicate k undef).getD t undef = v := by
      rw [Array.getD_eq_getD_getElem?, Array.getElem?_append_left hs]
      rw [Array.getElem?_toList] at h1
      rw [h1]; rfl
    simp only [this]
    exact h2
  · rw [Tr.get_full]
    trivial

/-! ### Results -/

theorem resA_cons (x : IRes) (r : List IRes) : resA tm h (x :: r) = bnd (resOne tm h x) fun v => bnd (resA tm h r) fun vs => some (v :: vs) := rfl

/-- one result -/
def resultOf (tmps : Array Value) : ResultVar → Sem Value
  | .tmp t => pure (tmps.getD t undef)
  | .cell a t => do loadVar t (← asAddr (tmps.getD a undef))

theorem resOne_sound (H : HRel ρ μ h w) (hT : TRel ρ μ tm a) {x : ResultVar} {i : IRes} (hc : compRes P x = some i) {v : AVal} (hv : resOne tm h i = some v) : ∃ u, (resultOf a.tmps x).run P w = .ok u w ∧ VRel ρ μ v u := by
  cases x with
  | tmp t =>
    simp only [compRes, Option.some.injEq] at hc
    subst hc
    simp only [resOne, Option.some.injEq] at hv
    subst hv
    exact ⟨_, rfl, hT t⟩
  | cell b t =>
    obtain ⟨n, hn, e⟩ := Option.map_eq_some_iff.1 hc
    subst e
    have hv : loadA h.fx h n (orAny (tm.get b)) = some v := hv
    obtain ⟨u, h1, h2⟩ := load_sound H.tabs.facts H hn (hT b) hv
    have hp := hT b
    unfold loadA at hv
    split at hv
    · rename_i c j off e1
      rw [e1] at hp
      obtain ⟨r, δ, _, _, _, e2, _⟩ := hp.lptr
      refine ⟨u, ?_, h2⟩
      rw [e2] at h1
      show (do loadVar t (← asAddr (a.tmps.getD b undef)) : Sem Value).run P w = _
      rw [e2]
      exact h1
    · rename_i c off e1
      rw [e1] at hp
      obtain ⟨r, δ, m, _, e2⟩ := hp.ptr
      refine ⟨u, ?_, h2⟩
      rw [e2] at h1
      show (do loadVar t (← asAddr (a.tmps.getD b undef)) : Sem Value).run P w = _
      rw [e2]
      exact h1
    · cases hv

theorem resL_sound (H : HRel ρ μ h w) (hT : TRel ρ μ tm a) : ∀ {l : List ResultVar} {is : List IRes} {vs : List AVal}, allSome (l.map (compRes P)) = some is → resA tm h is = some vs → ∃ us : List Value, (l.mapM (resultOf a.tmps)).run P w = .ok us w ∧ VsRel ρ μ vs us
  | [], is, vs, hc, hv => by
    simp only [List.map_nil, allSome, Option.some.injEq] at hc
    subst hc
    have hv : some [] = some vs := hv
    simp only [Option.some.injEq] at hv
    subst hv
    exact ⟨[], by simp, by simp only [VsRel]⟩
  | x :: l, is, vs, hc, hv => by
    have hc' := allSome_spec hc
    cases is with
    | nil => simp at hc'
    | cons i is =>
      simp only [List.map_cons, List.cons.injEq] at hc'
      obtain ⟨h1, h2⟩ := hc'
      have hc2 : allSome (l.map (compRes P)) = some is := by
        rw [h2]
        clear h2 hc hv
        induction is with
        | nil => rfl
        | cons x r ih => simp only [List.map_cons, allSome, ih, Option.map_some]
      rw [resA_cons] at hv
      obtain ⟨v, hv1, hv⟩ := bnd_some hv
      obtain ⟨vs', hv2, hv⟩ := bnd_some hv
      simp only [Option.some.injEq] at hv
      subst hv
      obtain ⟨u, r1, r2⟩ := resOne_sound H hT h1 hv1
      obtain ⟨us, r3, r4⟩ := resL_sound H hT hc2 hv2
      refine ⟨u :: us, ?_, ?_⟩
      · rw [List.mapM_cons]
        simp [r1, r3]
      · simp only [VsRel]
        exact ⟨_, _, rfl, r2, r4⟩

theorem results_sound (H : HRel ρ μ h w) (hT : TRel ρ μ tm a) {fn : Func} {is : List IRes} (hc : allSome (fn.results.toList.map (compRes P)) = some is) {vs : List AVal} (hv : resA tm h is = some vs) : ∃ u, (results fn a.tmps).run P w = .ok u w ∧ VRel ρ μ (oneOf vs) u := by
  obtain ⟨us, h1, h2⟩ := resL_sound H hT hc hv
  have hm : (fn.results.mapM (resultOf a.tmps)).run P w = .ok us.toArray w := by
    rw [Array.mapM_eq_mapM_toList]
    simp [h1]
  have e : results fn a.tmps = (do
      let vs ← fn.results.mapM (resultOf a.tmps)
      pure (if h : vs.size = 1 then vs[0] else .tuple vs)) := by
    unfold results
    congr 2
  rw [e]
  refine ⟨(if h : us.toArray.size = 1 then us.toArray[0] else .tuple us.toArray), by simp only [Sem.run_bind, hm, Result.andThen_ok, Sem.run_pure], ?_⟩
  cases vs with
  | nil =>
    simp only [VsRel] at h2
    subst h2
    simp only [oneOf, VRel]
    exact ⟨#[], by simp, by simp only [VsRel]⟩
  | cons v vs =>
    cases vs with
    | nil =>
      simp only [VsRel] at h2
      obtain ⟨u, _, rfl, hu, rfl⟩ := h2
      simpa [oneOf] using hu
    | cons v' vs =>
      have h3 := h2
      simp only [VsRel] at h3
      obtain ⟨u, _, rfl, _, u', r, rfl, _⟩ := h3
      simp only [oneOf, VRel]
      exact ⟨(u :: u' :: r).toArray, by simp, h2⟩

end
end Go.AM
