/- The abstract machine's operations depend on no temporaries but those that they name, and reading on no memory but what is read. -/
import Derived.Test.YthgbnljjolhodaaGreatDoorAmStep
set_option linter.all false
namespace Go.AM

section
variable {Γ : Facts} {tm tm' : Tr AVal} {h h' : Heap}

/-- two tables agree on what operands name -/
def Agree (tm tm' : Tr AVal) (l : List Opd) : Prop := ∀ x ∈ l, ev tm x = ev tm' x

theorem evL_congr : ∀ {l : List Opd}, Agree tm tm' l → evL tm l = evL tm' l
  | [], _ => rfl
  | x :: r, h => by
    show ev tm x :: evL tm r = ev tm' x :: evL tm' r
    rw [h x (by simp), evL_congr fun y hy => h y (by simp [hy])]

theorem fillA_congr : ∀ {ps : List (Nat × Nat × Opd)} {cs : List AVal}, Agree tm tm' (ps.map (·.2.2)) → fillA tm ps cs = fillA tm' ps cs
  | [], _, _ => rfl
  | p :: r, cs, h => by
    show (bnd (fillOne cs (ev tm p.2.2) p.1 p.2.1) fun cs => fillA tm r cs) = bnd (fillOne cs (ev tm' p.2.2) p.1 p.2.1) fun cs => fillA tm' r cs
    rw [h p.2.2 (by simp)]
    congr 1
    funext cs
    exact fillA_congr fun y hy => h y (by simp only [List.map_cons, List.mem_cons]; exact .inr hy)

theorem optNat_congr {d : Nat} {o : Option Opd} (h : Agree tm tm' o.toList) : optNat tm d o = optNat tm' d o := by
  cases o with
  | none => rfl
  | some x => simp only [optNat]; rw [h x (by simp)]

theorem optV_congr {o : Option Opd} (h : Agree tm tm' o.toList) : optV tm o = optV tm' o := by
  cases o with
  | none => rfl
  | some x => simp only [optV]; rw [h x (by simp)]

theorem optA_congr {o : Option Opd} (h : Agree tm tm' o.toList) : optA tm o = optA tm' o := by
  cases o with
  | none => rfl
  | some x => simp only [optA]; rw [h x (by simp)]

theorem Agree.app {l l' : List Opd} (h : Agree tm tm' (l ++ l')) : Agree tm tm' l ∧ Agree tm tm' l' := ⟨fun x hx => h x (by simp [hx]), fun x hx => h x (by simp [hx])⟩

theorem Agree.cons {x : Opd} {l : List Opd} (h : Agree tm tm' (x :: l)) : ev tm x = ev tm' x ∧ Agree tm tm' l := ⟨h x (by simp), fun x hx => h x (by simp [hx])⟩

theorem pureA_congr {o : POp} (h : Agree tm tm' o.opds) : pureA Γ tm o = pureA Γ tm' o := by
  cases o <;> simp only [POp.opds] at h <;> simp only [pureA]
  case build zero parts => rw [fillA_congr h]
  case func f a c => rw [evL_congr h.app.1, evL_congr h.app.2]
  case big m xs => rw [evL_congr h]
  case subs x lo hi =>
    obtain ⟨h1, h2⟩ := h.cons
    obtain ⟨h2, h3⟩ := h2.app
    rw [h1, optNat_congr h2]
    congr 1
    funext d
    exact optNat_congr h3
  case reslice n x lo hi mx =>
    obtain ⟨h1, h2⟩ := h.cons
    obtain ⟨h2, h3⟩ := h2.app
    obtain ⟨h3, h4⟩ := h3.app
    have e : (fun d => optNat tm d hi) = fun d => optNat tm' d hi := funext fun d => optNat_congr h3
    rw [h1]
    unfold resliceX
    rw [optNat_congr h2, optV_congr h4, e, optA_congr h2, optA_congr h3]
  case pick c a b => rw [h.cons.1, h.cons.2.cons.1, h.cons.2.cons.2.cons.1]
  all_goals first
    | (rw [h.cons.1, h.cons.2.cons.1]; done)
    | (rw [h.cons.1]; done)

theorem readA_congr {o : ROp} (hh : Agree tm tm' o.opds) : readA Γ tm h o = readA Γ tm' h o := by
  cases o <;> simp only [ROp.opds] at hh <;> simp only [readA]
  case load n x => rw [hh.cons.1]
  case lenM x => rw [hh.cons.1]
  case uptr ok x => rw [hh.cons.1]
  case lookup kk z ok x k => rw [hh.cons.1, hh.cons.2.cons.1]

theorem newA_congr {id : Nat} {o : AOp} (hh : Agree tm tm' o.opds) : newA tm id o = newA tm' id o := by
  cases o <;> simp only [AOp.opds] at hh <;> simp only [newA]
  case box t x => rw [hh.cons.1]
  case bslice len z ps => rw [fillA_congr hh]
  case mkSlice z l c => rw [hh.cons.1, hh.cons.2.cons.1]

theorem otherA_congr {o : MOp} (hh : Agree tm tm' o.opds) : otherA tm h o = otherA tm' h o := by
  cases o <;> simp only [MOp.opds] at hh <;> simp only [otherA]
  case call f args => rw [hh.cons.1, evL_congr hh.cons.2]
  case defer f args => rw [hh.cons.1, evL_congr hh.cons.2]
  case mapUp kk m k v => rw [hh.cons.1, hh.cons.2.cons.1, hh.cons.2.cons.2.cons.1]
  all_goals first
    | (rw [hh.cons.1, hh.cons.2.cons.1]; done)
    | (rw [hh.cons.1]; done)

theorem agree_of_names {l : List Opd} (h : ∀ t ∈ l.flatMap Opd.names, tm.get t = tm'.get t) : Agree tm tm' l := fun x hx => by
  cases x with
  | con v => rfl
  | tmp t =>
    simp only [ev]
    rw [h t (List.mem_flatMap.2 ⟨.tmp t, hx, by simp [Opd.names]⟩)]

end

/-- what a reading operation names are operands of the model's -/
theorem rop_opds {P : Program} {pl : List Held} {o : Oper} {q : ROp} (hc : compOp P pl o = some (.r q)) : ∀ x ∈ q.opds, ∃ y : Operand, x = opd y := by
  cases hop : o.op <;> simp only [compOp, hop, reduceCtorEq, Option.some.injEq] at hc
  case load t x =>
    obtain ⟨n, hn, e⟩ := Option.map_eq_some_iff.1 hc
    simp only [IOp.r.injEq] at e
    subst e
    intro y hy
    simp only [ROp.opds, List.mem_singleton] at hy
    exact ⟨_, hy⟩
  case lookup t x k ok =>
    split at hc
    · split at hc
      · obtain ⟨z, hz, e⟩ := Option.map_eq_some_iff.1 hc
        simp only [IOp.r.injEq] at e
        subst e
        intro y hy
        simp only [ROp.opds, List.mem_cons, List.not_mem_nil, or_false] at hy
        rcases hy with hy | hy
        · exact ⟨_, hy⟩
        · exact ⟨_, hy⟩
      · cases hc
    · cases hc
  case call c =>
    unfold compCall at hc
    split at hc
    · split at hc
      · split at hc
        · simp at hc
        · split at hc
          · split at hc <;> simp at hc
          · split at hc
            · split at hc <;> simp at hc
            · cases hc
      · cases hc
    · simp at hc
    · cases hc
    · rename_i b hb
      split at hc
      · split at hc
        · simp at hc
        · simp at hc
        · simp at hc
        · simp only [Option.some.injEq, IOp.r.injEq] at hc
          subst hc
          intro y hy
          simp only [ROp.opds, List.mem_singleton] at hy
          exact ⟨_, hy⟩
        · cases hc
      · exfalso
        unfold compApp at hc
        split at hc <;> first | cases hc | skip
        all_goals (split at hc <;> first | (cases hc; done) | (split at hc <;> simp at hc))
      · exfalso
        split at hc <;> first | (cases hc; done) | (obtain ⟨_, _, e⟩ := Option.map_eq_some_iff.1 hc; cases e)
      · simp at hc
      · simp at hc
      · simp at hc
      · simp at hc
      · exfalso
        split at hc
        · split at hc <;> simp at hc
        · cases hc
      · cases hc
  case convert s d x =>
    rcases compConv_spec hc with ⟨k0, k, hs, hd, e⟩ | ⟨hs, hd, e⟩ | ⟨t, n, hs, hd, hn, e⟩ | ⟨u, n, hs, hd, hn, e⟩
    · cases e
    · cases e
    all_goals
      simp only [IOp.r.injEq] at e
      subst e
      intro y hy
      simp only [ROp.opds, List.mem_singleton] at hy
      exact ⟨_, hy⟩
  case typeAssert x xt t ok =>
    obtain ⟨d, i, z, hu, hd, hi, hz, e⟩ := compAssert_spec hc
    cases e
  case defer c =>
    obtain ⟨cal, args, tys⟩ := c
    cases cal <;> simp at hc
  case makeFunc fn x c => cases fn <;> simp at hc
  case binOp op t x y yt => obtain ⟨_, _, e⟩ := Option.map_eq_some_iff.1 hc; cases e
  case slice t x lo hi mx =>
    exfalso
    split at hc
    · simp at hc
    · obtain ⟨_, _, e⟩ := Option.map_eq_some_iff.1 hc; cases e
    · split at hc
      · obtain ⟨_, _, e⟩ := Option.map_eq_some_iff.1 hc; cases e
      · cases hc
    · cases hc
  case build t parts =>
    exfalso
    split at hc
    · split at hc
      · obtain ⟨_, _, e⟩ := Option.map_eq_some_iff.1 hc; cases e
      · cases hc
    · obtain ⟨_, _, hc⟩ := Option.bind_eq_some_iff.1 hc
      obtain ⟨_, _, e⟩ := Option.map_eq_some_iff.1 hc; cases e
    · cases hc
  case fieldAddr t x f =>
    exfalso
    split at hc
    · obtain ⟨_, _, hc⟩ := Option.bind_eq_some_iff.1 hc
      split at hc <;> simp at hc
    · cases hc
  case field t x f =>
    exfalso
    split at hc
    · obtain ⟨_, _, hc⟩ := Option.bind_eq_some_iff.1 hc
      obtain ⟨_, _, e⟩ := Option.map_eq_some_iff.1 hc; cases e
    · cases hc
  all_goals
    exfalso
    first
      | (cases hc; done)
      | (split at hc <;> first | (cases hc; done) | (simp at hc; done) | (obtain ⟨_, _, e⟩ := Option.map_eq_some_iff.1 hc; cases e; done) | (split at hc <;> first | (cases hc; done) | (simp at hc; done) | (obtain ⟨_, _, e⟩ := Option.map_eq_some_iff.1 hc; cases e; done) | (split at hc <;> first | (cases hc; done) | (simp at hc; done) | (obtain ⟨_, _, e⟩ := Option.map_eq_some_iff.1 hc; cases e; done))))
      | (obtain ⟨_, _, e⟩ := Option.map_eq_some_iff.1 hc; cases e; done)


section
variable {P : Program} {ρ : Env} {μ : Where} {tm : Tr AVal} {a : Act} {h h' : Heap}

/-- what is read is there in the other memory too, if what names it has been made -/
theorem readA_heap {Γ : Facts} (hT : TRel ρ μ tm a) {o : Oper} {pl : List Held} {q : ROp} (hc : compOp P pl o = some (.r q)) (hh : ∀ b B, μ b ≠ none → h.get b = some B → h'.get b = some B) {v : AVal} (hv : readA Γ tm h q = some v) : readA Γ tm h' q = some v := by
  have cells : ∀ {b : Nat} {vs : List AVal}, μ b ≠ none → cellsOf (h.get b) = some vs → cellsOf (h'.get b) = some vs := fun {b vs} hb hvs => by
    rcases cellsOf_some hvs with e | ⟨t, e⟩ <;> rw [hh _ _ hb e] <;> rfl
  have maps : ∀ {b : Nat} {vs : List Entry × Nat}, μ b ≠ none → mapOf (h.get b) = some vs → mapOf (h'.get b) = some vs := fun {b vs} hb hvs => by
    rw [hh _ _ hb (mapOf_some hvs)]; rfl
  have xs : ∀ x ∈ q.opds, ∃ u, VRel ρ μ (ev tm x) u := fun x hx => by
    obtain ⟨y, rfl⟩ := rop_opds hc x hx
    exact ⟨_, ev_sound hT y⟩
  cases q with
  | load n x =>
    obtain ⟨u, hu⟩ := xs x (by simp [ROp.opds])
    simp only [readA] at hv ⊢
    unfold loadA at hv ⊢
    split at hv
    · exact hv
    · rename_i b off e1
      rw [e1] at hu
      obtain ⟨r, δ, m, hm, _⟩ := hu.ptr
      obtain ⟨vs, hvs, hv⟩ := bnd_some hv
      simp only [cells (by rw [hm]; simp) hvs]
      exact hv
    · cases hv
  | lookup kk z ok x k =>
    obtain ⟨u, hu⟩ := xs x (by simp [ROp.opds])
    simp only [readA] at hv ⊢
    unfold lookA at hv ⊢
    split at hv
    · exact hv
    · rename_i b e1
      rw [e1] at hu
      obtain ⟨r, hm, _⟩ := hu.mapV
      unfold lookMA at hv ⊢
      split at hv
      · rename_i i hi
        have hi' : smapOf (h'.get b) = some i := by rw [hh _ _ (by rw [hm]; simp) (smapOf_some hi)]; rfl
        simp only [hi']
        exact hv
      · obtain ⟨vs, hvs, hv⟩ := bnd_some hv
        have hi' : smapOf (h'.get b) = none := by rw [hh _ _ (by rw [hm]; simp) (mapOf_some hvs)]; rfl
        simp only [hi', maps (by rw [hm]; simp) hvs]
        exact hv
    · cases hv
  | lenM x =>
    obtain ⟨u, hu⟩ := xs x (by simp [ROp.opds])
    simp only [readA] at hv ⊢
    unfold lenMV at hv ⊢
    split at hv
    · exact hv
    · rename_i b e1
      rw [e1] at hu
      obtain ⟨r, hm, _⟩ := hu.mapV
      obtain ⟨vs, hvs, hv⟩ := bnd_some hv
      simp only [maps (by rw [hm]; simp) hvs]
      exact hv
    · cases hv
  | uptr ok x =>
    obtain ⟨u, hu⟩ := xs x (by simp [ROp.opds])
    simp only [readA] at hv ⊢
    unfold uptrV at hv ⊢
    split at hv
    · rename_i b e1
      rw [e1] at hu
      obtain ⟨r, δ, m, hm, _⟩ := hu.ptr
      have hv2 := hv
      unfold uptrB at hv2
      split at hv2
      · rename_i e vs hb
        rw [hb] at hv
        rw [hh _ _ (by rw [hm]; simp) hb]
        exact hv
      · cases hv2
    · cases hv

end
end Go.AM
