/- Parts of slices and strings by the abstract machine; and all operations that read nothing, together. -/
import Derived.Test.YthgbnljjolhodaaGreatDoorAmEq2
set_option linter.all false
namespace Go.AM

section
variable {P : Program} {Γ : Facts} {ρ : Env} {μ : Where} {tm : Tr AVal} {a : Act} {w : World}

theorem optNat_sound (hT : TRel ρ μ tm a) {d n : Nat} {x : Option Operand} (h : optNat tm d (x.map opd) = some n) : (x = none ∧ n = d) ∨ ∃ y k, x = some y ∧ a.eval y = .int k (n : Int) := by
  cases x with
  | none => have h : some d = some n := h; simp only [Option.some.injEq] at h; exact .inl ⟨rfl, h.symm⟩
  | some y =>
    have h : natOf (ev tm (opd y)) = some n := h
    obtain ⟨k, e⟩ := natOf_sound h (ev_sound hT y)
    exact .inr ⟨y, k, rfl, e⟩

theorem run_bound {k : IntKind} {n y : Nat} {code : BoundsCode} (h : n ≤ y) : (Instr.sliceBound (.int k (n : Int)) y code).run P w = .ok n w := by
  rw [run_sliceBound w k _ y code (by omega) (by omega)]; simp

theorem run_bounds (hT : TRel ρ μ tm a) {sl : Bool} {len cap l h : Nat} {lo hi : Option Operand} (hl : optNat tm 0 (lo.map opd) = some l) (hh : optNat tm len (hi.map opd) = some h) (h1 : l ≤ h) (h2 : h ≤ cap) :
    (Instr.sliceBounds sl len cap (lo.map a.eval) (hi.map a.eval) none).run P w = .ok (l, h, cap) w := by
  rcases optNat_sound hT hl with ⟨rfl, rfl⟩ | ⟨y, k, rfl, e⟩ <;> rcases optNat_sound hT hh with ⟨rfl, rfl⟩ | ⟨y', k', rfl, e'⟩
  · simp [Instr.sliceBounds]
  · simp [Instr.sliceBounds, e', run_bound h2]
  · simp [Instr.sliceBounds, e, run_bound h1]
  · simp [Instr.sliceBounds, e, e', run_bound h1, run_bound h2]

theorem run_bounds_max (hT : TRel ρ μ tm a) {sl : Bool} {len cap l h m : Nat} {lo : Option Operand} {hi mx : Operand} (hl : optNat tm 0 (lo.map opd) = some l) (hh : natOf (ev tm (opd hi)) = some h) (hm : natOf (ev tm (opd mx)) = some m)
    (h1 : l ≤ h) (h2 : h ≤ m) (h3 : m ≤ cap) :
    (Instr.sliceBounds sl len cap (lo.map a.eval) (some (a.eval hi)) (some (a.eval mx))).run P w = .ok (l, h, m) w := by
  obtain ⟨k1, e1⟩ := natOf_sound hh (ev_sound hT hi)
  obtain ⟨k2, e2⟩ := natOf_sound hm (ev_sound hT mx)
  rcases optNat_sound hT hl with ⟨rfl, rfl⟩ | ⟨y, k, rfl, e⟩
  · simp [Instr.sliceBounds, e1, e2, run_bound h2, run_bound h3]
  · simp [Instr.sliceBounds, e, e1, e2, run_bound h1, run_bound h2, run_bound h3]

theorem gives_subs {o : Oper} {t : TypeId} {x : Operand} {lo hi : Option Operand} (ho : o.op = .slice t x lo hi none) (hT : TRel ρ μ tm a) (hu : P.underlying t = some .string) {v : AVal}
    (h : subsV (ev tm (opd x)) (optNat tm 0 (lo.map opd)) (fun d => optNat tm d (hi.map opd)) = some v) : Gives P ρ μ a o w v := by
  have hx := ev_sound hT x
  unfold subsV at h
  split at h
  · rename_i s e1
    rw [e1] at hx
    obtain ⟨l, hl, h⟩ := bnd_some h
    obtain ⟨hh', hh, h⟩ := bnd_some h
    obtain ⟨b, eX, rfl⟩ := hx.str
    unfold subsK at h
    obtain ⟨hc, h⟩ := cond_some h
    rw [Bool.and_eq_true, ble_iff, ble_iff] at hc
    obtain ⟨r, hr, h⟩ := bnd_some h
    simp only [Option.some.injEq] at h
    subst h
    simp only [nlen_eq, strOf_length] at hh hc
    have hb := run_bounds (P := P) (w := w) (sl := false) hT hl hh hc.1 hc.2
    refine ⟨.string (b.extract l hh'), ?_, ?_⟩
    · simp only [execOp, ho, Option.map_none, Sem.run_bind, run_sliceAt_string w t _ _ _ _ hu, eX]
      simp [Instr.slice, run_underlying hu, hb]
    · simp only [VRel]
      refine ⟨_, rfl, ?_⟩
      have := ntaken_spec hr
      rw [ndropped_eq] at this
      rw [this]
      unfold strOf
      have hex : (b.extract l hh').data.toList = (b.data.toList.drop l).take (hh' - l) := by
        obtain ⟨⟨L⟩⟩ := b
        have := ByteArray.extract_mk L l hh'
        rw [show (⟨⟨L⟩⟩ : ByteArray) = ByteArray.mk L.toArray from rfl, this]
      rw [hex, List.map_take, List.map_drop]
  · cases h

theorem sliced_at (r p l h m size : Nat) : sliced (some ⟨r, p, none⟩) l h m size = .slice (some ⟨r, p + (if m = l then 0 else l * size), none⟩) (h - l) (m - l) := by
  unfold sliced
  by_cases e : m = l
  · rw [if_pos e, if_pos e]; rfl
  · rw [if_neg e, if_neg e]
    simp [Addr.add_bare]

theorem gives_reslice {o : Oper} {t e : TypeId} {x : Operand} {lo hi : Option Operand} {n : Nat} (ho : o.op = .slice t x lo hi none) (hT : TRel ρ μ tm a) (hu : P.underlying t = some (.slice e)) (hn : sizeT P e = some n) {v : AVal}
    (h : resliceV n (ev tm (opd x)) (optNat tm 0 (lo.map opd)) (fun d => optNat tm d (hi.map opd)) none = some v) : Gives P ρ μ a o w v := by
  have hx := ev_sound hT x
  have hel : P.elem t = e := by simp [Program.elem, hu]
  have hu' : P.underlying t = some (.slice (P.elem t)) := by rw [hel]; exact hu
  have hs := run_sizeT (w := w) hn
  unfold resliceV at h
  split at h
  · rename_i b off len c e1 _
    rw [e1] at hx
    obtain ⟨l, hl, h⟩ := bnd_some h
    obtain ⟨hh', hh, h⟩ := bnd_some h
    obtain ⟨r, δ, m, hm, eX, hle⟩ := hx.slice
    unfold resliceK at h
    obtain ⟨hc, h⟩ := cond_some h
    rw [Bool.and_eq_true, ble_iff, ble_iff] at hc
    simp only [Option.some.injEq] at h
    subst h
    have hb := run_bounds (P := P) (w := w) (sl := true) hT hl hh hc.1 hc.2
    refine ⟨sliced (some ⟨r, δ + off, none⟩) l hh' c n, ?_, ?_⟩
    · simp only [execOp, ho, Option.map_none, Sem.run_bind, run_sliceAt_slice w t _ _ _ _ hu', eX, run_slice_any w t _ _ _ hu', hb, Result.andThen_ok, hel, hs]
      simp
    · rw [sliced_at]
      simp only [VRel, cond_beq]
      refine ⟨r, δ, m, hm, ?_, by omega⟩
      by_cases e : c = l <;> simp [e, Nat.add_assoc]
  · rename_i b off len es e1 _
    rw [e1] at hx
    obtain ⟨l, hl, h⟩ := bnd_some h
    obtain ⟨hh', hh, h⟩ := bnd_some h
    obtain ⟨r, δ, m, c', hm, eX, hle, hroom⟩ := hx.gslice
    unfold resliceU at h
    obtain ⟨hc, h⟩ := cond_some h
    rw [Bool.and_eq_true, Bool.and_eq_true, ble_iff, ble_iff, nbeq_iff] at hc
    have hes := hc.2
    have hb := run_bounds (P := P) (w := w) (sl := true) (cap := c') hT hl hh hc.1.1 (by omega)
    refine ⟨sliced (some ⟨r, δ + off, none⟩) l hh' c' n, ?_, ?_⟩
    · simp only [execOp, ho, Option.map_none, Sem.run_bind, run_sliceAt_slice w t _ _ _ _ hu', eX, run_slice_any w t _ _ _ hu', hb, Result.andThen_ok, hel, hs]
      simp
    · rw [cond_beq] at h
      rw [sliced_at]
      by_cases e0 : l = 0
      · rw [if_pos e0] at h
        simp only [Option.some.injEq] at h
        subst h
        simp only [VRel]
        refine ⟨r, δ, m, c', hm, ?_, by omega, hroom⟩
        subst e0
        have : δ + off + (if c' = 0 then 0 else 0 * n) = δ + off := by split <;> omega
        rw [this]; simp
      · rw [if_neg e0] at h
        obtain ⟨hlt, h⟩ := cond_some h
        have hlt := blt_iff.1 hlt
        simp only [Option.some.injEq] at h
        subst h
        simp only [VRel]
        refine ⟨r, δ, m, c' - l, hm, ?_, by omega, ?_⟩
        · rw [if_neg (by omega)]; simp [Nat.add_assoc]
        · subst hes
          have : (c' - l) * n + l * n = c' * n := by rw [← Nat.add_mul]; congr 1; omega
          omega
  · rename_i hmx
    simp at hmx
  · rename_i hmx
    simp at hmx
  · rename_i e1 _
    rw [e1] at hx
    have eX : a.eval x = .slice none 0 0 := by simpa only [VRel] using hx
    obtain ⟨l, hl, h⟩ := bnd_some h
    obtain ⟨hh', hh, h⟩ := bnd_some h
    obtain ⟨hc, h⟩ := cond_some h
    rw [Bool.and_eq_true, nbeq_iff, nbeq_iff] at hc
    simp only [Option.some.injEq] at h
    subst h
    obtain ⟨rfl, rfl⟩ := hc
    have hb := run_bounds (P := P) (w := w) (sl := true) (cap := 0) hT hl hh (Nat.le_refl _) (Nat.le_refl _)
    refine ⟨sliced none 0 0 0 n, ?_, by simp [sliced, VRel]⟩
    simp only [execOp, ho, Option.map_none, Sem.run_bind, run_sliceAt_slice w t _ _ _ _ hu', eX, run_slice_any w t _ _ _ hu', hb, Result.andThen_ok, hel, hs]
    rfl
  · cases h

theorem optA_none {x : Option Operand} (h : optA tm (x.map opd) = none) : x = none := by
  cases x with
  | none => rfl
  | some x => cases h

theorem optA_some {x : Option Operand} {v : AVal} (hT : TRel ρ μ tm a) (h : optA tm (x.map opd) = some v) : ∃ y, x = some y ∧ ev tm (opd y) = v ∧ VRel ρ μ v (a.eval y) := by
  cases x with
  | none => cases h
  | some y =>
    have h : some (ev tm (opd y)) = some v := h
    simp only [Option.some.injEq] at h
    exact ⟨y, rfl, h, h ▸ ev_sound hT y⟩

/-- bounds that are numbers -/
theorem run_boundsN {sl : Bool} {lo hi : Option Operand} {l h cap len : Nat} (hl : (lo = none ∧ l = 0) ∨ ∃ x k, lo = some x ∧ a.eval x = .int k (l : Int)) (hh : (hi = none ∧ h = len) ∨ ∃ x k, hi = some x ∧ a.eval x = .int k (h : Int)) (h1 : l ≤ h) (h2 : h ≤ cap) :
    (Instr.sliceBounds sl len cap (lo.map a.eval) (hi.map a.eval) none).run P w = .ok (l, h, cap) w := by
  rcases hl with ⟨rfl, rfl⟩ | ⟨y, k, rfl, e⟩ <;> rcases hh with ⟨rfl, rfl⟩ | ⟨y', k', rfl, e'⟩
  · simp [Instr.sliceBounds]
  · simp [Instr.sliceBounds, e', run_bound h2]
  · simp [Instr.sliceBounds, e, run_bound h1]
  · simp [Instr.sliceBounds, e, e', run_bound h1, run_bound h2]

theorem sliced_zero (p : Option Addr) (h c n : Nat) : sliced p 0 h c n = .slice p h c := by
  have e : p.map (·.add (0 * n)) = p := by
    cases p with
    | none => rfl
    | some p => simp [Addr.add]
  unfold sliced
  rw [e]
  simp

theorem gives_resliceG (hΓ : Γ.Hold ρ) {o : Oper} {t e : TypeId} {x : Operand} {lo hi : Option Operand} {n : Nat} (ho : o.op = .slice t x lo hi none) (hT : TRel ρ μ tm a) (hu : P.underlying t = some (.slice e)) (hn : sizeT P e = some n) {v : AVal}
    (h : resliceG Γ n (ev tm (opd x)) (optA tm (lo.map opd)) (optA tm (hi.map opd)) = some v) : Gives P ρ μ a o w v := by
  have hx := ev_sound hT x
  have hel : P.elem t = e := by simp [Program.elem, hu]
  have hu' : P.underlying t = some (.slice (P.elem t)) := by rw [hel]; exact hu
  have hs := run_sizeT (w := w) hn
  -- the operation, once its bounds are known
  have key : ∀ (p : Option Addr) (len cap l h' : Nat), a.eval x = .slice p len cap → ((lo = none ∧ l = 0) ∨ ∃ x k, lo = some x ∧ a.eval x = .int k (l : Int)) → ((hi = none ∧ h' = len) ∨ ∃ x k, hi = some x ∧ a.eval x = .int k (h' : Int)) → l ≤ h' → h' ≤ cap → VRel ρ μ v (sliced p l h' cap n) → Gives P ρ μ a o w v := fun p len cap l h' eX hl hh h1 h2 hv => by
    have hb := run_boundsN (P := P) (w := w) (sl := true) hl hh h1 h2
    refine ⟨_, ?_, hv⟩
    simp only [execOp, ho, Option.map_none, Sem.run_bind, run_sliceAt_slice w t _ _ _ _ hu', eX, run_slice_any w t _ _ _ hu', hb, Result.andThen_ok, hel, hs]
    simp
  have num : ∀ {y : Option Operand} {k : IntKind} {t : ST}, optA tm (y.map opd) = some (.int k t) → ∃ z, y = some z ∧ a.eval z = .int k (t.den ρ) := fun {y k t} e => by
    obtain ⟨z, h1, _, h3⟩ := optA_some hT e
    exact ⟨z, h1, h3.int⟩
  unfold resliceG at h
  split at h
  · rename_i f i es len e1
    obtain ⟨hes, h⟩ := cond_some h
    have hes := nbeq_iff.1 hes
    subst hes
    rw [e1] at hx
    have hx2 := hx
    obtain ⟨p, cap, eX, hcap, hlen, hp⟩ := hx.lst_slice
    -- a beginning
    have take : ∀ (u : ST) (j : Nat), ((hi = none ∧ u.den ρ = ((ρ.lst i).length : Int)) ∨ ∃ z k, hi = some z ∧ a.eval z = .int k (u.den ρ)) → ((lo = none) ∨ ∃ z k, lo = some z ∧ a.eval z = .int k 0) → lookD [.take i u] Γ.defs = some j → v = .lst false j n u → Gives P ρ μ a o w v := fun u j hh hl hj hv => by
      subst hv
      obtain ⟨A, B, q1, ⟨q2, q3, q4⟩, q5⟩ := hΓ.defs _ (lookD_mem hj)
      have q5 : B = [] := q5
      subst q5
      rw [List.append_nil] at q1
      have q1 : ρ.lst j = A := q1
      subst q1
      obtain ⟨m, hm⟩ : ∃ m : Nat, u.den ρ = (m : Int) := ⟨(u.den ρ).toNat, by omega⟩
      have hjl : (ρ.lst j).length = m := by rw [q4, List.length_take, hm]; simp; omega
      refine key p _ cap 0 m eX ?_ ?_ (Nat.zero_le _) (by omega) ?_
      · rcases hl with rfl | ⟨z, k, rfl, e⟩
        · exact .inl ⟨rfl, rfl⟩
        · exact .inr ⟨z, k, rfl, e⟩
      · rcases hh with ⟨rfl, e⟩ | ⟨z, k, rfl, e⟩
        · exact .inl ⟨rfl, by omega⟩
        · exact .inr ⟨z, k, rfl, by rw [e, hm]⟩
      · rw [sliced_zero]
        simp only [VRel, Rep]
        refine ⟨⟨cap, by omega, ?_⟩, by rw [hjl, hm], fun e => by cases e⟩
        by_cases h0 : m = 0
        · exact .inl ⟨List.eq_nil_of_length_eq_zero (by omega), p, by rw [h0]⟩
        · obtain ⟨r, δ, c, ty, rfl, k1, k2⟩ := hp (by omega)
          refine .inr ⟨r, δ, c, ty, by rw [hjl], k1, ?_⟩
          rw [q4]
          rw [RepLL_flat] at k2 ⊢
          refine ⟨fun ps hps => k2.1 ps (List.mem_of_mem_take hps), ?_⟩
          have := k2.2
          rw [← List.take_append_drop (u.den ρ).toNat (ρ.lst i), List.flatten_append, RepL.append_iff] at this
          exact this.1
    have dtake : ∀ (lo' : Option AVal), optA tm (lo.map opd) = lo' → resliceD Γ i n len lo' (optA tm (hi.map opd)) = some v → Gives P ρ μ a o w v := fun lo' hlo h => by
      unfold resliceD at h
      split at h
      · rename_i k u e2
        obtain ⟨j, hj, h⟩ := bnd_some h
        simp only [Option.some.injEq] at h
        obtain ⟨z, hz, hze⟩ := num e2
        exact take u j (.inr ⟨z, k, hz, hze⟩) (.inl (optA_none hlo)) hj h.symm
      · rename_i k0 k u e2
        obtain ⟨j, hj, h⟩ := bnd_some h
        simp only [Option.some.injEq] at h
        obtain ⟨z, hz, hze⟩ := num e2
        obtain ⟨z0, hz0, hze0⟩ := num hlo
        exact take u j (.inr ⟨z, k, hz, hze⟩) (.inr ⟨z0, k0, hz0, hze0⟩) hj h.symm
      · rename_i _ k u e2
        obtain ⟨j, hj, h⟩ := bnd_some h
        obtain ⟨u', hu', h⟩ := bnd_some h
        simp only [Option.some.injEq] at h
        subst h
        obtain ⟨z, hz, hze⟩ := num hlo
        obtain ⟨A, B, q1, ⟨q2, q3, q4⟩, q5⟩ := hΓ.defs _ (lookD_mem hj)
        have q5 : B = [] := q5
        subst q5
        rw [List.append_nil] at q1
        have q1 : ρ.lst j = A := q1
        subst q1
        have hlj : u'.den ρ = ((ρ.lst j).length : Int) := hΓ.llen _ (lookLen_mem hu')
        obtain ⟨m, hm⟩ : ∃ m : Nat, u.den ρ = (m : Int) := ⟨(u.den ρ).toNat, by omega⟩
        have hml : m ≤ (ρ.lst i).length := by omega
        have hjl : (ρ.lst j).length = (ρ.lst i).length - m := by rw [q4, List.length_drop, hm]; rfl
        refine key p _ cap m (ρ.lst i).length eX (.inr ⟨z, k, hz, by rw [hze, hm]⟩) (.inl ⟨optA_none e2, rfl⟩) hml hcap ?_
        simp only [VRel]
        refine ⟨?_, hlj, fun e => by cases e⟩
        by_cases h0 : m = 0
        · subst h0
          rw [sliced_zero]
          have e : ρ.lst j = ρ.lst i := by rw [q4, hm]; rfl
          rw [e, ← eX]
          exact hx2.lst.1
        · obtain ⟨r, δ, c, ty, rfl, k1, k2⟩ := hp (by omega)
          rw [sliced_at]
          simp only [Rep]
          refine ⟨cap - m, by omega, ?_⟩
          by_cases h1 : (ρ.lst j).length = 0
          · exact .inl ⟨List.eq_nil_of_length_eq_zero h1, _, by rw [← hjl, h1]⟩
          · refine .inr ⟨r, δ + m * n, c, ty, ?_, k1, ?_⟩
            · rw [if_neg (by omega), hjl]
            · rw [q4, hm]
              rw [RepLL_flat] at k2 ⊢
              refine ⟨fun ps hps => k2.1 ps (List.mem_of_mem_drop hps), ?_⟩
              have := k2.2
              rw [← List.take_append_drop m (ρ.lst i), List.flatten_append, RepL.append_iff] at this
              have hfl : ((ρ.lst i).take m).flatten.length = m * n := by
                rw [flatten_len fun ps hps => k2.1 ps (List.mem_of_mem_take hps), List.length_take]; congr 1; omega
              rw [hfl] at this
              exact this.2
      · cases h
    unfold resliceT at h
    split at h
    · rename_i e2 e3
      simp only [Option.some.injEq] at h
      subst h
      exact key p _ cap 0 _ eX (.inl ⟨optA_none e2, rfl⟩) (.inl ⟨optA_none e3, rfl⟩) (Nat.zero_le _) hcap (by rw [sliced_zero, ← eX]; exact hx2)
    · rename_i k u e2 e3
      cases hc : u.eq len with
      | true =>
        rw [hc] at h
        simp only [cond_true, Option.some.injEq] at h
        subst h
        obtain ⟨z, hz, hze⟩ := num e3
        have hc := ST.eq_sound hc
        subst hc
        refine key p _ cap 0 _ eX (.inl ⟨optA_none e2, rfl⟩) (.inr ⟨z, k, hz, by rw [hze, hlen]⟩) (Nat.zero_le _) hcap (by rw [sliced_zero, ← eX]; exact hx2)
      | false =>
        rw [hc] at h
        simp only [cond_false] at h
        exact dtake none e2 (by rw [e3]; exact h)
    · exact dtake _ rfl h
  · rename_i b es len e1
    obtain ⟨hes, h⟩ := cond_some h
    have hes := nbeq_iff.1 hes
    subst hes
    rw [e1] at hx
    have hx2 := hx
    obtain ⟨r, m, k, hm, eX, hk, hkl, hlc⟩ := hx.vec
    unfold resliceW at h
    split at h
    · rename_i e2 e3
      simp only [Option.some.injEq] at h
      subst h
      exact key _ _ _ 0 _ eX (.inl ⟨optA_none e2, rfl⟩) (.inl ⟨optA_none e3, rfl⟩) (Nat.zero_le _) (by omega) (by rw [sliced_zero, ← eX]; exact hx2)
    · rename_i kk u e2 e3
      obtain ⟨hc, h⟩ := cond_some h
      simp only [Option.some.injEq] at h
      subst h
      rw [Bool.and_eq_true] at hc
      have h1 := knownT_geq hΓ hc.1
      have h2 := knownT_leq hΓ hc.2
      have h1 : 0 ≤ u.den ρ := h1
      obtain ⟨q, hq⟩ : ∃ q : Nat, u.den ρ = (q : Int) := ⟨(u.den ρ).toNat, by omega⟩
      obtain ⟨z, hz, hze⟩ := num e3
      refine key _ _ _ 0 q eX (.inl ⟨optA_none e2, rfl⟩) (.inr ⟨z, kk, hz, by rw [hze, hq]⟩) (Nat.zero_le _) (by omega) ?_
      rw [sliced_zero]
      simp only [VRel]
      exact ⟨r, m, q, hm, rfl, hq, by omega, hlc⟩
    · cases h
  · cases h

theorem gives_reslice3 {o : Oper} {t e : TypeId} {x hi mx : Operand} {lo : Option Operand} {n : Nat} (ho : o.op = .slice t x lo (some hi) (some mx)) (hT : TRel ρ μ tm a) (hu : P.underlying t = some (.slice e)) (hn : sizeT P e = some n) {v : AVal}
    (h : resliceV n (ev tm (opd x)) (optNat tm 0 (lo.map opd)) (fun d => optNat tm d (some (opd hi))) (some (natOf (ev tm (opd mx)))) = some v) : Gives P ρ μ a o w v := by
  have hx := ev_sound hT x
  have hel : P.elem t = e := by simp [Program.elem, hu]
  have hu' : P.underlying t = some (.slice (P.elem t)) := by rw [hel]; exact hu
  have hs := run_sizeT (w := w) hn
  have key : ∀ (b off len r δ rm c' : Nat), (bnd (optNat tm 0 (lo.map opd)) fun l => bnd (natOf (ev tm (opd hi))) fun h => bnd (natOf (ev tm (opd mx))) fun m => resliceM n b off len l h m) = some v →
      μ b = some (r, δ, rm) → a.eval x = .slice (some ⟨r, δ + off, none⟩) len c' → len ≤ c' → Gives P ρ μ a o w v := fun b off len r δ rm c' h hm eX hle => by
    obtain ⟨l, hl, h⟩ := bnd_some h
    obtain ⟨hh', hh, h⟩ := bnd_some h
    obtain ⟨m, hmm, h⟩ := bnd_some h
    unfold resliceM at h
    obtain ⟨hc, h⟩ := cond_some h
    rw [Bool.and_eq_true, Bool.and_eq_true, ble_iff, ble_iff, ble_iff] at hc
    simp only [Option.some.injEq] at h
    subst h
    have hb := run_bounds_max (P := P) (w := w) (sl := true) (len := len) (cap := c') hT hl hh hmm hc.1.1 hc.1.2 (by omega)
    refine ⟨sliced (some ⟨r, δ + off, none⟩) l hh' m n, ?_, ?_⟩
    · simp only [execOp, ho, Option.map_some, Sem.run_bind, run_sliceAt_slice w t _ _ _ _ hu', eX, run_slice_any w t _ _ _ hu', hb, Result.andThen_ok, hel, hs]
      simp
    · rw [sliced_at]
      simp only [VRel, cond_beq]
      refine ⟨r, δ, rm, hm, ?_, by omega⟩
      by_cases e : m = l <;> simp [e, Nat.add_assoc]
  unfold resliceV at h
  split at h
  · rename_i hmx; simp at hmx
  · rename_i hmx; simp at hmx
  · rename_i b off len cap m' e1 e2
    rw [e1] at hx
    simp only [Option.some.injEq] at e2
    subst e2
    obtain ⟨r, δ, rm, hm, eX, hle⟩ := hx.slice
    exact key _ _ _ _ _ _ _ h hm eX hle
  · rename_i b off len cap m' e1 e2
    rw [e1] at hx
    simp only [Option.some.injEq] at e2
    subst e2
    obtain ⟨r, δ, rm, c', hm, eX, hle, _⟩ := hx.gslice
    exact key _ _ _ _ _ _ _ h hm eX hle
  · rename_i hmx; simp at hmx
  · cases h

theorem map_p {α : Type} {o : Option α} {f : α → POp} {q : POp} (h : (o.map fun x => IOp.p (f x)) = some (.p q)) : ∃ x, o = some x ∧ q = f x := by
  obtain ⟨x, hx, e⟩ := Option.map_eq_some_iff.1 h
  simp only [IOp.p.injEq] at e
  exact ⟨x, hx, e.symm⟩

theorem concrete_of {t : TypeId} {d : TypeDesc} (h : P.underlying t = some d) (hd : ∀ ms, d ≠ .interface ms) : P.concrete t = true := by
  unfold Program.concrete
  rw [h]
  cases d <;> first | rfl | (exact absurd rfl (hd _))

theorem gives_assert {o : Oper} {x : Operand} {xt t : TypeId} {ok : Bool} (ho : o.op = .typeAssert x xt t ok) (hT : TRel ρ μ tm a) {d : TypeDesc} (hu : P.underlying t = some d) (hd : ∀ ms, d ≠ .interface ms) {i : TypeInfo} (hi : P.info? t = some i)
    {z : Option AVal} (hz : if ok then ∃ zv, i.zero = some zv ∧ z = some (absV zv) else z = none) {v : AVal} (h : assertV t z (ev tm (opd x)) = some v) : Gives P ρ μ a o w v := by
  have hx := ev_sound hT x
  unfold assertV at h
  split at h
  · rename_i u y e1
    have ok0 : ok = false := by
      cases ok
      · rfl
      · obtain ⟨_, _, e⟩ := hz; cases e
    subst ok0
    obtain ⟨hc, h2⟩ := cond_some h
    have hc := nbeq_iff.1 hc
    subst hc
    have h2 : y = v := by simpa using h2
    subst h2
    rw [e1] at hx
    obtain ⟨y', e2, hy⟩ := hx.iface
    refine ⟨y', ?_, hy⟩
    cases d <;> first | exact absurd rfl (hd _) | simp [execOp, ho, Instr.typeAssert, run_underlying hu, e2]
  · rename_i u y zz e1
    have ok1 : ok = true := by
      cases ok
      · cases hz
      · rfl
    subst ok1
    obtain ⟨zv, hzv, ez⟩ := hz
    simp only [Option.some.injEq] at ez
    subst ez
    simp only [Option.some.injEq] at h
    rw [e1] at hx
    obtain ⟨y', e2, hy⟩ := hx.iface
    rw [cond_beq] at h
    by_cases hut : u = t
    · rw [if_pos hut] at h
      subst h
      refine ⟨.tuple #[y', .bool true], ?_, ?_⟩
      · cases d <;> first | exact absurd rfl (hd _) | simp [execOp, ho, Instr.typeAssert, run_underlying hu, e2, hut]
      · simp only [VRel]
        exact ⟨_, rfl, by simp only [VsRel]; exact ⟨_, _, rfl, hy, _, _, rfl, rfl, rfl⟩⟩
    · rw [if_neg hut] at h
      subst h
      have hzr : (zeroValue t).run P w = .ok zv w := by simp [zeroValue, typeInfo, hi, hzv]
      refine ⟨.tuple #[zv, .bool false], ?_, ?_⟩
      · cases d <;> first | exact absurd rfl (hd _) | simp [execOp, ho, Instr.typeAssert, run_underlying hu, e2, hut, hzr]
      · simp only [VRel]
        exact ⟨_, rfl, by simp only [VsRel]; exact ⟨_, _, rfl, absV_sound zv, _, _, rfl, rfl, rfl⟩⟩
  · rename_i zz e1
    have ok1 : ok = true := by
      cases ok
      · cases hz
      · rfl
    subst ok1
    obtain ⟨zv, hzv, ez⟩ := hz
    simp only [Option.some.injEq] at ez
    subst ez
    simp only [Option.some.injEq] at h
    subst h
    rw [e1] at hx
    have e2 : a.eval x = .nilIface := by simpa only [VRel] using hx
    have hzr : (zeroValue t).run P w = .ok zv w := by simp [zeroValue, typeInfo, hi, hzv]
    refine ⟨.tuple #[zv, .bool false], ?_, ?_⟩
    · cases d <;> first | exact absurd rfl (hd _) | simp [execOp, ho, Instr.typeAssert, run_underlying hu, e2, hzr]
    · simp only [VRel]
      exact ⟨_, rfl, by simp only [VsRel]; exact ⟨_, _, rfl, absV_sound zv, _, _, rfl, rfl, rfl⟩⟩
  · cases h

theorem compAssert_spec {t : TypeId} {ok : Bool} {x : Operand} {q : IOp} (h : compAssert P t ok x = some q) :
    ∃ d i z, P.underlying t = some d ∧ (∀ ms, d ≠ .interface ms) ∧ P.info? t = some i ∧ (if ok then ∃ zv, i.zero = some zv ∧ z = some (absV zv) else z = none) ∧ q = .p (.assert t z (opd x)) := by
  unfold compAssert at h
  split at h
  · cases h
  · rename_i d i hni hu hi
    have hd : ∀ ms, d ≠ .interface ms := fun ms e => hni ms e
    split at h
    · rename_i hok
      obtain ⟨zv, hz, e⟩ := Option.map_eq_some_iff.1 h
      subst hok
      exact ⟨d, i, some (absV zv), hu, hd, hi, by simp only [if_true]; exact ⟨zv, hz, rfl⟩, e.symm⟩
    · rename_i hok
      simp only [Option.some.injEq] at h
      exact ⟨d, i, none, hu, hd, hi, by rw [if_neg hok], h.symm⟩
  · cases h

theorem compConv_spec {s d : TypeId} {x : Operand} {q : IOp} (h : compConv P s d x = some q) :
    (∃ k0 k, P.underlying s = some (.int k0) ∧ P.underlying d = some (.int k) ∧ q = .p (.conv k (opd x))) ∨ (P.underlying s = some .string ∧ P.underlying d = some .string ∧ q = .p (.same (opd x))) ∨
    (∃ t n, P.underlying s = some (.pointer t) ∧ P.underlying d = some .unsafePointer ∧ sizeT P t = some (n + 1) ∧ q = .r (.uptr (uTypes P fun _ _ => true) (opd x))) ∨
    (∃ u n, P.underlying s = some .unsafePointer ∧ P.underlying d = some (.pointer u) ∧ sizeT P u = some n ∧ q = .r (.uptr (uTypes P fun e n => liesAt P P.depth e (n / P.cellsOf e) 0 u 1) (opd x))) := by
  unfold compConv at h
  split at h
  · rename_i k0 k hs hd
    simp only [Option.some.injEq] at h
    exact .inl ⟨k0, k, hs, hd, h.symm⟩
  · rename_i hs hd
    simp only [Option.some.injEq] at h
    exact .inr (.inl ⟨hs, hd, h.symm⟩)
  · rename_i t hs hd
    split at h
    · rename_i n hn
      simp only [Option.some.injEq] at h
      exact .inr (.inr (.inl ⟨t, n, hs, hd, hn, h.symm⟩))
    · cases h
  · rename_i u hs hd
    obtain ⟨n, hn, h⟩ := Option.map_eq_some_iff.1 h
    exact .inr (.inr (.inr ⟨u, n, hs, hd, hn, h.symm⟩))
  · cases h

/-- ALL OPERATIONS THAT READ NOTHING -/
theorem pure_sound (hΓ : Γ.Hold ρ) (hT : TRel ρ μ tm a) {pl : List Held} {o : Oper} {q : POp} (hc : compOp P pl o = some (.p q)) {v : AVal} (h : pureA Γ tm q = some v) : Gives P ρ μ a o w v := by
  cases hop : o.op <;> simp only [compOp, hop, reduceCtorEq, Option.some.injEq, IOp.p.injEq] at hc
  case move x => subst hc; simp only [pureA, Option.some.injEq] at h; subst h; exact gives_mv (.inl hop) hT
  case assign x => subst hc; simp only [pureA, Option.some.injEq] at h; subst h; exact gives_mv (.inr hop) hT
  case pick c x y => subst hc; exact gives_pick hop hT h
  case alloc t => obtain ⟨_, _, e⟩ := Option.map_eq_some_iff.1 hc; cases e
  case build t parts =>
    split at hc
    · rename_i fs z hu hz
      split at hc
      · rename_i hall
        obtain ⟨ps, hp, rfl⟩ := map_p hc
        exact gives_build_struct hop hT hu hz hall hp h
      · cases hc
    · rename_i k e z hu hz
      obtain ⟨n, hn, hc⟩ := Option.bind_eq_some_iff.1 hc
      obtain ⟨ps, hp, rfl⟩ := map_p hc
      exact gives_build_array hop hT hu hz hn hp h
    · cases hc
  case nilCheck x => subst hc; exact gives_nilc hop hT h
  case binOp op t x y yt =>
    obtain ⟨q', hq0, e⟩ := Option.map_eq_some_iff.1 hc
    simp only [IOp.p.injEq] at e
    subst e
    have eqs : ∀ neg : Bool, op = (if neg then .neq else .eql) → compEq P pl neg t x y = some q' → Gives P ρ μ a o w v := fun neg hop2 hq => by
      clear hq0 hc
      subst hop2
      unfold compEq at hq
      split at hq
      · rename_i hu; simp only [Option.some.injEq] at hq; subst hq; exact gives_eq_bool hop hT hu h
      · rename_i hu
        obtain ⟨n, hn, hq⟩ := Option.bind_eq_some_iff.1 hq
        simp only [Option.some.injEq] at hq; subst hq; exact gives_eq_ptr hop hT hu hn h
      · rename_i hu; simp only [Option.some.injEq] at hq; subst hq; exact gives_eq_slice hop hT hu h
      · rename_i hu; simp only [Option.some.injEq] at hq; subst hq; exact gives_eq_map hop hT hu h
      · rename_i hu; simp only [Option.some.injEq] at hq; subst hq; exact gives_eq_func hop hT hu h
      · rename_i fs hu
        split at hq
        · rename_i l hl
          split at hq
          · cases hq
          · rename_i hgd
            simp only [Option.some.injEq] at hq; subst hq
            exact gives_eq_plain hop hΓ hT (.inl ⟨_, hu⟩) hl (by simpa using hgd) h
        · cases hq
      · rename_i k e hu
        split at hq
        · rename_i l hl
          split at hq
          · cases hq
          · rename_i hgd
            simp only [Option.some.injEq] at hq; subst hq
            exact gives_eq_plain hop hΓ hT (.inr ⟨_, _, hu⟩) hl (by simpa using hgd) h
        · cases hq
      · rename_i ms hu
        split at hq
        · rename_i hpl
          simp only [Option.some.injEq] at hq; subst hq
          exact gives_eq_iface hop hΓ hT hu hpl rfl h
        · cases hq
      · cases hq
    unfold compBin at hq0
    split at hq0
    · simp only [Option.some.injEq] at hq0; subst hq0; exact gives_bin hop hΓ hT h
    · simp only [Option.some.injEq] at hq0; subst hq0; exact gives_bin hop hΓ hT h
    · exact eqs false rfl hq0
    · exact eqs true rfl hq0
    · cases hq0
  case unOp op t x => subst hc; exact gives_un hop hΓ hT h
  case convert s d x =>
    rcases compConv_spec hc with ⟨k0, k, hs, hd, e⟩ | ⟨hs, hd, e⟩ | ⟨_, _, _, _, _, e⟩ | ⟨_, _, _, _, _, e⟩
    · simp only [IOp.p.injEq] at e; subst e
      exact gives_conv hop hΓ hT hs hd h
    · simp only [IOp.p.injEq] at e; subst e
      exact gives_same hop hT hs hd h
    · cases e
    · cases e
  case typeAssert x xt t ok =>
    obtain ⟨d, i, z, hu, hd, hi, hz, e⟩ := compAssert_spec hc
    simp only [IOp.p.injEq] at e; subst e
    exact gives_assert hop hT hu hd hi hz h
  case makeInterface t x =>
    split at hc
    · cases hc
    · rename_i d hni hd
      simp only [Option.some.injEq, IOp.p.injEq] at hc; subst hc
      simp only [pureA, Option.some.injEq] at h; subst h
      exact gives_iface hop hT (concrete_of hd fun ms e => hni ms (by rw [e]))
    · cases hc
  case makeFunc fn x c =>
    cases fn <;> simp only [reduceCtorEq, Option.some.injEq, IOp.p.injEq] at hc
    subst hc
    simp only [pureA, Option.some.injEq] at h; subst h
    exact gives_func hop hT
  case slice t x lo hi mx =>
    split at hc
    · rename_i hu
      simp only [Option.some.injEq, IOp.p.injEq] at hc; subst hc
      exact gives_subs hop hT hu h
    · rename_i e hu
      obtain ⟨n, hn, rfl⟩ := map_p hc
      have h : resliceX Γ tm n (ev tm (opd x)) (lo.map opd) (hi.map opd) none = some v := h
      unfold resliceX at h
      split at h
      · exact gives_resliceG hΓ hop hT hu hn h
      · exact gives_reslice hop hT hu hn h
    · rename_i e m hu
      split at hc
      · rename_i hhi
        obtain ⟨n, hn, rfl⟩ := map_p hc
        obtain ⟨hi, rfl⟩ := Option.isSome_iff_exists.1 hhi
        have h : resliceV n (ev tm (opd x)) (optNat tm 0 (lo.map opd)) (fun d => optNat tm d (some (opd hi))) (some (natOf (ev tm (opd m)))) = some v := by
          have h : resliceX Γ tm n (ev tm (opd x)) (lo.map opd) (some (opd hi)) (some (opd m)) = some v := h
          unfold resliceX at h
          split at h
          · rename_i e; simp at e
          · exact h
        exact gives_reslice3 hop hT hu hn h
      · cases hc
    · cases hc
  case fieldAddr t x f =>
    split at hc
    · rename_i fs hu
      obtain ⟨g, hg, hc⟩ := Option.bind_eq_some_iff.1 hc
      split at hc
      · rename_i n hn
        simp only [Option.some.injEq, IOp.p.injEq] at hc; subst hc
        exact gives_fieldA hop hT hu hg hn h
      · cases hc
    · cases hc
  case field t x f =>
    split at hc
    · rename_i fs hu
      obtain ⟨g, hg, hc⟩ := Option.bind_eq_some_iff.1 hc
      obtain ⟨n, hn, rfl⟩ := map_p hc
      exact gives_field hop hT hu hg hn h
    · cases hc
  case indexAddr t x i =>
    split at hc
    · rename_i e hu
      obtain ⟨n, hn, rfl⟩ := map_p hc
      exact gives_idxA hΓ hop hT hu hn h
    · rename_i len e hu
      obtain ⟨n, hn, rfl⟩ := map_p hc
      exact gives_idxArr hop hT hu hn h
    · cases hc
  case index t x i =>
    split at hc
    · rename_i len e hu
      split at hc
      · rename_i n ag hn ha
        simp only [Option.some.injEq, IOp.p.injEq] at hc; subst hc
        exact gives_idx hop hT hu hn ha h
      · cases hc
    · rename_i hu
      simp only [Option.some.injEq, IOp.p.injEq] at hc; subst hc
      exact gives_idxS hop hT hu h
    · cases hc
  case extract x i => subst hc; exact gives_ext hop hT h
  case call c =>
    unfold compCall at hc
    split at hc
    · split at hc
      · split at hc
        · simp at hc
        · split at hc
          · split at hc <;> simp at hc
          · split at hc
            · split at hc <;> simp at hc
            · cases hc
      · cases hc
    · simp at hc
    · cases hc
    · rename_i b hb
      split at hc
      · rename_i x t e1 e2
        have ea : c.args = #[x] := by rw [← Array.toList_inj]; simpa using e1
        have et : c.argTypes = #[t] := by rw [← Array.toList_inj]; simpa using e2
        split at hc
        · rename_i hu
          simp only [Option.some.injEq, IOp.p.injEq] at hc; subst hc
          exact gives_lenS hΓ hop hb ea et hT hu h
        · rename_i e hu
          simp only [Option.some.injEq, IOp.p.injEq] at hc; subst hc
          exact gives_lenL hop hb ea et hT hu h
        · rename_i n e hu
          simp only [Option.some.injEq, IOp.p.injEq] at hc; subst hc
          have h : some (lit .i64 (.ofNat n)) = some v := h
          simp only [Option.some.injEq] at h
          subst h
          exact ⟨.int .i64 n, by simp [execOp, hop, resolve, hb, ea, et, invoke, builtin, Builtin.len_, run_underlying hu, goInt], by simp only [lit, VRel, ST.den]; rfl⟩
        · simp at hc
        · cases hc
      · exfalso
        unfold compApp at hc
        split at hc <;> first | cases hc | skip
        all_goals (split at hc <;> first | (cases hc; done) | (split at hc <;> simp at hc))
      · exfalso
        split at hc <;> first | (cases hc; done) | (obtain ⟨_, _, e⟩ := Option.map_eq_some_iff.1 hc; cases e)
      · simp only [Option.some.injEq, IOp.p.injEq] at hc; subst hc
        exact gives_big hΓ (most := true) hop hb rfl hT h
      · simp only [Option.some.injEq, IOp.p.injEq] at hc; subst hc
        exact gives_big hΓ (most := false) hop hb rfl hT h
      · simp at hc
      · rename_i x e1
        have ea : c.args = #[x] := by rw [← Array.toList_inj]; simpa using e1
        simp only [Option.some.injEq, IOp.p.injEq] at hc; subst hc
        exact gives_sdata hop hb ea hT h
      · exfalso
        split at hc
        · split at hc <;> simp at hc
        · cases hc
      · cases hc
  case defer c =>
    obtain ⟨cal, args, tys⟩ := c
    cases cal <;> simp at hc
  all_goals
    exfalso
    first
      | (cases hc; done)
      | (split at hc <;> first | (cases hc; done) | (simp at hc; done) | (obtain ⟨_, _, e⟩ := Option.map_eq_some_iff.1 hc; cases e; done) | (split at hc <;> first | (cases hc; done) | (simp at hc; done) | (split at hc <;> first | (cases hc; done) | (simp at hc; done) | (obtain ⟨_, _, e⟩ := Option.map_eq_some_iff.1 hc; cases e; done))))
      | (obtain ⟨_, _, e⟩ := Option.map_eq_some_iff.1 hc; cases e; done)

end
end Go.AM
