/- Comparisons of structs, arrays and interface values by the abstract machine; parts of slices and strings. -/
import Derived.Test.YthgbnljjolhodaaGreatDoorAmPure2
import Derived.LaidEql
set_option linter.all false
namespace Go.AM

section
variable {P : Program} {Γ : Facts} {ρ : Env} {μ : Where} {tm : Tr AVal} {a : Act} {w : World}

theorem litB_some {o : Option SB} {v : Bool} (h : litB o = some v) : o = some (.lit v) := by
  unfold litB at h
  split at h
  · simp only [Option.some.injEq] at h; rw [h]
  · cases h

def LK.fits (k : LK) (d : TypeDesc) : Prop :=
  match k with
  | .bool => d = .bool
  | .int => ∃ i, d = .int i
  | .str => d = .string

theorem eqCell_sound (hΓ : Γ.Hold ρ) {k : LK} {x y : AVal} {u v : Value} {b : Bool} (hx : VRel ρ μ x u) (hy : VRel ρ μ y v) (h : eqCell Γ k x y = some b) {t : TypeId} {d : TypeDesc} (hu : P.underlying t = some d) (hk : k.fits d) (n : Nat) :
    (Op.equalIn (n + 1) t u v).run P w = .ok b w := by
  unfold eqCell at h
  split at h
  · rename_i k1 m k2 m'
    obtain ⟨i, rfl⟩ := hk
    obtain ⟨hkk, h2⟩ := cond_some h
    clear h
    have ek := keq_iff.1 hkk
    subst ek
    have hc := (compare_sound hΓ (litB_some h2)).1
    rw [hx.int, hy.int, run_equalIn_int w n t k1 i _ _ hu]
    simp only [SB.den, cmpV] at hc
    rw [hc]
  · rename_i p q
    have hk : d = .bool := hk
    subst hk
    simp only [Option.some.injEq] at h
    rw [hx.bool, hy.bool]
    simp only [SB.den]
    rw [run_equalIn_bool' w n t p q hu, ← h, beq_eq]
  · rename_i p q
    have hk : d = .string := hk
    subst hk
    simp only [Option.some.injEq] at h
    obtain ⟨s, rfl, e1⟩ := hx.str
    obtain ⟨s', rfl, e2⟩ := hy.str
    rw [run_equalIn_string w n t s s' hu, ← h, ← e1, ← e2, strOf_beq]
  all_goals first
    | (cases h; done)
    | (have hk : d = .string := hk
       subst hk
       obtain ⟨s, u', h1, h2, h3⟩ := hΓ.strs _ (lookS_mem h)
       obtain ⟨b1, rfl, rfl⟩ := strV_sound h1 hx
       obtain ⟨b2, rfl, rfl⟩ := strV_sound h2 hy
       have h3 : b = decide (strOf b1 = strOf b2) := h3
       rw [run_equalIn_string w n t b1 b2 hu, ← strOf_beq, h3]
       congr 1
       rw [Bool.eq_iff_iff, beqL_iff]; simp)

theorem eqLeaves_append (cs ds : List AVal) : ∀ (l1 l2 : List (Nat × LK)), eqLeaves Γ cs ds (l1 ++ l2) = bnd (eqLeaves Γ cs ds l1) fun e => bif e then eqLeaves Γ cs ds l2 else some false
  | [], l2 => rfl
  | o :: l1, l2 => by
    show (bnd (eqAt Γ cs ds o) fun e => bif e then eqLeaves Γ cs ds (l1 ++ l2) else some false) = bnd (bnd (eqAt Γ cs ds o) fun e => bif e then eqLeaves Γ cs ds l1 else some false) _
    cases eqAt Γ cs ds o with
    | none => rfl
    | some e =>
      cases e with
      | false => rfl
      | true => exact eqLeaves_append cs ds l1 l2

theorem shifted_append (k : Nat) (x y : List (Nat × LK)) : shifted k (x ++ y) = shifted k x ++ shifted k y := by simp [shifted]
theorem shifted_shifted (k j : Nat) (x : List (Nat × LK)) : shifted k (shifted j x) = shifted (k + j) x := by
  unfold shifted; rw [List.map_map]; apply List.map_congr_left; intro x _; simp [Nat.add_assoc]

theorem below_spec {n : Nat} {l : List (Nat × LK)} (h : below n l = true) : ∀ x ∈ l, x.1 < n := fun x hx => by
  unfold below at h
  have := List.all_eq_true.1 h x hx
  exact blt_iff.1 this

/-- the first `n` cells of `Z` are those of `X` from `base` on -/
structure Win (X : Array Value) (base n : Nat) (Z : Array Value) : Prop where
  cell : ∀ off, off < n → Z[off]? = X[base + off]?
  part : ∀ off m, off + m ≤ n → Z.extract off (off + m) = X.extract (base + off) (base + off + m)

theorem Win.whole (X : Array Value) (n : Nat) : Win X 0 n X := ⟨fun off _ => by simp, fun off m _ => by simp⟩

theorem Win.sub {X Z : Array Value} {base n : Nat} (h : Win X base n Z) {off m : Nat} (hm : off + m ≤ n) : Win X (base + off) m (Z.extract off (off + m)) where
  cell := fun i hi => by
    rw [Array.getElem?_extract]
    by_cases hz : i < min (off + m) Z.size - off
    · rw [if_pos hz, h.cell _ (by omega), Nat.add_assoc]
    · rw [if_neg hz]
      have hlt : ¬ off + i < Z.size := by omega
      have e := h.cell (off + i) (by omega)
      rw [Array.getElem?_eq_none (by omega)] at e
      rw [Nat.add_assoc]
      exact e
  part := fun i k hk => by
    rw [Array.extract_extract, show min (off + (i + k)) (off + m) = (off + i) + k by omega, h.part _ _ (by omega)]
    congr 1 <;> omega

theorem leaves_one {d : Nat} {t : TypeId} {l : List (Nat × LK)} (h : leaves P d t = some l) (ht : aggT P t = some none) : ∃ lk, l = [(0, lk)] := by
  cases d with
  | zero => simp [leaves] at h
  | succ d =>
    simp only [leaves] at h
    split at h
    · simp only [Option.some.injEq] at h; exact ⟨_, h.symm⟩
    · simp only [Option.some.injEq] at h; exact ⟨_, h.symm⟩
    · simp only [Option.some.injEq] at h; exact ⟨_, h.symm⟩
    · rename_i fs hu
      unfold aggT at ht
      rw [hu] at ht
      cases e : P.info? t <;> rw [e] at ht <;> simp at ht
    · rename_i k e hu
      unfold aggT at ht
      rw [hu] at ht
      cases e : P.info? t <;> rw [e] at ht <;> simp at ht
    · cases h

theorem aggT_cases {t : TypeId} {n : Nat} (hn : sizeT P t = some n) {d : Nat} {l : List (Nat × LK)} (h : leaves P d t = some l) : aggT P t = some none ∨ aggT P t = some (some n) := by
  unfold sizeT at hn
  obtain ⟨i, hi, e⟩ := Option.map_eq_some_iff.1 hn
  have hu : ∃ u, P.underlying t = some u := by
    cases hu : P.underlying t with
    | some u => exact ⟨u, rfl⟩
    | none =>
      cases d with
      | zero => simp [leaves] at h
      | succ d => simp [leaves, hu] at h
  obtain ⟨u, hu⟩ := hu
  unfold aggT
  rw [hu, hi]
  cases u <;> simp [e]

/-- what 'part' gives, where the cells are there -/
theorem run_part {t : TypeId} {X : Array Value} {base : Nat} {n : Nat} (hn : sizeT P t = some n) :
    (∀ m, aggT P t = some (some m) → (part t X base).run P w = .ok (.agg (X.extract base (base + m))) w) ∧
    (aggT P t = some none → ∀ x, X[base]? = some x → (part t X base).run P w = .ok x w) := by
  refine ⟨fun m hm => ?_, fun h x hx => ?_⟩
  · obtain ⟨h1, h2⟩ := run_ite_isAgg P w t hm
    simp [part, h1, h2 m rfl]
  · obtain ⟨h1, h2⟩ := run_ite_isAgg P w t h
    simp [part, h1, hx]

/-- what is asked of two values of type `t` that lie at `base` -/
structure Both (P : Program) (X Y : Array Value) (base : Nat) (t : TypeId) (x y : Value) : Prop where
  agg : ∀ n, aggT P t = some (some n) → ∃ X' Y', x = .agg X' ∧ y = .agg Y' ∧ Win X base n X' ∧ Win Y base n Y'
  one : aggT P t = some none → X[base]? = some x ∧ Y[base]? = some y

/-- a field's, or an element's, part: its cells lie `off` behind the whole's -/
theorem part_of_part {X Y X' Y' : Array Value} {cs ds : List AVal} (hX : CsRel ρ μ cs X.toList) (hY : CsRel ρ μ ds Y.toList) {d : Nat} {t : TypeId} {l : List (Nat × LK)} {m n base off k : Nat} {e : Bool}
    (hwx : Win X base n X') (hwy : Win Y base n Y') (hl : leaves P d t = some l) (hm : sizeT P t = some m) (hfit : off + m ≤ n) (hbel : ∀ x ∈ l, x.1 < m)
    (he : eqLeaves Γ cs ds (shifted (base + off) l) = some e)
    (rec : ∀ (x y : Value), Both P X Y (base + off) t x y → (Op.equalIn k t x y).run P w = .ok e w) :
    ∃ px py, (part t X' off).run P w = .ok px w ∧ (part t Y' off).run P w = .ok py w ∧ (Op.equalIn k t px py).run P w = .ok e w := by
  rcases aggT_cases hm hl with ha | ha
  · obtain ⟨lk, rfl⟩ := leaves_one hl ha
    have he : (bnd (eqAt Γ cs ds (base + off + 0, lk)) fun e => bif e then some true else some false) = some e := he
    obtain ⟨e', h1, _⟩ := bnd_some he
    unfold eqAt at h1
    obtain ⟨p, hp, h1⟩ := bnd_some h1
    obtain ⟨q, hq, _⟩ := bnd_some h1
    rw [nth_eq] at hp hq
    simp only [Nat.add_zero] at hp hq
    obtain ⟨u, hu1, _, _⟩ := hX.get hp
    obtain ⟨v, hv1, _, _⟩ := hY.get hq
    rw [Array.getElem?_toList] at hu1 hv1
    have hm0 := hbel _ (List.mem_singleton.2 rfl)
    simp only at hm0
    refine ⟨u, v, (run_part hm).2 ha _ (by rw [hwx.cell _ (by omega)]; exact hu1), (run_part hm).2 ha _ (by rw [hwy.cell _ (by omega)]; exact hv1), rec u v ⟨fun n hn => ?_, fun _ => ⟨hu1, hv1⟩⟩⟩
    rw [ha] at hn; cases hn
  · refine ⟨_, _, (run_part hm).1 m ha, (run_part hm).1 m ha, rec _ _ ⟨fun n' hn' => ?_, fun h => ?_⟩⟩
    · rw [ha] at hn'
      simp only [Option.some.injEq] at hn'
      subst hn'
      exact ⟨_, _, rfl, rfl, hwx.sub hfit, hwy.sub hfit⟩
    · rw [ha] at h; cases h

theorem concatSome_cons {α : Type} {o : Option (List α)} {r : List (Option (List α))} {l : List α} (h : concatSome (o :: r) = some l) : ∃ l1 l2, o = some l1 ∧ concatSome r = some l2 ∧ l = l1 ++ l2 := by
  cases o with
  | none => simp [concatSome] at h
  | some l1 =>
    simp only [concatSome] at h
    obtain ⟨l2, h1, h2⟩ := Option.map_eq_some_iff.1 h
    exact ⟨l1, l2, rfl, h1, h2.symm⟩

theorem aggT_of_leaves_scalar {t : TypeId} {d : TypeDesc} (hu : P.underlying t = some d) (h : (∀ fs, d ≠ .struct fs) ∧ ∀ k e, d ≠ .array k e) (hi : (P.info? t).isSome = true) : aggT P t = some none := by
  obtain ⟨i, hi⟩ := Option.isSome_iff_exists.1 hi
  unfold aggT
  rw [hu, hi]
  cases d <;> first | rfl | (exact absurd rfl (h.1 _)) | (exact absurd rfl (h.2 _ _))

theorem info_of_underlying {t : TypeId} {d : TypeDesc} (hu : P.underlying t = some d) : (P.info? t).isSome = true := by
  unfold Program.underlying at hu
  cases e : P.info? t with
  | none => rw [e] at hu; cases hu
  | some i => rfl

theorem aggT_struct {t : TypeId} {fs : Array Field} {n : Nat} (hu : P.underlying t = some (.struct fs)) (hn : sizeT P t = some n) : aggT P t = some (some n) := by
  unfold sizeT at hn
  obtain ⟨i, hi, e⟩ := Option.map_eq_some_iff.1 hn
  unfold aggT
  rw [hu, hi]
  simp [e]

theorem aggT_array {t e : TypeId} {k n : Nat} (hu : P.underlying t = some (.array k e)) (hn : sizeT P t = some n) : aggT P t = some (some n) := by
  unfold sizeT at hn
  obtain ⟨i, hi, e⟩ := Option.map_eq_some_iff.1 hn
  unfold aggT
  rw [hu, hi]
  simp [e]

/-- the cells at the places `ls` of two parts, compared in turn, decide what '==' of the parts gives. `X`, `Y`: all cells; the parts begin at `base`. -/
theorem leaves_sound (hΓ : Γ.Hold ρ) {X Y : Array Value} {cs ds : List AVal} (hX : CsRel ρ μ cs X.toList) (hY : CsRel ρ μ ds Y.toList) :
    ∀ (d : Nat) (t : TypeId) (ls : List (Nat × LK)), leaves P d t = some ls → ∀ (k base : Nat) (x y : Value) (b : Bool), d ≤ k → Both P X Y base t x y →
      eqLeaves Γ cs ds (shifted base ls) = some b → (Op.equalIn k t x y).run P w = .ok b w
  | 0, t, ls, h, k, base, x, y, b, hk, hxy, he => by simp [leaves] at h
  | d + 1, t, ls, h, k, base, x, y, b, hk, hxy, he => by
    obtain ⟨k, rfl⟩ : ∃ k', k = k' + 1 := ⟨k - 1, by omega⟩
    -- one cell
    have scalar : ∀ (dsc : TypeDesc) (lk : LK), P.underlying t = some dsc → (∀ fs, dsc ≠ .struct fs) ∧ (∀ k e, dsc ≠ .array k e) → lk.fits dsc → ls = [(0, lk)] → (Op.equalIn (k + 1) t x y).run P w = .ok b w := fun dsc lk hu hns hf hl => by
      subst hl
      obtain ⟨hx, hy⟩ := hxy.one (aggT_of_leaves_scalar hu hns (info_of_underlying hu))
      have he : (bnd (eqAt Γ cs ds (base + 0, lk)) fun e => bif e then some true else some false) = some b := he
      obtain ⟨e, h1, h2⟩ := bnd_some he
      have hb : e = b := by cases e <;> simpa using h2
      subst hb
      unfold eqAt at h1
      obtain ⟨p, hp, h1⟩ := bnd_some h1
      obtain ⟨q, hq, h1⟩ := bnd_some h1
      rw [nth_eq] at hp hq
      simp only [Nat.add_zero] at hp hq
      obtain ⟨u, hu1, _, hr1⟩ := hX.get hp
      obtain ⟨v, hv1, _, hr2⟩ := hY.get hq
      rw [Array.getElem?_toList, hx] at hu1
      rw [Array.getElem?_toList, hy] at hv1
      simp only [Option.some.injEq] at hu1 hv1
      subst hu1 hv1
      exact eqCell_sound hΓ hr1 hr2 h1 hu hf k
    simp only [leaves] at h
    split at h
    · rename_i hu
      simp only [Option.some.injEq] at h
      exact scalar _ .bool hu ⟨by simp, by simp⟩ rfl h.symm
    · rename_i i hu
      simp only [Option.some.injEq] at h
      exact scalar _ .int hu ⟨by simp, by simp⟩ ⟨_, rfl⟩ h.symm
    · rename_i hu
      simp only [Option.some.injEq] at h
      exact scalar _ .str hu ⟨by simp, by simp⟩ rfl h.symm
    · -- a struct
      rename_i fs hu
      split at h
      · cases h
      · rename_i hst
        have hst : P.stoodInHeld t = false := by simpa using hst
        obtain ⟨n, hn⟩ : ∃ n, sizeT P t = some n := by
          obtain ⟨i, hi⟩ := Option.isSome_iff_exists.1 (info_of_underlying hu)
          exact ⟨i.size, by simp [sizeT, hi]⟩
        obtain ⟨X', Y', rfl, rfl, hwx, hwy⟩ := hxy.agg n (aggT_struct hu hn)
        have hfo : P.fieldsOf t = fs := by simp [Program.fieldsOf, hu]
        rw [run_equalIn_struct w k t _ _ (by rw [hfo]; exact hu) hst, hfo]
        have hk' : d ≤ k := by omega
        clear hxy scalar hu hfo hst
        generalize fs.toList = fl at h
        induction fl generalizing ls b with
        | nil =>
          simp only [List.map_nil, concatSome, Option.some.injEq] at h
          subst h
          have he : some true = some b := he
          simp only [Option.some.injEq] at he
          subst he
          simp [Op.eqFields]
        | cons f fl ih =>
          simp only [List.map_cons] at h
          obtain ⟨l1, l2, h1, h2, rfl⟩ := concatSome_cons h
          split at h1
          · cases h1
          · rename_i hname
            split at h1
            · rename_i l m hl hm
              split at h1
              · rename_i hbel
                simp only [Option.some.injEq] at h1
                subst h1
                rw [shifted_append, shifted_shifted, eqLeaves_append] at he
                obtain ⟨e, he1, he2⟩ := bnd_some he
                -- this field
                have hfield : ∃ px py, (part f.type X' f.offset).run P w = .ok px w ∧ (part f.type Y' f.offset).run P w = .ok py w ∧ (Op.equalIn k f.type px py).run P w = .ok e w := by
                  rw [Bool.and_eq_true] at hbel
                  have hfit : f.offset + m ≤ n := by
                    have := ble_iff.1 hbel.2
                    unfold sizeT at hn
                    simp only [Program.cellsOf, hn, Option.getD_some] at this
                    exact this
                  exact part_of_part hX hY hwx hwy hl hm hfit (below_spec hbel.1) he1 fun x y h1 => leaves_sound hΓ hX hY d f.type l hl k _ x y e hk' h1 he1
                obtain ⟨px, py, r1, r2, r3⟩ := hfield
                simp only [Op.eqFields, if_pos (show f.name ≠ "_" from hname)]
                simp only [Sem.run_bind, r1, Result.andThen_ok, r2, r3]
                cases e with
                | false =>
                  simp only [cond_false, Option.some.injEq] at he2
                  subst he2
                  simp
                | true =>
                  simp only [cond_true] at he2
                  simp only [Bool.not_true, Bool.false_eq_true, if_false]
                  exact ih l2 b he2 h2
              · cases h1
            · cases h1
    · -- an array
      rename_i len e hu
      split at h
      · rename_i l m hl hm
        split at h
        · rename_i hbel
          simp only [Option.some.injEq] at h
          rw [Bool.and_eq_true] at hbel
          obtain ⟨n, hn⟩ : ∃ n, sizeT P t = some n := by
            obtain ⟨i, hi⟩ := Option.isSome_iff_exists.1 (info_of_underlying hu)
            exact ⟨i.size, by simp [sizeT, hi]⟩
          obtain ⟨X', Y', rfl, rfl, hwx, hwy⟩ := hxy.agg n (aggT_array hu hn)
          have hfit : len * m ≤ n := by
            have := ble_iff.1 hbel.2
            unfold sizeT at hn
            simp only [Program.cellsOf, hn, Option.getD_some] at this
            exact this
          have hk' : d ≤ k := by omega
          have hs := run_sizeT (w := w) hm
          simp only [Op.equalIn, Sem.run_bind, run_underlying hu, Result.andThen_ok, hs]
          have key : ∀ (L : List Nat) (b : Bool), (∀ i ∈ L, i < len) → eqLeaves Γ cs ds (shifted base (L.flatMap fun i => shifted (i * m) l)) = some b →
              (forIn L ((none, ()) : Option Bool × Unit) fun i (_ : Option Bool × Unit) => do
                let p ← part e X' (i * m)
                let q ← part e Y' (i * m)
                let r ← Op.equalIn k e p q
                if (!r) = true then pure (ForInStep.done (some false, ())) else pure (ForInStep.yield (none, ())) : Sem (Option Bool × Unit)).run P w = .ok (if b then none else some false, ()) w := by
            intro L
            induction L with
            | nil =>
              intro b _ hb
              have hb : some true = some b := hb
              simp only [Option.some.injEq] at hb
              subst hb
              simp
            | cons i L ih =>
              intro b hL hb
              rw [List.flatMap_cons, shifted_append, shifted_shifted, eqLeaves_append] at hb
              obtain ⟨r, hb1, hb2⟩ := bnd_some hb
              have hi : i < len := hL i List.mem_cons_self
              have hfi : i * m + m ≤ n := by
                have := Nat.mul_le_mul_right m (show i + 1 ≤ len from hi)
                rw [Nat.succ_mul] at this
                omega
              obtain ⟨px, py, r1, r2, r3⟩ := part_of_part (n := n) (k := k) (w := w) hX hY hwx hwy hl hm hfi (below_spec hbel.1) hb1 fun x y h1 => leaves_sound hΓ hX hY d e l hl k _ x y r hk' h1 hb1
              rw [List.forIn_cons]
              simp only [Sem.run_bind, r1, Result.andThen_ok, r2, r3]
              cases r with
              | false =>
                simp only [cond_false, Option.some.injEq] at hb2
                subst hb2
                simp
              | true =>
                simp only [cond_true] at hb2
                simp only [Bool.not_true, Bool.false_eq_true, if_false, Sem.run_pure, Result.andThen_ok]
                exact ih b (fun j hj => hL j (List.mem_cons_of_mem _ hj)) hb2
          rw [Std.Legacy.Range.forIn_eq_forIn_range']
          have hr : List.range' 0 len 1 = List.range len := (List.range_eq_range' ..).symm
          simp only [Std.Legacy.Range.size, Nat.sub_zero, Nat.add_one_sub_one, Nat.div_one]
          rw [hr]
          have := key (List.range len) b (fun i hi => List.mem_range.1 hi) (by rw [h]; exact he)
          rw [this]
          cases b <;> simp
        · cases h
      · cases h
    · cases h

end
end Go.AM
