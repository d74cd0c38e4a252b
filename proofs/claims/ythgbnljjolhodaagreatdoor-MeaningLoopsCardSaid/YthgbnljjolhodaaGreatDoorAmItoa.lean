/- strconv.Itoa by its contract: some string of 1 to 21 bytes. -/
import Derived.Test.YthgbnljjolhodaaGreatDoorAmEnd
import Derived.Lib.ItoaMem
import Derived.Lib.LaidTab
import Derived.Sort.Grow
import Derived.Deep.Draws
set_option linter.all false
namespace Go.AM

theorem itoa_size (n : Int) (h0 : -9223372036854775808 ≤ n) (h1 : n ≤ 9223372036854775807) : 1 ≤ (Lib.itoa n).length ∧ (Lib.itoa n).length ≤ 21 := by
  have dig : ∀ u : Nat, u < 18446744073709551616 → 1 ≤ (Lib.decDigits u).length ∧ (Lib.decDigits u).length ≤ 20 := fun u hu => by
    rw [Lib.decDigits_length]
    by_cases hz : u < 10
    · rw [Lib.nDigits_small hz]; omega
    · have h1 := Lib.numDigits_eq u (by omega) hu
      have h2 := Lib.nDigits_big hz
      split at h1 <;> omega
  unfold Lib.itoa
  split
  · have := dig n.natAbs (by omega)
    rw [List.length_cons]; omega
  · have := dig n.toNat (by omega)
    omega

/-- numbers that are known to be ints -/
theorem inInt_sound {Γ : Facts} {v : Env} (hΓ : Γ.Hold v) {t : ST} (h : inInt Γ t = true) : -9223372036854775808 ≤ t.den v ∧ t.den v ≤ 9223372036854775807 := by
  have wr : ∀ n : Int, -9223372036854775808 ≤ IntKind.i64.wrap n ∧ IntKind.i64.wrap n ≤ 9223372036854775807 := fun n => by
    unfold IntKind.wrap
    simp [IntKind.signed, IntKind.bits]
    split <;> omega
  have tests : (isTrueO (lookTest Γ.tests .geq t (.lit (.negSucc 9223372036854775807))) && isTrueO (lookTest Γ.tests .leq t (.lit (.ofNat 9223372036854775807)))) = true → -9223372036854775808 ≤ t.den v ∧ t.den v ≤ 9223372036854775807 := fun h => by
    rw [Bool.and_eq_true] at h
    have get : ∀ {o : Option Bool}, isTrueO o = true → o = some true := fun {o} h => by
      unfold isTrueO at h
      split at h
      · rfl
      · cases h
    have h1 := hΓ.tests _ (lookTest_mem (get h.1))
    have h2 := hΓ.tests _ (lookTest_mem (get h.2))
    have h1 : decide (t.den v ≥ -9223372036854775808) = true := h1
    have h2 : decide (t.den v ≤ 9223372036854775807) = true := h2
    exact ⟨of_decide_eq_true h1, of_decide_eq_true h2⟩
  unfold inInt at h
  split at h
  · rename_i n
    simp only [inK, signedK, cond_true, Bool.and_eq_true, ile_eq, decide_eq_true_eq] at h
    have h1 : Int.negSucc (modulus .i64 / 2 - 1) = -9223372036854775808 := by decide
    have h2 : Int.ofNat (modulus .i64 / 2 - 1) = 9223372036854775807 := by decide
    rw [h1, h2] at h
    exact h
  · rename_i k a
    rw [keq_iff.1 h]
    exact wr _
  · rename_i k a b
    rw [keq_iff.1 h]
    exact wr _
  · exact tests h

/-- strconv.Itoa -/
theorem itoaO_sound {P : Program} {ρ : Env} {Γ : Facts} (hΓ : Γ.Hold ρ) {f : FuncId} (hf : FnOk P f)
    (hC : ∀ (n : Int) (w : World), -9223372036854775808 ≤ n → n ≤ 9223372036854775807 → (∀ g o, ρ.tabs g = some o → w.heap[g]? = some o) →
      Calls P f #[.int .i64 n] w fun e w' => e = .returned (.string ⟨(Lib.itoa n).toArray⟩) ∧ ∃ k os, w' = Sort.grow (w.drewN k) os) : SoundO P ρ f (itoaO1 Γ) := by
  intro args h r h' hr
  refine ⟨hf, fun μ w vargs H hv => ?_⟩
  unfold itoaO1 at hr
  split at hr
  · rename_i n
    obtain ⟨hn, hr⟩ := cond_some hr
    simp only [Option.some.injEq, Prod.mk.injEq] at hr
    obtain ⟨rfl, rfl⟩ := hr
    simp only [VsRel] at hv
    obtain ⟨v, rest, e1, e2, rfl⟩ := hv
    have e2 := VRel.int e2
    obtain rfl : vargs = #[v] := by rw [← Array.toList_inj]; simpa using e1
    subst e2
    obtain ⟨hb1, hb2⟩ := inInt_sound hΓ hn
    refine (hC _ w hb1 hb2 fun g o e => (H.tabs.tabs g o e).1).mono fun e w' he => ?_
    obtain ⟨rfl, k, os, rfl⟩ := he
    refine ⟨μ, Grows.idle H (fun r hr => ?_) ?_ rfl rfl, ?_⟩
    · show (w.heap ++ os)[r]? = _
      rw [Array.getElem?_append_left hr]
    · show w.heap.size ≤ (w.heap ++ os).size
      simp
    · show VRel ρ μ (.anyStr 21) _
      simp only [VRel]
      have := itoa_size _ hb1 hb2
      exact ⟨_, rfl, by simpa [ByteArray.size] using this.1, by simpa [ByteArray.size] using this.2⟩
  · cases hr
/-- strconv.FormatInt to the base 10 -/
theorem itoaO2_sound {P : Program} {ρ : Env} {Γ : Facts} (hΓ : Γ.Hold ρ) {f : FuncId} (hf : FnOk P f)
    (hC : ∀ (n : Int) (w : World), -9223372036854775808 ≤ n → n ≤ 9223372036854775807 → (∀ g o, ρ.tabs g = some o → w.heap[g]? = some o) →
      Calls P f #[.int .i64 n, .int .i64 10] w fun e w' => e = .returned (.string ⟨(Lib.itoa n).toArray⟩) ∧ ∃ k os, w' = Sort.grow (w.drewN k) os) : SoundO P ρ f (itoaO2 Γ) := by
  intro args h r h' hr
  refine ⟨hf, fun μ w vargs H hv => ?_⟩
  unfold itoaO2 at hr
  split at hr
  · rename_i n
    obtain ⟨hn, hr⟩ := cond_some hr
    simp only [Option.some.injEq, Prod.mk.injEq] at hr
    obtain ⟨rfl, rfl⟩ := hr
    simp only [VsRel] at hv
    obtain ⟨v, rest, e1, e2, v2, rest2, e3, e4, rfl⟩ := hv
    have e2 := VRel.int e2
    have e4 : v2 = .int .i64 10 := VRel.int e4
    subst e3
    obtain rfl : vargs = #[v, v2] := by rw [← Array.toList_inj]; simpa using e1
    subst e2 e4
    obtain ⟨hb1, hb2⟩ := inInt_sound hΓ hn
    refine (hC _ w hb1 hb2 fun g o e => (H.tabs.tabs g o e).1).mono fun e w' he => ?_
    obtain ⟨rfl, k, os, rfl⟩ := he
    refine ⟨μ, Grows.idle H (fun r hr => ?_) ?_ rfl rfl, ?_⟩
    · show (w.heap ++ os)[r]? = _
      rw [Array.getElem?_append_left hr]
    · show w.heap.size ≤ (w.heap ++ os).size
      simp
    · show VRel ρ μ (.anyStr 21) _
      simp only [VRel]
      have := itoa_size _ hb1 hb2
      exact ⟨_, rfl, by simpa [ByteArray.size] using this.1, by simpa [ByteArray.size] using this.2⟩
  · cases hr
end Go.AM
