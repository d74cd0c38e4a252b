/- The abstract machine's code: sequences, branches, blocks, loops. -/
import Derived.Test.YtphhdonkpijhhaaGreatDoorAmDraw5
import Derived.LoopN
set_option linter.all false
namespace Go.AM

section
variable {P : Program} {Γ : Facts} {ρ : Env} {pl : List Held} {nt : Nat} {call : CallF} {fuel : Nat}

theorem exec_region (d : Bool) (l : List Step) (f : Fr) : exec Γ call fuel (.region d l) f = regionA Γ call d l f := rfl
theorem exec_seq (a b : IC) (f : Fr) : exec Γ call fuel (.seq a b) f = bnd (exec Γ call fuel a f) fun r => andThen r fun f' => exec Γ call fuel b f' := rfl
theorem exec_cond (c : Opd) (a b : IC) (f : Fr) : exec Γ call fuel (.cond c a b) f = condA (ev f.tm c) (exec Γ call fuel a f) (exec Γ call fuel b f) := rfl
theorem exec_block (id : Nat) (b : IC) (f : Fr) : exec Γ call fuel (.block id b) f = bnd (exec Γ call fuel b f) fun r => some (leaveBlock id r) := rfl
theorem exec_loop (b : IC) (f : Fr) : exec Γ call fuel (.loop b) f = iter (exec Γ call fuel b) fuel f := rfl

/-- behind a first part -/
theorem lands_then {μ : Where} {h : Heap} {w : World} {r1 r : AExit × Fr} {k : Fr → Option (AExit × Fr)} (hk : andThen r1 k = some r) {K : Act → World → Prop} {Q : Exit → Act → World → Prop} (L : Lands ρ nt μ h w Q r)
    (hK : ∀ f', r1 = (.normal, f') → k f' = some r → ∀ μ' a' w', FRel ρ μ' nt f' a' w' → Grows ρ μ h w μ' f'.h w' → K a' w') : Lands ρ nt μ h w (Exit.then K Q) r1 := by
  intro μ' a' w' e F g he
  obtain ⟨x, f'⟩ := r1
  cases x with
  | normal =>
    have he : e = .normal := he
    subst he
    exact hK f' rfl hk μ' a' w' F g
  | exit i =>
    have hk : some (AExit.exit i, f') = some r := hk
    simp only [Option.some.injEq] at hk
    subst hk
    have h1 := L μ' a' w' e F g he
    have he : e = .exit i := he
    subst he
    exact h1
  | ret =>
    have hk : some (AExit.ret, f') = some r := hk
    simp only [Option.some.injEq] at hk
    subst hk
    have h1 := L μ' a' w' e F g he
    have he : e = .ret := he
    subst he
    exact h1
  | panic v =>
    have hk : some (AExit.panic v, f') = some r := hk
    simp only [Option.some.injEq] at hk
    subst hk
    have h1 := L μ' a' w' e F g he
    obtain ⟨u, rfl, _⟩ := he
    exact h1

theorem lands_block {μ : Where} {h : Heap} {w : World} {id : Nat} {r : AExit × Fr} {Q : Exit → Act → World → Prop} (L : Lands ρ nt μ h w Q (leaveBlock id r)) : Lands ρ nt μ h w (Exit.inBlock id Q) r := by
  intro μ' a' w' e F g he
  obtain ⟨x, f'⟩ := r
  cases x with
  | normal =>
    have h1 := L μ' a' w' e F g he
    have he : e = .normal := he
    subst he
    exact h1
  | ret =>
    have h1 := L μ' a' w' e F g he
    have he : e = .ret := he
    subst he
    exact h1
  | panic v =>
    have h1 := L μ' a' w' e F g he
    obtain ⟨u, rfl, _⟩ := he
    exact h1
  | exit i =>
    have he : e = .exit i := he
    subst he
    unfold leaveBlock at L
    simp only at L
    show if i = id then Q .normal a' w' else Q (.exit i) a' w'
    rw [cond_beq] at L
    by_cases hi : i = id
    · rw [if_pos hi] at L
      rw [if_pos hi]
      exact L μ' a' w' .normal F g rfl
    · rw [if_neg hi] at L
      rw [if_neg hi]
      exact L μ' a' w' (.exit i) F g rfl

/-- CODE: what the abstract machine does, the model's does -/
theorem exec_sound (hΓ : Γ.Hold ρ) (hc : SoundCall P ρ call) (hmix : P.follows .mixedOrders = true) : ∀ (c : Code) {ic : IC} {μ : Where} {f : Fr} {a : Act} {w : World} {r : AExit × Fr} {Q : Exit → Act → World → Prop},
    compCode P pl nt c = some ic → exec Γ call fuel ic f = some r → FRel ρ μ nt f a w → Lands ρ nt μ f.h w Q r → c.wp P Q a w := by
  intro c
  induction c with
  | skip =>
    intro ic μ f a w r Q hcomp hx F L
    simp only [compCode, Option.some.injEq] at hcomp
    subst hcomp
    have hx : some (AExit.normal, f) = some r := hx
    simp only [Option.some.injEq] at hx
    subst hx
    exact wp_skip (L μ a w .normal F (Grows.refl F.heap) rfl)
  | exit id =>
    intro ic μ f a w r Q hcomp hx F L
    simp only [compCode, Option.some.injEq] at hcomp
    subst hcomp
    have hx : some (AExit.exit id, f) = some r := hx
    simp only [Option.some.injEq] at hx
    subst hx
    exact wp_exit (L μ a w (.exit id) F (Grows.refl F.heap) rfl)
  | ret =>
    intro ic μ f a w r Q hcomp hx F L
    simp only [compCode, Option.some.injEq] at hcomp
    subst hcomp
    have hx : some (AExit.ret, f) = some r := hx
    simp only [Option.some.injEq] at hx
    subst hx
    exact wp_ret (L μ a w .ret F (Grows.refl F.heap) rfl)
  | region id ops draw =>
    intro ic μ f a w r Q hcomp hx F L
    simp only [compCode] at hcomp
    obtain ⟨steps, hs, e⟩ := Option.map_eq_some_iff.1 hcomp
    subst e
    rw [exec_region] at hx
    unfold regionA at hx
    obtain ⟨x, hx2, e⟩ := bnd_some hx
    simp only [Option.some.injEq] at e
    subst e
    clear hx
    cases draw with
    | true =>
      simp only [compRegion, if_true] at hs
      exact draw_sound hΓ hc hmix hs hx2 F L
    | false =>
      simp only [compRegion, Bool.false_eq_true, if_false] at hs
      refine wp_region ?_
      rw [List.range_eq_range', ← Array.length_toList]
      exact seq_sound hΓ hc ops.toList steps 0 (fun j => by simp) hs hx2 F L
  | seq x y ihx ihy =>
    intro ic μ f a w r Q hcomp hx F L
    simp only [compCode] at hcomp
    split at hcomp
    · rename_i i1 i2 h1 h2
      simp only [Option.some.injEq] at hcomp
      subst hcomp
      rw [exec_seq] at hx
      obtain ⟨r1, hr1, hx⟩ := bnd_some hx
      exact wp_seq (ihx h1 hr1 F (lands_then hx L fun f' _ hk μ' a' w' F' g => ihy h2 hk F' (L.grow g)))
    · cases hcomp
  | cond c x y ihx ihy =>
    intro ic μ f a w r Q hcomp hx F L
    simp only [compCode] at hcomp
    split at hcomp
    · rename_i i1 i2 h1 h2
      simp only [Option.some.injEq] at hcomp
      subst hcomp
      rw [exec_cond] at hx
      have hv := ev_sound F.tmps c
      unfold condA at hx
      split at hx
      · rename_i b e1
        rw [e1] at hv
        have hv := VRel.bool hv
        simp only [SB.den] at hv
        refine wp_cond hv ?_
        cases b with
        | true => exact ihx h1 hx F L
        | false => exact ihy h2 hx F L
      · cases hx
    · cases hcomp
  | block id x ih =>
    intro ic μ f a w r Q hcomp hx F L
    simp only [compCode] at hcomp
    obtain ⟨i1, h1, e⟩ := Option.map_eq_some_iff.1 hcomp
    subst e
    rw [exec_block] at hx
    obtain ⟨r1, hr1, hx⟩ := bnd_some hx
    simp only [Option.some.injEq] at hx
    subst hx
    exact wp_block (ih h1 hr1 F (lands_block L))
  | loop x ih =>
    intro ic μ f a w r Q hcomp hx F L
    simp only [compCode] at hcomp
    obtain ⟨i1, h1, e⟩ := Option.map_eq_some_iff.1 hcomp
    subst e
    rw [exec_loop] at hx
    refine wp_loop_rounds fuel ?_
    have key : ∀ (n : Nat) {μ : Where} {f : Fr} {a : Act} {w : World}, iter (exec Γ call fuel i1) n f = some r → FRel ρ μ nt f a w → Lands ρ nt μ f.h w Q r → Code.rounds P x Q n a w := by
      intro n
      induction n with
      | zero => intro μ f a w hx; cases hx
      | succ n ihn =>
        intro μ f a w hx F L
        have hx : (bnd (exec Γ call fuel i1 f) fun r => andThen r fun f' => iter (exec Γ call fuel i1) n f') = some r := hx
        obtain ⟨r1, hr1, hx⟩ := bnd_some hx
        rw [rounds_succ]
        exact ih h1 hr1 F (lands_then hx L fun f' _ hk μ' a' w' F' g => ihn hk F' (L.grow g))
    exact key fuel hx F L
  | refuse why =>
    intro ic μ f a w r Q hcomp hx F L
    simp only [compCode, Option.some.injEq] at hcomp
    subst hcomp
    rw [exec_cond] at hx
    cases hx
  | _ =>
    intro ic μ f a w r Q hcomp
    simp [compCode] at hcomp

end
end Go.AM
