/- The oracles of this seat's runs: strconv.Itoa and strconv.FormatInt by their contracts, the examples by a run. -/
import Derived.Test.YthgbnljjolhodaaGreatDoorTab
import Derived.Test.YthgbnljjolhodaaGreatDoorShelf
import Derived.Test.YthgbnljjolhodaaGreatDoorAmKData
import Derived.Test.YthgbnljjolhodaaGreatDoorAmItoa
set_option linter.all false
namespace Go.Proofs.YthgbnljjolhodaaGreatDoor.Am
open Go.AM
set_option maxRecDepth 100000
theorem gname : Tryz.prog.globalNamed "internal/strconv.uint64pow10" = some 0 := by kernel_rfl
def tabsAt (w : World) : Nat → Option Obj := fun b => if b = 0 then w.heap[b]? else none
theorem tabsAt_here (w : World) : ∀ g o, tabsAt w g = some o → w.heap[g]? = some o := fun g o h => by
  unfold tabsAt at h
  split at h
  · exact h
  · cases h
theorem tab_keep {w w' : World} (h : Lib.TabIs Tryz.prog w "internal/strconv.uint64pow10" .u64 Lib.pow10Tab) (hk : ∀ g o, tabsAt w g = some o → w'.heap[g]? = some o) : Lib.TabIs Tryz.prog w' "internal/strconv.uint64pow10" .u64 Lib.pow10Tab := by
  unfold Lib.TabIs World.var? at h ⊢
  rw [gname] at h ⊢
  simp only [Option.bind_some] at h ⊢
  cases e : w.heap[0]? with
  | none => rw [e] at h; cases h
  | some o => rw [show w'.heap[0]? = some o from hk 0 o (by simp [tabsAt, e])]; rw [e] at h; exact h
theorem itoa_ok {Γ : Facts} {ρ : Env} {w0 : World} (hΓ : Γ.Hold ρ) (hT : ρ.tabs = tabsAt w0) (htab : Lib.TabIs Tryz.prog w0 "internal/strconv.uint64pow10" .u64 Lib.pow10Tab) : SoundO Tryz.prog ρ 57 (itoaO1 Γ) :=
  itoaO_sound hΓ ⟨_, Tryz.func57, by kernel_rfl, by kernel_rfl⟩ fun n w h0 h1 hk => Tryz.strconv_Itoa n h0 h1 w (tab_keep htab (hT ▸ hk))
theorem fmt_ok {Γ : Facts} {ρ : Env} {w0 : World} (hΓ : Γ.Hold ρ) (hT : ρ.tabs = tabsAt w0) (htab : Lib.TabIs Tryz.prog w0 "internal/strconv.uint64pow10" .u64 Lib.pow10Tab) : SoundO Tryz.prog ρ 161 (itoaO2 Γ) :=
  itoaO2_sound hΓ ⟨_, Tryz.func161, by kernel_rfl, by kernel_rfl⟩ fun n w h0 h1 hk => Tryz.strconv_FormatInt_10 n h0 h1 w (tab_keep htab (hT ▸ hk))
def orcs0 (Γ : Facts) : List (Nat × OracleF) := [(57, itoaO1 Γ), (161, itoaO2 Γ)]
theorem orcs0_ok {Γ : Facts} {ρ : Env} {w0 : World} (hΓ : Γ.Hold ρ) (hT : ρ.tabs = tabsAt w0) (htab : Lib.TabIs Tryz.prog w0 "internal/strconv.uint64pow10" .u64 Lib.pow10Tab) : ∀ x ∈ orcs0 Γ, SoundO Tryz.prog ρ x.1 x.2 :=
  all_cons (p := fun x : Nat × OracleF => SoundO Tryz.prog ρ x.1 x.2) (itoa_ok hΓ hT htab) ( all_cons (p := fun x : Nat × OracleF => SoundO Tryz.prog ρ x.1 x.2) (fmt_ok hΓ hT htab) (all_nil))
theorem ex_run : isTrue (callN {} (fun f => orcOf f (orcs0 {})) (Tr.get Ftab) 2000 100 5 [] (empty 12)) = true := by kernel_rfl
def orcs (Γ : Facts) : List (Nat × OracleF) := (5, trueO) :: orcs0 Γ
theorem orcs_ok {Γ : Facts} {ρ : Env} {w0 : World} (hΓ : Γ.Hold ρ) (hT : ρ.tabs = tabsAt w0) (htab : Lib.TabIs Tryz.prog w0 "internal/strconv.uint64pow10" .u64 Lib.pow10Tab) : ∀ x ∈ orcs Γ, SoundO Tryz.prog ρ x.1 x.2 :=
  all_cons (p := fun x : Nat × OracleF => SoundO Tryz.prog ρ x.1 x.2) (trueO_sound (sound (ρ := ρ) (Facts.Hold.none ρ) rfl (orcs0_ok (Facts.Hold.none ρ) hT htab) _ _) ex_run) (orcs0_ok hΓ hT htab)
theorem orcs_law {Γ : Facts} {ρ : Env} {w0 : World} (hΓ : Γ.Hold ρ) (hT : ρ.tabs = tabsAt w0) (htab : Lib.TabIs Tryz.prog w0 "internal/strconv.uint64pow10" .u64 Lib.pow10Tab) {l : List (Nat × OracleF)} (h : ∀ x ∈ l, SoundO Tryz.prog ρ x.1 x.2) : ∀ x ∈ l ++ orcs Γ, SoundO Tryz.prog ρ x.1 x.2 := fun x hx => (List.mem_append.1 hx).elim (h x) (orcs_ok hΓ hT htab x)
theorem calls_of_holds {ρ : Env} {g : FuncId} {args : List AVal} (h : Holds Tryz.prog ρ g ⟨args, [], .bool (.lit true), []⟩) {vargs : Array Value} (hv : VsRel ρ Where.none args vargs.toList) (w : World) (hT : ∀ g o, ρ.tabs g = some o → w.heap[g]? = some o) : Calls Tryz.prog g vargs w fun e w' => e = .returned (.bool true) ∧ Kept w w' := by
  refine (h.2 _ w vargs (empty_rel 0 w hT) hv).mono fun e w' he => ?_
  obtain ⟨μ', g', he⟩ := he
  refine ⟨?_, g'.kept_all⟩
  cases e
  case returned u =>
    have he : VRel ρ μ' (.bool (.lit true)) u := he
    simp only [VRel] at he
    subst he
    rfl
  all_goals exact he.elim
end Go.Proofs.YthgbnljjolhodaaGreatDoor.Am
