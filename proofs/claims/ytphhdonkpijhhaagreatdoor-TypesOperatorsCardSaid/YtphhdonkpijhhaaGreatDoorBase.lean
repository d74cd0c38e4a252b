/- The oracles of this seat's runs: strconv.Itoa and strconv.FormatInt by their contracts, the examples by a run. -/
import Derived.Test.YtphhdonkpijhhaaGreatDoorTab
import Derived.Test.YtphhdonkpijhhaaGreatDoorShelf
import Derived.Test.YtphhdonkpijhhaaGreatDoorAmItoa
set_option linter.all false
namespace Go.Proofs.YtphhdonkpijhhaaGreatDoor.Am
open Go.AM
set_option maxRecDepth 100000
theorem gname : Tryz.prog.globalNamed "internal/strconv.uint64pow10" = some 0 := by kernel_rfl
def tabsAt (w : World) : Nat → Option Obj := fun b => if b = 0 then w.heap[b]? else none
theorem tabsAt_here (w : World) : ∀ g o, tabsAt w g = some o → w.heap[g]? = some o := fun g o h => by
  unfold tabsAt at h
  split at h
  · exact h
  · cases h
theorem tab_keep {w w' : World} (h : Lib.TabIs Tryz.prog w "internal/strconv.uint64pow10" .u64 Lib.pow10Tab) (hk : ∀ g o, tabsAt w g = some o → w'.heap[g]? = some o) : Lib.TabIs Tryz.prog w' "internal/strconv.uint64pow10" .u64 Lib.pow10Tab := by
  unfold Lib.TabIs World.var? at h ⊢
  rw [gname] at h ⊢
  simp only [Option.bind_some] at h ⊢
  cases e : w.heap[0]? with
  | none => rw [e] at h; cases h
  | some o => rw [show w'.heap[0]? = some o from hk 0 o (by simp [tabsAt, e])]; rw [e] at h; exact h
theorem itoa_ok {Γ : Facts} {v : Nat → Int} {w0 : World} (hΓ : Γ.Hold v) (htab : Lib.TabIs Tryz.prog w0 "internal/strconv.uint64pow10" .u64 Lib.pow10Tab) : SoundO Tryz.prog ⟨v, tabsAt w0⟩ 39 (itoaO1 Γ) :=
  itoaO_sound (ρ := ⟨v, tabsAt w0⟩) hΓ ⟨_, Tryz.func39, by kernel_rfl, by kernel_rfl⟩ fun n w h0 h1 hk => Tryz.strconv_Itoa n h0 h1 w (tab_keep htab hk)
theorem fmt_ok {Γ : Facts} {v : Nat → Int} {w0 : World} (hΓ : Γ.Hold v) (htab : Lib.TabIs Tryz.prog w0 "internal/strconv.uint64pow10" .u64 Lib.pow10Tab) : SoundO Tryz.prog ⟨v, tabsAt w0⟩ 114 (itoaO2 Γ) :=
  itoaO2_sound (ρ := ⟨v, tabsAt w0⟩) hΓ ⟨_, Tryz.func114, by kernel_rfl, by kernel_rfl⟩ fun n w h0 h1 hk => Tryz.strconv_FormatInt_10 n h0 h1 w (tab_keep htab hk)
def orcs0 (Γ : Facts) : List (Nat × OracleF) := [(39, itoaO1 Γ), (114, itoaO2 Γ)]
theorem orcs0_ok {Γ : Facts} {v : Nat → Int} {w0 : World} (hΓ : Γ.Hold v) (htab : Lib.TabIs Tryz.prog w0 "internal/strconv.uint64pow10" .u64 Lib.pow10Tab) : ∀ x ∈ orcs0 Γ, SoundO Tryz.prog ⟨v, tabsAt w0⟩ x.1 x.2 :=
  all_cons (p := fun x : Nat × OracleF => SoundO Tryz.prog ⟨v, tabsAt w0⟩ x.1 x.2) (itoa_ok hΓ htab) ( all_cons (p := fun x : Nat × OracleF => SoundO Tryz.prog ⟨v, tabsAt w0⟩ x.1 x.2) (fmt_ok hΓ htab) (all_nil))
theorem ex_run : isTrue (callN {} (fun f => orcOf f (orcs0 {})) (Tr.get Ftab) 2000 100 6 [] (empty 12)) = true := by kernel_rfl
def orcs (Γ : Facts) : List (Nat × OracleF) := (6, trueO) :: orcs0 Γ
theorem orcs_ok {Γ : Facts} {v : Nat → Int} {w0 : World} (hΓ : Γ.Hold v) (htab : Lib.TabIs Tryz.prog w0 "internal/strconv.uint64pow10" .u64 Lib.pow10Tab) : ∀ x ∈ orcs Γ, SoundO Tryz.prog ⟨v, tabsAt w0⟩ x.1 x.2 :=
  all_cons (p := fun x : Nat × OracleF => SoundO Tryz.prog ⟨v, tabsAt w0⟩ x.1 x.2) (trueO_sound (sound (ρ := ⟨v, tabsAt w0⟩) (Facts.Hold.none v) (orcs0_ok (Facts.Hold.none v) htab) _ _) ex_run) (orcs0_ok hΓ htab)
theorem tmod_range (a : Int) (n : Nat) (h : 0 ≤ a) (hn : 0 < n) : 0 ≤ Int.tmod a n ∧ Int.tmod a n < n := by
  rw [Int.tmod_eq_emod_of_nonneg h]
  exact ⟨Int.emod_nonneg _ (by omega), Int.emod_lt_of_pos _ (by omega)⟩
end Go.Proofs.YtphhdonkpijhhaaGreatDoor.Am
