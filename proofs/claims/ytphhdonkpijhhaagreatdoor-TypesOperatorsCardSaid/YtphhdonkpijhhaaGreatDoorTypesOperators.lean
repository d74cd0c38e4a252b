/- TypesOperators returns true at every input and leaves its arguments as they were; the tables that the library reads are tied to the program's text. No condition. -/
import Derived.Test.YtphhdonkpijhhaaGreatDoorTypesOperatorsLaw
import Derived.Test.YtphhdonkpijhhaaGreatDoorCards
import Derived.Test.YtphhdonkpijhhaaGreatDoorTie
import Derived.WalkKit
import Derived.ProofKit
import Derived.LaidMore
import Derived.OpenShut
import Derived.Stop.Joined
import Derived.Stop.LaidErr
import Derived.WideKeyPair
import Derived.WideKeyArr2
import Derived.Lib.LaidTab
import Derived.SevenTiedAt
import Derived.Test.YtphhdonkpijhhaaGreatDoorAmTriple
set_option linter.all false
namespace Go.Proofs.YtphhdonkpijhhaaGreatDoor.typesOperators
open Go.ChangeShapes Go.WideShapes Go.ChangeAt Go.RowKit Go.AM Go.WideMaps
theorem own : ownKnob Tryz.prog.godebug = none := by kernel_rfl
theorem gname : Tryz.prog.globalNamed "internal/strconv.uint64pow10" = some 0 := by kernel_rfl
def laid : List (String × DataW Unit) := Rows.typesOperatorsRow.laid
theorem door_met (os : Os) (args : Array Value) : laidMetH Tryz.prog laid ((World.doorLaid Tryz.prog 24 os).forCall (fun _ _ => 0) ⟨#[], args, []⟩).memory :=
  laidMetH_of_parts3 (fuel := 8) (laidMet_of_run' 8 (by kernel_rfl) (by kernel_rfl)) (by kernel_rfl) (by kernel_rfl)
theorem tab_of_laid {W : World} (h : laidMetH Tryz.prog laid W) : Lib.TabIs Tryz.prog W "internal/strconv.uint64pow10" .u64 Lib.pow10Tab := by
  rw [MakeChecks.laidMetH_plain _ _ _ (by kernel_rfl)] at h
  obtain ⟨t, e, n, h1, h2, h3, h4, h5⟩ : ∃ t e n, (Tryz.prog.globals[0]?).map (·.type) = some t ∧ Tryz.prog.underlying t = some (.array n e) ∧ Tryz.prog.underlying e = some (.int .u64) ∧ Tryz.prog.cellsOf e = 1 ∧ Tryz.prog.cellsOf t = n := ⟨152, 140, 20, by kernel_rfl, by kernel_rfl, by kernel_rfl, by kernel_rfl, by kernel_rfl⟩
  exact Lib.tabIs_of_head gname h1 h2 h3 h4 h5 (rest := []) (laidMet.tail (laidMet.tail h))
theorem walk (a0 a1 a2 a3 : Int) (w0 : (Lit.int .u8 a0).wf = true) (w1 : (Lit.int .u8 a1).wf = true) (w2 : (Lit.int .u8 a2).wf = true) (w3 : (Lit.int .u8 a3).wf = true) (w : World) (htab : Lib.TabIs Tryz.prog w "internal/strconv.uint64pow10" .u64 Lib.pow10Tab) : Calls Tryz.prog 4 #[.int .u8 a0, .agg #[.int .u8 a1, .int .u8 a2, .int .u8 a3]] w fun e w' => e = .returned (.bool true) ∧ Kept w w' :=
  Am.TypesOperators.law a0 a1 a2 a3 (wf_range w0) (wf_range w1) (wf_range w2) (wf_range w3) w htab

/-! ### THE ROW -/
theorem arr1 : Go.WideMaps.ArrKey Tryz.prog 38 5 3 := ⟨Tryz.underlying38, by kernel_rfl, by kernel_rfl, by kernel_rfl⟩
set_option maxRecDepth 100000 in
theorem lifted (os : Os) (started : os.Started) (H : Type) (enc : TypeId × Value → H) :
    ReturnsInHanded {} Tryz.checked os 4 .any (fun w args => (Rows.typesOperatorsSpec.pre enc Tryz.prog Tryz.f4 [] false w args ∧ laidMetH Tryz.prog laid w) ∧ sizedMet enc Tryz.prog Tryz.f4 (OpenSpec.ofChange Rows.typesOperatorsSpec) false w args) (Rows.typesOperatorsSpec.post enc Tryz.prog Tryz.f4 false true false false) := by
  refine returnsInHanded_of_change_and (C := Tryz.checked) (X := fun w _ => laidMetH Tryz.prog laid w) (fun _ _ _ hh h => h.of_heap hh) own started (by kernel_rfl) Tryz.func4
    (ChangeSpec.witness_shaped (enc := enc) (C := Tryz.checked) (os := os) (X := fun w _ => laidMetH Tryz.prog laid w) false (World.doorLaid Tryz.prog 24 os) #[.int .u8 0, .agg #[.int .u8 0, .int .u8 0, .int .u8 0]] 8 rfl (World.shaped_of_RefB (by kernel_rfl) (by kernel_rfl)) (by kernel_rfl) (by kernel_rfl) (by kernel_rfl) (door_met os _)) ?_
  intro W base args ds gs before hval0 hW _ _ hL _
  have hval : ∀ (j : Nat) t v, Tryz.f4.params[j]? = some t → args[j]? = some v → Value.okWide Tryz.prog W .any base t v := hval0
  have hW' := hW
  obtain ⟨p, q, hA0, hV, rfl, hfz, hnd⟩ := hW
  have hA : DataW.TrodAll enc Tryz.prog W 0 (fun _ => true) true Tryz.f4.params.toList args.toList ds p := hA0
  rw [Tryz.params4] at hA hval
  obtain ⟨v0, vs0, d0, ds0, p0, q0, hargs, rfl, rfl, h0, r0⟩ := trodAll_cons hA
  obtain ⟨v1, vs1, d1, ds1, p1, q1, rfl, rfl, rfl, h1, r1⟩ := trodAll_cons r0
  obtain ⟨rfl, rfl, rfl⟩ := trodAll_nil r1
  obtain rfl : args = #[v0, v1] := by cases args; simp_all
  obtain ⟨rfl, rfl⟩ := trodVars_none hV
  obtain ⟨a0, rfl, rfl, rfl, w0⟩ := open_int Tryz.underlying5 (hval 0 5 v0 rfl rfl) h0
  obtain ⟨a1, a2, a3, rfl, rfl, rfl, w1, w2, w3⟩ := open_triple arr1 Tryz.underlying5 (hval 1 38 v1 rfl rfl) h1
  clear hA0 hval0
  simp only [List.append_nil] at hW'
  refine (walk a0 a1 a2 a3 w0 w1 w2 w3 W (tab_of_laid hL)).mono fun e W' ⟨he, hg⟩ => ?_
  subst he
  exact ⟨_, rfl, post_of_kept (pa := []) (pv := []) hW' (fun _ _ _ => (trodAll_cons_mk (shut_bool Tryz.underlying4 _) trodAll_mk0)) (fun sp _ => (trodAll_cons_mk (shut_int Tryz.underlying5 w0) (trodAll_cons_mk (shut_triple arr1 Tryz.underlying5 w1 w2 w3) trodAll_mk0))) (fun _ _ => rfl) rfl
    hg (ok_one (by kernel_rfl) rfl (okWide_bool_mk Tryz.underlying4 _))⟩

theorem over : Rows.typesOperatorsRow.holds Tryz.pinned (OpenSpec.ofChange Rows.typesOperatorsSpec) :=
  OpenClaim.holds_of_wide 4 Tryz.f4 rfl rfl rfl rfl rfl rfl rfl ⟨rfl, rfl, rfl, rfl, rfl⟩ rfl rfl rfl rfl rfl (by kernel_rfl) Tryz.func4 (by kernel_rfl)
    (of_decide_eq_true (by kernel_rfl)) (by unfold Func.isWrapper; first | (rw [if_pos (by decide +kernel)]; kernel_rfl) | (rw [if_neg (by decide +kernel)]; exact ⟨rfl, rfl⟩))
    (fun os started H enc _ => lifted os started H enc)

/-- THE STATEMENT -/
theorem card_holds : Rows.TypesOperatorsCardSaid :=
  Claim7.holds_tied_plain_at .later [] [.data, .data, .data] true (true, "80d93bf554ff85752b5829f8235bb4c841fd4a1c5aee039802c2e93d249f5476") true
    over (fun _ h => by cases h) (by kernel_rfl) (fun _ h => by cases h) typesOperators_row_tie rfl ⟨rfl, rfl⟩ (by kernel_rfl) rfl
    (fun f fn hf hfn => by
      obtain rfl : f = 4 := Option.some.inj ((show Tryz.prog.funcNamed "warpwright/warpwrightlaw03.TypesOperators" = some 4 by kernel_rfl).symm.trans hf) |>.symm
      obtain rfl : fn = Tryz.f4 := (Option.some.inj (Tryz.func4.symm.trans hfn)).symm
      exact ⟨by kernel_rfl, fun j t ht => by
        rw [Tryz.params4] at ht
        have hm := Array.mem_of_getElem? ht
        simp only [List.mem_toArray, List.mem_cons, List.not_mem_nil, or_false] at hm
        rcases hm with rfl | rfl <;> (show Tryz.prog.wantsStandIn _ = false) <;> kernel_rfl⟩)
    (by kernel_rfl)
end Go.Proofs.YtphhdonkpijhhaaGreatDoor.typesOperators
