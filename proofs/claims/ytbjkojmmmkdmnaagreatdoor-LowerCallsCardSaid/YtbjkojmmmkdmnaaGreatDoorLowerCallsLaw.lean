/- LowerCalls returns true at every input: the cases put together. -/
import Derived.Test.YtbjkojmmmkdmnaaGreatDoorLowerCallsR0
import Derived.Test.YtbjkojmmmkdmnaaGreatDoorLowerCallsR1
import Derived.Test.YtbjkojmmmkdmnaaGreatDoorLowerCallsR2
import Derived.Test.YtbjkojmmmkdmnaaGreatDoorLowerCallsR3
import Derived.Test.YtbjkojmmmkdmnaaGreatDoorLowerCallsR4
set_option linter.all false
namespace Go.Proofs.YtbjkojmmmkdmnaaGreatDoor.Am.LowerCalls
open Go.AM
set_option maxRecDepth 100000
def vv (a0 : Int) (a1 : Int) : Nat → Int := fun i => match i with | 0 => a0 | _ => a1
theorem c0 (a0 a1 : Int) (b0 : (-2147483648 : Int) ≤ a0 ∧ a0 ≤ 2147483647) (b1 : (0 : Int) ≤ a1 ∧ a1 ≤ 255) (hr : Int.tmod a1 (5 : Int) = 0) (w : World) (htab : Lib.TabIs Tryz.prog w "internal/strconv.uint64pow10" .u64 Lib.pow10Tab) : Calls Tryz.prog 3 #[.int .i32 a0, .int .u8 a1] w fun e w' => e = .returned (.bool true) ∧ Kept w w' := by
  have hG : G0.Hold (vv (a0) (a1)) := ⟨facts_cons hr (facts_nil), facts_cons (by show cmpV .eql a0 a0 = true; simp [cmpV]) (facts_nil)⟩
  exact calls_true (sound (ρ := ⟨vv (a0) (a1), tabsAt w⟩) hG (orcs_ok hG htab) _ _) r0 ⟨_, _, rfl, rfl, _, _, rfl, rfl, rfl⟩ w (tabsAt_here w)
theorem c1 (a0 a1 : Int) (b0 : (-2147483648 : Int) ≤ a0 ∧ a0 ≤ 2147483647) (b1 : (0 : Int) ≤ a1 ∧ a1 ≤ 255) (hr : Int.tmod a1 (5 : Int) = 1) (w : World) (htab : Lib.TabIs Tryz.prog w "internal/strconv.uint64pow10" .u64 Lib.pow10Tab) : Calls Tryz.prog 3 #[.int .i32 a0, .int .u8 a1] w fun e w' => e = .returned (.bool true) ∧ Kept w w' := by
  have hG : G1.Hold (vv (a0) (a1)) := ⟨facts_cons hr (facts_nil), facts_cons (by show cmpV .eql a0 a0 = true; simp [cmpV]) (facts_nil)⟩
  exact calls_true (sound (ρ := ⟨vv (a0) (a1), tabsAt w⟩) hG (orcs_ok hG htab) _ _) r1 ⟨_, _, rfl, rfl, _, _, rfl, rfl, rfl⟩ w (tabsAt_here w)
theorem c2 (a0 a1 : Int) (b0 : (-2147483648 : Int) ≤ a0 ∧ a0 ≤ 2147483647) (b1 : (0 : Int) ≤ a1 ∧ a1 ≤ 255) (hr : Int.tmod a1 (5 : Int) = 2) (w : World) (htab : Lib.TabIs Tryz.prog w "internal/strconv.uint64pow10" .u64 Lib.pow10Tab) : Calls Tryz.prog 3 #[.int .i32 a0, .int .u8 a1] w fun e w' => e = .returned (.bool true) ∧ Kept w w' := by
  have hG : G2.Hold (vv (a0) (a1)) := ⟨facts_cons hr (facts_nil), facts_cons (by show cmpV .eql a0 a0 = true; simp [cmpV]) (facts_nil)⟩
  exact calls_true (sound (ρ := ⟨vv (a0) (a1), tabsAt w⟩) hG (orcs_ok hG htab) _ _) r2 ⟨_, _, rfl, rfl, _, _, rfl, rfl, rfl⟩ w (tabsAt_here w)
theorem c3 (a0 a1 : Int) (b0 : (-2147483648 : Int) ≤ a0 ∧ a0 ≤ 2147483647) (b1 : (0 : Int) ≤ a1 ∧ a1 ≤ 255) (hr : Int.tmod a1 (5 : Int) = 3) (w : World) (htab : Lib.TabIs Tryz.prog w "internal/strconv.uint64pow10" .u64 Lib.pow10Tab) : Calls Tryz.prog 3 #[.int .i32 a0, .int .u8 a1] w fun e w' => e = .returned (.bool true) ∧ Kept w w' := by
  have hG : G3.Hold (vv (a0) (a1)) := ⟨facts_cons hr (facts_nil), facts_cons (by show cmpV .eql a0 a0 = true; simp [cmpV]) (facts_nil)⟩
  exact calls_true (sound (ρ := ⟨vv (a0) (a1), tabsAt w⟩) hG (orcs_ok hG htab) _ _) r3 ⟨_, _, rfl, rfl, _, _, rfl, rfl, rfl⟩ w (tabsAt_here w)
theorem c4 (a0 a1 : Int) (b0 : (-2147483648 : Int) ≤ a0 ∧ a0 ≤ 2147483647) (b1 : (0 : Int) ≤ a1 ∧ a1 ≤ 255) (hr : Int.tmod a1 (5 : Int) = 4) (w : World) (htab : Lib.TabIs Tryz.prog w "internal/strconv.uint64pow10" .u64 Lib.pow10Tab) : Calls Tryz.prog 3 #[.int .i32 a0, .int .u8 a1] w fun e w' => e = .returned (.bool true) ∧ Kept w w' := by
  have hG : G4.Hold (vv (a0) (a1)) := ⟨facts_cons hr (facts_nil), facts_cons (by show cmpV .eql a0 a0 = true; simp [cmpV]) (facts_nil)⟩
  exact calls_true (sound (ρ := ⟨vv (a0) (a1), tabsAt w⟩) hG (orcs_ok hG htab) _ _) r4 ⟨_, _, rfl, rfl, _, _, rfl, rfl, rfl⟩ w (tabsAt_here w)
theorem law (a0 a1 : Int) (b0 : (-2147483648 : Int) ≤ a0 ∧ a0 ≤ 2147483647) (b1 : (0 : Int) ≤ a1 ∧ a1 ≤ 255) (w : World) (htab : Lib.TabIs Tryz.prog w "internal/strconv.uint64pow10" .u64 Lib.pow10Tab) : Calls Tryz.prog 3 #[.int .i32 a0, .int .u8 a1] w fun e w' => e = .returned (.bool true) ∧ Kept w w' := by
  have hr := tmod_range a1 5 b1.1 (by decide)
  have hk : Int.tmod a1 (5 : Int) = 0 ∨ Int.tmod a1 (5 : Int) = 1 ∨ Int.tmod a1 (5 : Int) = 2 ∨ Int.tmod a1 (5 : Int) = 3 ∨ Int.tmod a1 (5 : Int) = 4 := by
    have e : ((5 : Nat) : Int) = 5 := rfl
    rw [e] at hr
    omega
  rcases hk with h | h | h | h | h
  · exact c0 a0 a1 b0 b1 h w htab
  · exact c1 a0 a1 b0 b1 h w htab
  · exact c2 a0 a1 b0 b1 h w htab
  · exact c3 a0 a1 b0 b1 h w htab
  · exact c4 a0 a1 b0 b1 h w htab
end Go.Proofs.YtbjkojmmmkdmnaaGreatDoor.Am.LowerCalls
