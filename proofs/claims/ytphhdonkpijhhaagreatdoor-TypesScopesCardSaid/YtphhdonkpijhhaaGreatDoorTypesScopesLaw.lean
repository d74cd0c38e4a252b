/- TypesScopes returns true at every input: the cases put together. -/
import Derived.Test.YtphhdonkpijhhaaGreatDoorTypesScopesR0
import Derived.Test.YtphhdonkpijhhaaGreatDoorTypesScopesR1
import Derived.Test.YtphhdonkpijhhaaGreatDoorTypesScopesR2
import Derived.Test.YtphhdonkpijhhaaGreatDoorTypesScopesR3
import Derived.Test.YtphhdonkpijhhaaGreatDoorTypesScopesR4
import Derived.Test.YtphhdonkpijhhaaGreatDoorTypesScopesR5
import Derived.Test.YtphhdonkpijhhaaGreatDoorTypesScopesR6
import Derived.Test.YtphhdonkpijhhaaGreatDoorTypesScopesR7
import Derived.Test.YtphhdonkpijhhaaGreatDoorTypesScopesR8
set_option linter.all false
namespace Go.Proofs.YtphhdonkpijhhaaGreatDoor.Am.TypesScopes
open Go.AM
set_option maxRecDepth 100000
def vv (a0 : Int) (a1 : Int) : Nat → Int := fun i => match i with | 0 => a0 | _ => a1
theorem c00T (a0 a1 : Int) (b0 : (0 : Int) ≤ a0 ∧ a0 ≤ 255) (b1 : (0 : Int) ≤ a1 ∧ a1 ≤ 255) (h0 : Int.tmod a0 (3 : Int) = 0) (h1 : Int.tmod a1 (3 : Int) = 0) (w : World) (htab : Lib.TabIs Tryz.prog w "internal/strconv.uint64pow10" .u64 Lib.pow10Tab) : Calls Tryz.prog 3 #[.int .u8 a0, .int .u8 a1, .bool true] w fun e w' => e = .returned (.bool true) ∧ Kept w w' := by
  have hq := tmod_range a1 100 b1.1 (by decide)
  have e100 : ((100 : Nat) : Int) = 100 := rfl
  rw [e100] at hq
  have hG : G00T.Hold (vv (a0) (a1)) := ⟨facts_cons h0 (facts_cons h1 (facts_nil)), facts_nil⟩
  exact calls_true (sound (ρ := ⟨vv (a0) (a1), tabsAt w⟩) hG (orcs_ok hG htab) _ _) r00T ⟨_, _, rfl, rfl, _, _, rfl, rfl, _, _, rfl, rfl, rfl⟩ w (tabsAt_here w)
theorem c00F (a0 a1 : Int) (b0 : (0 : Int) ≤ a0 ∧ a0 ≤ 255) (b1 : (0 : Int) ≤ a1 ∧ a1 ≤ 255) (h0 : Int.tmod a0 (3 : Int) = 0) (h1 : Int.tmod a1 (3 : Int) = 0) (w : World) (htab : Lib.TabIs Tryz.prog w "internal/strconv.uint64pow10" .u64 Lib.pow10Tab) : Calls Tryz.prog 3 #[.int .u8 a0, .int .u8 a1, .bool false] w fun e w' => e = .returned (.bool true) ∧ Kept w w' := by
  have hq := tmod_range a1 100 b1.1 (by decide)
  have e100 : ((100 : Nat) : Int) = 100 := rfl
  rw [e100] at hq
  have hG : G00F.Hold (vv (a0) (a1)) := ⟨facts_cons h0 (facts_cons h1 (facts_nil)), facts_nil⟩
  exact calls_true (sound (ρ := ⟨vv (a0) (a1), tabsAt w⟩) hG (orcs_ok hG htab) _ _) r00F ⟨_, _, rfl, rfl, _, _, rfl, rfl, _, _, rfl, rfl, rfl⟩ w (tabsAt_here w)
theorem c01T (a0 a1 : Int) (b0 : (0 : Int) ≤ a0 ∧ a0 ≤ 255) (b1 : (0 : Int) ≤ a1 ∧ a1 ≤ 255) (h0 : Int.tmod a0 (3 : Int) = 0) (h1 : Int.tmod a1 (3 : Int) = 1) (w : World) (htab : Lib.TabIs Tryz.prog w "internal/strconv.uint64pow10" .u64 Lib.pow10Tab) : Calls Tryz.prog 3 #[.int .u8 a0, .int .u8 a1, .bool true] w fun e w' => e = .returned (.bool true) ∧ Kept w w' := by
  have hq := tmod_range a1 100 b1.1 (by decide)
  have e100 : ((100 : Nat) : Int) = 100 := rfl
  rw [e100] at hq
  have hG : G01T.Hold (vv (a0) (a1)) := ⟨facts_cons h0 (facts_cons h1 (facts_nil)), facts_nil⟩
  exact calls_true (sound (ρ := ⟨vv (a0) (a1), tabsAt w⟩) hG (orcs_ok hG htab) _ _) r01T ⟨_, _, rfl, rfl, _, _, rfl, rfl, _, _, rfl, rfl, rfl⟩ w (tabsAt_here w)
theorem c01F (a0 a1 : Int) (b0 : (0 : Int) ≤ a0 ∧ a0 ≤ 255) (b1 : (0 : Int) ≤ a1 ∧ a1 ≤ 255) (h0 : Int.tmod a0 (3 : Int) = 0) (h1 : Int.tmod a1 (3 : Int) = 1) (w : World) (htab : Lib.TabIs Tryz.prog w "internal/strconv.uint64pow10" .u64 Lib.pow10Tab) : Calls Tryz.prog 3 #[.int .u8 a0, .int .u8 a1, .bool false] w fun e w' => e = .returned (.bool true) ∧ Kept w w' := by
  have hq := tmod_range a1 100 b1.1 (by decide)
  have e100 : ((100 : Nat) : Int) = 100 := rfl
  rw [e100] at hq
  have hG : G01F.Hold (vv (a0) (a1)) := ⟨facts_cons h0 (facts_cons h1 (facts_nil)), facts_nil⟩
  exact calls_true (sound (ρ := ⟨vv (a0) (a1), tabsAt w⟩) hG (orcs_ok hG htab) _ _) r01F ⟨_, _, rfl, rfl, _, _, rfl, rfl, _, _, rfl, rfl, rfl⟩ w (tabsAt_here w)
theorem c02T (a0 a1 : Int) (b0 : (0 : Int) ≤ a0 ∧ a0 ≤ 255) (b1 : (0 : Int) ≤ a1 ∧ a1 ≤ 255) (h0 : Int.tmod a0 (3 : Int) = 0) (h1 : Int.tmod a1 (3 : Int) = 2) (w : World) (htab : Lib.TabIs Tryz.prog w "internal/strconv.uint64pow10" .u64 Lib.pow10Tab) : Calls Tryz.prog 3 #[.int .u8 a0, .int .u8 a1, .bool true] w fun e w' => e = .returned (.bool true) ∧ Kept w w' := by
  have hq := tmod_range a1 100 b1.1 (by decide)
  have e100 : ((100 : Nat) : Int) = 100 := rfl
  rw [e100] at hq
  have hG : G02T.Hold (vv (a0) (a1)) := ⟨facts_cons h0 (facts_cons h1 (facts_nil)), facts_nil⟩
  exact calls_true (sound (ρ := ⟨vv (a0) (a1), tabsAt w⟩) hG (orcs_ok hG htab) _ _) r02T ⟨_, _, rfl, rfl, _, _, rfl, rfl, _, _, rfl, rfl, rfl⟩ w (tabsAt_here w)
theorem c02F (a0 a1 : Int) (b0 : (0 : Int) ≤ a0 ∧ a0 ≤ 255) (b1 : (0 : Int) ≤ a1 ∧ a1 ≤ 255) (h0 : Int.tmod a0 (3 : Int) = 0) (h1 : Int.tmod a1 (3 : Int) = 2) (w : World) (htab : Lib.TabIs Tryz.prog w "internal/strconv.uint64pow10" .u64 Lib.pow10Tab) : Calls Tryz.prog 3 #[.int .u8 a0, .int .u8 a1, .bool false] w fun e w' => e = .returned (.bool true) ∧ Kept w w' := by
  have hq := tmod_range a1 100 b1.1 (by decide)
  have e100 : ((100 : Nat) : Int) = 100 := rfl
  rw [e100] at hq
  have hG : G02F.Hold (vv (a0) (a1)) := ⟨facts_cons h0 (facts_cons h1 (facts_nil)), facts_nil⟩
  exact calls_true (sound (ρ := ⟨vv (a0) (a1), tabsAt w⟩) hG (orcs_ok hG htab) _ _) r02F ⟨_, _, rfl, rfl, _, _, rfl, rfl, _, _, rfl, rfl, rfl⟩ w (tabsAt_here w)
theorem c10T (a0 a1 : Int) (b0 : (0 : Int) ≤ a0 ∧ a0 ≤ 255) (b1 : (0 : Int) ≤ a1 ∧ a1 ≤ 255) (h0 : Int.tmod a0 (3 : Int) = 1) (h1 : Int.tmod a1 (3 : Int) = 0) (w : World) (htab : Lib.TabIs Tryz.prog w "internal/strconv.uint64pow10" .u64 Lib.pow10Tab) : Calls Tryz.prog 3 #[.int .u8 a0, .int .u8 a1, .bool true] w fun e w' => e = .returned (.bool true) ∧ Kept w w' := by
  have hq := tmod_range a1 100 b1.1 (by decide)
  have e100 : ((100 : Nat) : Int) = 100 := rfl
  rw [e100] at hq
  have hG : G10T.Hold (vv (a0) (a1)) := ⟨facts_cons h0 (facts_cons h1 (facts_nil)), facts_nil⟩
  exact calls_true (sound (ρ := ⟨vv (a0) (a1), tabsAt w⟩) hG (orcs_ok hG htab) _ _) r10T ⟨_, _, rfl, rfl, _, _, rfl, rfl, _, _, rfl, rfl, rfl⟩ w (tabsAt_here w)
theorem c10F (a0 a1 : Int) (b0 : (0 : Int) ≤ a0 ∧ a0 ≤ 255) (b1 : (0 : Int) ≤ a1 ∧ a1 ≤ 255) (h0 : Int.tmod a0 (3 : Int) = 1) (h1 : Int.tmod a1 (3 : Int) = 0) (w : World) (htab : Lib.TabIs Tryz.prog w "internal/strconv.uint64pow10" .u64 Lib.pow10Tab) : Calls Tryz.prog 3 #[.int .u8 a0, .int .u8 a1, .bool false] w fun e w' => e = .returned (.bool true) ∧ Kept w w' := by
  have hq := tmod_range a1 100 b1.1 (by decide)
  have e100 : ((100 : Nat) : Int) = 100 := rfl
  rw [e100] at hq
  have hG : G10F.Hold (vv (a0) (a1)) := ⟨facts_cons h0 (facts_cons h1 (facts_nil)), facts_nil⟩
  exact calls_true (sound (ρ := ⟨vv (a0) (a1), tabsAt w⟩) hG (orcs_ok hG htab) _ _) r10F ⟨_, _, rfl, rfl, _, _, rfl, rfl, _, _, rfl, rfl, rfl⟩ w (tabsAt_here w)
theorem c11T (a0 a1 : Int) (b0 : (0 : Int) ≤ a0 ∧ a0 ≤ 255) (b1 : (0 : Int) ≤ a1 ∧ a1 ≤ 255) (h0 : Int.tmod a0 (3 : Int) = 1) (h1 : Int.tmod a1 (3 : Int) = 1) (w : World) (htab : Lib.TabIs Tryz.prog w "internal/strconv.uint64pow10" .u64 Lib.pow10Tab) : Calls Tryz.prog 3 #[.int .u8 a0, .int .u8 a1, .bool true] w fun e w' => e = .returned (.bool true) ∧ Kept w w' := by
  have hq := tmod_range a1 100 b1.1 (by decide)
  have e100 : ((100 : Nat) : Int) = 100 := rfl
  rw [e100] at hq
  have hG : G11T.Hold (vv (a0) (a1)) := ⟨facts_cons h0 (facts_cons h1 (facts_nil)), facts_nil⟩
  exact calls_true (sound (ρ := ⟨vv (a0) (a1), tabsAt w⟩) hG (orcs_ok hG htab) _ _) r11T ⟨_, _, rfl, rfl, _, _, rfl, rfl, _, _, rfl, rfl, rfl⟩ w (tabsAt_here w)
theorem c11F (a0 a1 : Int) (b0 : (0 : Int) ≤ a0 ∧ a0 ≤ 255) (b1 : (0 : Int) ≤ a1 ∧ a1 ≤ 255) (h0 : Int.tmod a0 (3 : Int) = 1) (h1 : Int.tmod a1 (3 : Int) = 1) (w : World) (htab : Lib.TabIs Tryz.prog w "internal/strconv.uint64pow10" .u64 Lib.pow10Tab) : Calls Tryz.prog 3 #[.int .u8 a0, .int .u8 a1, .bool false] w fun e w' => e = .returned (.bool true) ∧ Kept w w' := by
  have hq := tmod_range a1 100 b1.1 (by decide)
  have e100 : ((100 : Nat) : Int) = 100 := rfl
  rw [e100] at hq
  have hG : G11F.Hold (vv (a0) (a1)) := ⟨facts_cons h0 (facts_cons h1 (facts_nil)), facts_nil⟩
  exact calls_true (sound (ρ := ⟨vv (a0) (a1), tabsAt w⟩) hG (orcs_ok hG htab) _ _) r11F ⟨_, _, rfl, rfl, _, _, rfl, rfl, _, _, rfl, rfl, rfl⟩ w (tabsAt_here w)
theorem c12T (a0 a1 : Int) (b0 : (0 : Int) ≤ a0 ∧ a0 ≤ 255) (b1 : (0 : Int) ≤ a1 ∧ a1 ≤ 255) (h0 : Int.tmod a0 (3 : Int) = 1) (h1 : Int.tmod a1 (3 : Int) = 2) (w : World) (htab : Lib.TabIs Tryz.prog w "internal/strconv.uint64pow10" .u64 Lib.pow10Tab) : Calls Tryz.prog 3 #[.int .u8 a0, .int .u8 a1, .bool true] w fun e w' => e = .returned (.bool true) ∧ Kept w w' := by
  have hq := tmod_range a1 100 b1.1 (by decide)
  have e100 : ((100 : Nat) : Int) = 100 := rfl
  rw [e100] at hq
  have hG : G12T.Hold (vv (a0) (a1)) := ⟨facts_cons h0 (facts_cons h1 (facts_nil)), facts_nil⟩
  exact calls_true (sound (ρ := ⟨vv (a0) (a1), tabsAt w⟩) hG (orcs_ok hG htab) _ _) r12T ⟨_, _, rfl, rfl, _, _, rfl, rfl, _, _, rfl, rfl, rfl⟩ w (tabsAt_here w)
theorem c12F (a0 a1 : Int) (b0 : (0 : Int) ≤ a0 ∧ a0 ≤ 255) (b1 : (0 : Int) ≤ a1 ∧ a1 ≤ 255) (h0 : Int.tmod a0 (3 : Int) = 1) (h1 : Int.tmod a1 (3 : Int) = 2) (w : World) (htab : Lib.TabIs Tryz.prog w "internal/strconv.uint64pow10" .u64 Lib.pow10Tab) : Calls Tryz.prog 3 #[.int .u8 a0, .int .u8 a1, .bool false] w fun e w' => e = .returned (.bool true) ∧ Kept w w' := by
  have hq := tmod_range a1 100 b1.1 (by decide)
  have e100 : ((100 : Nat) : Int) = 100 := rfl
  rw [e100] at hq
  have hG : G12F.Hold (vv (a0) (a1)) := ⟨facts_cons h0 (facts_cons h1 (facts_nil)), facts_nil⟩
  exact calls_true (sound (ρ := ⟨vv (a0) (a1), tabsAt w⟩) hG (orcs_ok hG htab) _ _) r12F ⟨_, _, rfl, rfl, _, _, rfl, rfl, _, _, rfl, rfl, rfl⟩ w (tabsAt_here w)
theorem c20T (a0 a1 : Int) (b0 : (0 : Int) ≤ a0 ∧ a0 ≤ 255) (b1 : (0 : Int) ≤ a1 ∧ a1 ≤ 255) (h0 : Int.tmod a0 (3 : Int) = 2) (h1 : Int.tmod a1 (3 : Int) = 0) (w : World) (htab : Lib.TabIs Tryz.prog w "internal/strconv.uint64pow10" .u64 Lib.pow10Tab) : Calls Tryz.prog 3 #[.int .u8 a0, .int .u8 a1, .bool true] w fun e w' => e = .returned (.bool true) ∧ Kept w w' := by
  have hq := tmod_range a1 100 b1.1 (by decide)
  have e100 : ((100 : Nat) : Int) = 100 := rfl
  rw [e100] at hq
  have hG : G20T.Hold (vv (a0) (a1)) := ⟨facts_cons h0 (facts_cons h1 (facts_nil)), facts_cons (by show decide ((IntKind.wrap .i64 ((1 : Int) + (IntKind.wrap .i64 (Int.tmod a1 (100 : Int))))) < (1 : Int)) = false; rw [wrap_in .i64 (Int.tmod a1 (100 : Int)) (show (-9223372036854775808 : Int) ≤ (Int.tmod a1 (100 : Int)) ∧ (Int.tmod a1 (100 : Int)) ≤ (9223372036854775807 : Int) by omega)]; rw [wrap_in .i64 ((1 : Int) + (Int.tmod a1 (100 : Int))) (show (-9223372036854775808 : Int) ≤ (1 : Int) + (Int.tmod a1 (100 : Int)) ∧ (1 : Int) + (Int.tmod a1 (100 : Int)) ≤ (9223372036854775807 : Int) by omega)]; exact decide_eq_false (by omega)) (facts_cons (by show decide ((IntKind.wrap .i64 ((1 : Int) + (IntKind.wrap .i64 (Int.tmod a1 (100 : Int))))) > (1024 : Int)) = false; rw [wrap_in .i64 (Int.tmod a1 (100 : Int)) (show (-9223372036854775808 : Int) ≤ (Int.tmod a1 (100 : Int)) ∧ (Int.tmod a1 (100 : Int)) ≤ (9223372036854775807 : Int) by omega)]; rw [wrap_in .i64 ((1 : Int) + (Int.tmod a1 (100 : Int))) (show (-9223372036854775808 : Int) ≤ (1 : Int) + (Int.tmod a1 (100 : Int)) ∧ (1 : Int) + (Int.tmod a1 (100 : Int)) ≤ (9223372036854775807 : Int) by omega)]; exact decide_eq_false (by omega)) (facts_nil))⟩
  exact calls_true (sound (ρ := ⟨vv (a0) (a1), tabsAt w⟩) hG (orcs_ok hG htab) _ _) r20T ⟨_, _, rfl, rfl, _, _, rfl, rfl, _, _, rfl, rfl, rfl⟩ w (tabsAt_here w)
theorem c20F (a0 a1 : Int) (b0 : (0 : Int) ≤ a0 ∧ a0 ≤ 255) (b1 : (0 : Int) ≤ a1 ∧ a1 ≤ 255) (h0 : Int.tmod a0 (3 : Int) = 2) (h1 : Int.tmod a1 (3 : Int) = 0) (w : World) (htab : Lib.TabIs Tryz.prog w "internal/strconv.uint64pow10" .u64 Lib.pow10Tab) : Calls Tryz.prog 3 #[.int .u8 a0, .int .u8 a1, .bool false] w fun e w' => e = .returned (.bool true) ∧ Kept w w' := by
  have hq := tmod_range a1 100 b1.1 (by decide)
  have e100 : ((100 : Nat) : Int) = 100 := rfl
  rw [e100] at hq
  have hG : G20F.Hold (vv (a0) (a1)) := ⟨facts_cons h0 (facts_cons h1 (facts_nil)), facts_cons (by show decide ((IntKind.wrap .i64 ((1 : Int) + (IntKind.wrap .i64 (Int.tmod a1 (100 : Int))))) < (1 : Int)) = false; rw [wrap_in .i64 (Int.tmod a1 (100 : Int)) (show (-9223372036854775808 : Int) ≤ (Int.tmod a1 (100 : Int)) ∧ (Int.tmod a1 (100 : Int)) ≤ (9223372036854775807 : Int) by omega)]; rw [wrap_in .i64 ((1 : Int) + (Int.tmod a1 (100 : Int))) (show (-9223372036854775808 : Int) ≤ (1 : Int) + (Int.tmod a1 (100 : Int)) ∧ (1 : Int) + (Int.tmod a1 (100 : Int)) ≤ (9223372036854775807 : Int) by omega)]; exact decide_eq_false (by omega)) (facts_cons (by show decide ((IntKind.wrap .i64 ((1 : Int) + (IntKind.wrap .i64 (Int.tmod a1 (100 : Int))))) > (1024 : Int)) = false; rw [wrap_in .i64 (Int.tmod a1 (100 : Int)) (show (-9223372036854775808 : Int) ≤ (Int.tmod a1 (100 : Int)) ∧ (Int.tmod a1 (100 : Int)) ≤ (9223372036854775807 : Int) by omega)]; rw [wrap_in .i64 ((1 : Int) + (Int.tmod a1 (100 : Int))) (show (-9223372036854775808 : Int) ≤ (1 : Int) + (Int.tmod a1 (100 : Int)) ∧ (1 : Int) + (Int.tmod a1 (100 : Int)) ≤ (9223372036854775807 : Int) by omega)]; exact decide_eq_false (by omega)) (facts_nil))⟩
  exact calls_true (sound (ρ := ⟨vv (a0) (a1), tabsAt w⟩) hG (orcs_ok hG htab) _ _) r20F ⟨_, _, rfl, rfl, _, _, rfl, rfl, _, _, rfl, rfl, rfl⟩ w (tabsAt_here w)
theorem c21T (a0 a1 : Int) (b0 : (0 : Int) ≤ a0 ∧ a0 ≤ 255) (b1 : (0 : Int) ≤ a1 ∧ a1 ≤ 255) (h0 : Int.tmod a0 (3 : Int) = 2) (h1 : Int.tmod a1 (3 : Int) = 1) (w : World) (htab : Lib.TabIs Tryz.prog w "internal/strconv.uint64pow10" .u64 Lib.pow10Tab) : Calls Tryz.prog 3 #[.int .u8 a0, .int .u8 a1, .bool true] w fun e w' => e = .returned (.bool true) ∧ Kept w w' := by
  have hq := tmod_range a1 100 b1.1 (by decide)
  have e100 : ((100 : Nat) : Int) = 100 := rfl
  rw [e100] at hq
  have hG : G21T.Hold (vv (a0) (a1)) := ⟨facts_cons h0 (facts_cons h1 (facts_nil)), facts_cons (by show decide ((IntKind.wrap .i64 ((1 : Int) + (IntKind.wrap .i64 (Int.tmod a1 (100 : Int))))) < (1 : Int)) = false; rw [wrap_in .i64 (Int.tmod a1 (100 : Int)) (show (-9223372036854775808 : Int) ≤ (Int.tmod a1 (100 : Int)) ∧ (Int.tmod a1 (100 : Int)) ≤ (9223372036854775807 : Int) by omega)]; rw [wrap_in .i64 ((1 : Int) + (Int.tmod a1 (100 : Int))) (show (-9223372036854775808 : Int) ≤ (1 : Int) + (Int.tmod a1 (100 : Int)) ∧ (1 : Int) + (Int.tmod a1 (100 : Int)) ≤ (9223372036854775807 : Int) by omega)]; exact decide_eq_false (by omega)) (facts_cons (by show decide ((IntKind.wrap .i64 ((1 : Int) + (IntKind.wrap .i64 (Int.tmod a1 (100 : Int))))) > (1024 : Int)) = false; rw [wrap_in .i64 (Int.tmod a1 (100 : Int)) (show (-9223372036854775808 : Int) ≤ (Int.tmod a1 (100 : Int)) ∧ (Int.tmod a1 (100 : Int)) ≤ (9223372036854775807 : Int) by omega)]; rw [wrap_in .i64 ((1 : Int) + (Int.tmod a1 (100 : Int))) (show (-9223372036854775808 : Int) ≤ (1 : Int) + (Int.tmod a1 (100 : Int)) ∧ (1 : Int) + (Int.tmod a1 (100 : Int)) ≤ (9223372036854775807 : Int) by omega)]; exact decide_eq_false (by omega)) (facts_nil))⟩
  exact calls_true (sound (ρ := ⟨vv (a0) (a1), tabsAt w⟩) hG (orcs_ok hG htab) _ _) r21T ⟨_, _, rfl, rfl, _, _, rfl, rfl, _, _, rfl, rfl, rfl⟩ w (tabsAt_here w)
theorem c21F (a0 a1 : Int) (b0 : (0 : Int) ≤ a0 ∧ a0 ≤ 255) (b1 : (0 : Int) ≤ a1 ∧ a1 ≤ 255) (h0 : Int.tmod a0 (3 : Int) = 2) (h1 : Int.tmod a1 (3 : Int) = 1) (w : World) (htab : Lib.TabIs Tryz.prog w "internal/strconv.uint64pow10" .u64 Lib.pow10Tab) : Calls Tryz.prog 3 #[.int .u8 a0, .int .u8 a1, .bool false] w fun e w' => e = .returned (.bool true) ∧ Kept w w' := by
  have hq := tmod_range a1 100 b1.1 (by decide)
  have e100 : ((100 : Nat) : Int) = 100 := rfl
  rw [e100] at hq
  have hG : G21F.Hold (vv (a0) (a1)) := ⟨facts_cons h0 (facts_cons h1 (facts_nil)), facts_cons (by show decide ((IntKind.wrap .i64 ((1 : Int) + (IntKind.wrap .i64 (Int.tmod a1 (100 : Int))))) < (1 : Int)) = false; rw [wrap_in .i64 (Int.tmod a1 (100 : Int)) (show (-9223372036854775808 : Int) ≤ (Int.tmod a1 (100 : Int)) ∧ (Int.tmod a1 (100 : Int)) ≤ (9223372036854775807 : Int) by omega)]; rw [wrap_in .i64 ((1 : Int) + (Int.tmod a1 (100 : Int))) (show (-9223372036854775808 : Int) ≤ (1 : Int) + (Int.tmod a1 (100 : Int)) ∧ (1 : Int) + (Int.tmod a1 (100 : Int)) ≤ (9223372036854775807 : Int) by omega)]; exact decide_eq_false (by omega)) (facts_cons (by show decide ((IntKind.wrap .i64 ((1 : Int) + (IntKind.wrap .i64 (Int.tmod a1 (100 : Int))))) > (1024 : Int)) = false; rw [wrap_in .i64 (Int.tmod a1 (100 : Int)) (show (-9223372036854775808 : Int) ≤ (Int.tmod a1 (100 : Int)) ∧ (Int.tmod a1 (100 : Int)) ≤ (9223372036854775807 : Int) by omega)]; rw [wrap_in .i64 ((1 : Int) + (Int.tmod a1 (100 : Int))) (show (-9223372036854775808 : Int) ≤ (1 : Int) + (Int.tmod a1 (100 : Int)) ∧ (1 : Int) + (Int.tmod a1 (100 : Int)) ≤ (9223372036854775807 : Int) by omega)]; exact decide_eq_false (by omega)) (facts_nil))⟩
  exact calls_true (sound (ρ := ⟨vv (a0) (a1), tabsAt w⟩) hG (orcs_ok hG htab) _ _) r21F ⟨_, _, rfl, rfl, _, _, rfl, rfl, _, _, rfl, rfl, rfl⟩ w (tabsAt_here w)
theorem c22T (a0 a1 : Int) (b0 : (0 : Int) ≤ a0 ∧ a0 ≤ 255) (b1 : (0 : Int) ≤ a1 ∧ a1 ≤ 255) (h0 : Int.tmod a0 (3 : Int) = 2) (h1 : Int.tmod a1 (3 : Int) = 2) (w : World) (htab : Lib.TabIs Tryz.prog w "internal/strconv.uint64pow10" .u64 Lib.pow10Tab) : Calls Tryz.prog 3 #[.int .u8 a0, .int .u8 a1, .bool true] w fun e w' => e = .returned (.bool true) ∧ Kept w w' := by
  have hq := tmod_range a1 100 b1.1 (by decide)
  have e100 : ((100 : Nat) : Int) = 100 := rfl
  rw [e100] at hq
  have hG : G22T.Hold (vv (a0) (a1)) := ⟨facts_cons h0 (facts_cons h1 (facts_nil)), facts_cons (by show decide ((IntKind.wrap .i64 ((1 : Int) + (IntKind.wrap .i64 (Int.tmod a1 (100 : Int))))) < (1 : Int)) = false; rw [wrap_in .i64 (Int.tmod a1 (100 : Int)) (show (-9223372036854775808 : Int) ≤ (Int.tmod a1 (100 : Int)) ∧ (Int.tmod a1 (100 : Int)) ≤ (9223372036854775807 : Int) by omega)]; rw [wrap_in .i64 ((1 : Int) + (Int.tmod a1 (100 : Int))) (show (-9223372036854775808 : Int) ≤ (1 : Int) + (Int.tmod a1 (100 : Int)) ∧ (1 : Int) + (Int.tmod a1 (100 : Int)) ≤ (9223372036854775807 : Int) by omega)]; exact decide_eq_false (by omega)) (facts_cons (by show decide ((IntKind.wrap .i64 ((1 : Int) + (IntKind.wrap .i64 (Int.tmod a1 (100 : Int))))) > (1024 : Int)) = false; rw [wrap_in .i64 (Int.tmod a1 (100 : Int)) (show (-9223372036854775808 : Int) ≤ (Int.tmod a1 (100 : Int)) ∧ (Int.tmod a1 (100 : Int)) ≤ (9223372036854775807 : Int) by omega)]; rw [wrap_in .i64 ((1 : Int) + (Int.tmod a1 (100 : Int))) (show (-9223372036854775808 : Int) ≤ (1 : Int) + (Int.tmod a1 (100 : Int)) ∧ (1 : Int) + (Int.tmod a1 (100 : Int)) ≤ (9223372036854775807 : Int) by omega)]; exact decide_eq_false (by omega)) (facts_nil))⟩
  exact calls_true (sound (ρ := ⟨vv (a0) (a1), tabsAt w⟩) hG (orcs_ok hG htab) _ _) r22T ⟨_, _, rfl, rfl, _, _, rfl, rfl, _, _, rfl, rfl, rfl⟩ w (tabsAt_here w)
theorem c22F (a0 a1 : Int) (b0 : (0 : Int) ≤ a0 ∧ a0 ≤ 255) (b1 : (0 : Int) ≤ a1 ∧ a1 ≤ 255) (h0 : Int.tmod a0 (3 : Int) = 2) (h1 : Int.tmod a1 (3 : Int) = 2) (w : World) (htab : Lib.TabIs Tryz.prog w "internal/strconv.uint64pow10" .u64 Lib.pow10Tab) : Calls Tryz.prog 3 #[.int .u8 a0, .int .u8 a1, .bool false] w fun e w' => e = .returned (.bool true) ∧ Kept w w' := by
  have hq := tmod_range a1 100 b1.1 (by decide)
  have e100 : ((100 : Nat) : Int) = 100 := rfl
  rw [e100] at hq
  have hG : G22F.Hold (vv (a0) (a1)) := ⟨facts_cons h0 (facts_cons h1 (facts_nil)), facts_cons (by show decide ((IntKind.wrap .i64 ((1 : Int) + (IntKind.wrap .i64 (Int.tmod a1 (100 : Int))))) < (1 : Int)) = false; rw [wrap_in .i64 (Int.tmod a1 (100 : Int)) (show (-9223372036854775808 : Int) ≤ (Int.tmod a1 (100 : Int)) ∧ (Int.tmod a1 (100 : Int)) ≤ (9223372036854775807 : Int) by omega)]; rw [wrap_in .i64 ((1 : Int) + (Int.tmod a1 (100 : Int))) (show (-9223372036854775808 : Int) ≤ (1 : Int) + (Int.tmod a1 (100 : Int)) ∧ (1 : Int) + (Int.tmod a1 (100 : Int)) ≤ (9223372036854775807 : Int) by omega)]; exact decide_eq_false (by omega)) (facts_cons (by show decide ((IntKind.wrap .i64 ((1 : Int) + (IntKind.wrap .i64 (Int.tmod a1 (100 : Int))))) > (1024 : Int)) = false; rw [wrap_in .i64 (Int.tmod a1 (100 : Int)) (show (-9223372036854775808 : Int) ≤ (Int.tmod a1 (100 : Int)) ∧ (Int.tmod a1 (100 : Int)) ≤ (9223372036854775807 : Int) by omega)]; rw [wrap_in .i64 ((1 : Int) + (Int.tmod a1 (100 : Int))) (show (-9223372036854775808 : Int) ≤ (1 : Int) + (Int.tmod a1 (100 : Int)) ∧ (1 : Int) + (Int.tmod a1 (100 : Int)) ≤ (9223372036854775807 : Int) by omega)]; exact decide_eq_false (by omega)) (facts_nil))⟩
  exact calls_true (sound (ρ := ⟨vv (a0) (a1), tabsAt w⟩) hG (orcs_ok hG htab) _ _) r22F ⟨_, _, rfl, rfl, _, _, rfl, rfl, _, _, rfl, rfl, rfl⟩ w (tabsAt_here w)
theorem law (a0 a1 : Int) (a2 : Bool) (b0 : (0 : Int) ≤ a0 ∧ a0 ≤ 255) (b1 : (0 : Int) ≤ a1 ∧ a1 ≤ 255) (w : World) (htab : Lib.TabIs Tryz.prog w "internal/strconv.uint64pow10" .u64 Lib.pow10Tab) : Calls Tryz.prog 3 #[.int .u8 a0, .int .u8 a1, .bool a2] w fun e w' => e = .returned (.bool true) ∧ Kept w w' := by
  have q0 := tmod_range a0 3 b0.1 (by decide)
  have k0 : Int.tmod a0 (3 : Int) = 0 ∨ Int.tmod a0 (3 : Int) = 1 ∨ Int.tmod a0 (3 : Int) = 2 := by
    have e : ((3 : Nat) : Int) = 3 := rfl
    rw [e] at q0
    omega
  have q1 := tmod_range a1 3 b1.1 (by decide)
  have k1 : Int.tmod a1 (3 : Int) = 0 ∨ Int.tmod a1 (3 : Int) = 1 ∨ Int.tmod a1 (3 : Int) = 2 := by
    have e : ((3 : Nat) : Int) = 3 := rfl
    rw [e] at q1
    omega
  rcases k0 with h0 | h0 | h0 <;> rcases k1 with h1 | h1 | h1 <;> cases a2
  · exact c00F a0 a1 b0 b1 h0 h1 w htab
  · exact c00T a0 a1 b0 b1 h0 h1 w htab
  · exact c01F a0 a1 b0 b1 h0 h1 w htab
  · exact c01T a0 a1 b0 b1 h0 h1 w htab
  · exact c02F a0 a1 b0 b1 h0 h1 w htab
  · exact c02T a0 a1 b0 b1 h0 h1 w htab
  · exact c10F a0 a1 b0 b1 h0 h1 w htab
  · exact c10T a0 a1 b0 b1 h0 h1 w htab
  · exact c11F a0 a1 b0 b1 h0 h1 w htab
  · exact c11T a0 a1 b0 b1 h0 h1 w htab
  · exact c12F a0 a1 b0 b1 h0 h1 w htab
  · exact c12T a0 a1 b0 b1 h0 h1 w htab
  · exact c20F a0 a1 b0 b1 h0 h1 w htab
  · exact c20T a0 a1 b0 b1 h0 h1 w htab
  · exact c21F a0 a1 b0 b1 h0 h1 w htab
  · exact c21T a0 a1 b0 b1 h0 h1 w htab
  · exact c22F a0 a1 b0 b1 h0 h1 w htab
  · exact c22T a0 a1 b0 b1 h0 h1 w htab
end Go.Proofs.YtphhdonkpijhhaaGreatDoor.Am.TypesScopes
