/- TypesOperators returns true at every input: the cases put together. -/
import Derived.Test.YtphhdonkpijhhaaGreatDoorTypesOperatorsE0
import Derived.Test.YtphhdonkpijhhaaGreatDoorTypesOperatorsE1
import Derived.Test.YtphhdonkpijhhaaGreatDoorTypesOperatorsE2
import Derived.Test.YtphhdonkpijhhaaGreatDoorTypesOperatorsE3
import Derived.Test.YtphhdonkpijhhaaGreatDoorTypesOperatorsE4
import Derived.Test.YtphhdonkpijhhaaGreatDoorTypesOperatorsE5
import Derived.Test.YtphhdonkpijhhaaGreatDoorTypesOperatorsE6
import Derived.Test.YtphhdonkpijhhaaGreatDoorTypesOperatorsE7
import Derived.Test.YtphhdonkpijhhaaGreatDoorTypesOperatorsR0
import Derived.Test.YtphhdonkpijhhaaGreatDoorTypesOperatorsR1
import Derived.Test.YtphhdonkpijhhaaGreatDoorTypesOperatorsR2
import Derived.Test.YtphhdonkpijhhaaGreatDoorTypesOperatorsR3
import Derived.Test.YtphhdonkpijhhaaGreatDoorTypesOperatorsR4
set_option linter.all false
namespace Go.Proofs.YtphhdonkpijhhaaGreatDoor.Am.TypesOperators
open Go.AM
set_option maxRecDepth 100000
theorem dT {a : Int} {i : Nat} {v : Nat → Int} {X : ST} (hX : X.den v = IntKind.wrap .i64 (1 + IntKind.wrap .i64 (Int.tmod a 3))) {k : Int} (hk : Int.tmod a 3 = k) (h0 : 0 ≤ k ∧ k ≤ 2) : X.den v = 1 + k := by
  rw [hX, hk, wrap_in .i64 k (show (-9223372036854775808 : Int) ≤ k ∧ k ≤ (9223372036854775807 : Int) by omega), wrap_in .i64 (1 + k) (show (-9223372036854775808 : Int) ≤ 1 + k ∧ 1 + k ≤ (9223372036854775807 : Int) by omega)]
theorem c0 (a0 a1 a2 a3 : Int) (b0 : (0 : Int) ≤ a0 ∧ a0 ≤ 255) (b1 : (0 : Int) ≤ a1 ∧ a1 ≤ 255) (b2 : (0 : Int) ≤ a2 ∧ a2 ≤ 255) (b3 : (0 : Int) ≤ a3 ∧ a3 ≤ 255) (ho : Int.tmod a0 20 = 0) (w : World) (htab : Lib.TabIs Tryz.prog w "internal/strconv.uint64pow10" .u64 Lib.pow10Tab) : Calls Tryz.prog 4 #[.int .u8 a0, .agg #[.int .u8 a1, .int .u8 a2, .int .u8 a3]] w fun e w' => e = .returned (.bool true) ∧ Kept w w' := by
  have hw : IntKind.wrap .i64 a0 = a0 := wrap_in .i64 a0 (show (-9223372036854775808 : Int) ≤ a0 ∧ a0 ≤ (9223372036854775807 : Int) by omega)
  have h5 : Int.tmod a0 5 = 0 := by
    rw [Int.tmod_eq_emod_of_nonneg b0.1] at ho ⊢
    omega
  have hU : XU.den (vv a0 a1 a2 a3) = .ofNat 1 := by show IntKind.wrap .i64 (1 + Int.tmod (IntKind.wrap .i64 a0) 5) = _; rw [hw, h5]; rfl
  have hU1 : XU1.den (vv a0 a1 a2 a3) = .ofNat 0 := by show IntKind.wrap .i64 (XU.den (vv a0 a1 a2 a3) - 1) = _; rw [hU]; rfl
  have hO : XO.den (vv a0 a1 a2 a3) = .ofNat 10 := by show IntKind.wrap .i64 (10 + Int.tmod (IntKind.wrap .i64 a0) 20) = _; rw [hw, ho]; rfl
  have hO1 : XO1.den (vv a0 a1 a2 a3) = .ofNat 0 := by show IntKind.wrap .i64 (XO.den (vv a0 a1 a2 a3) - 10) = _; rw [hO]; rfl
  have hO2 : XO2.den (vv a0 a1 a2 a3) = .negSucc 11 := by show IntKind.wrap .i64 (XO.den (vv a0 a1 a2 a3) - 22) = _; rw [hO]; rfl
  have k0 : Int.tmod a1 3 = 0 ∨ Int.tmod a1 3 = 1 ∨ Int.tmod a1 3 = 2 := by
    rw [Int.tmod_eq_emod_of_nonneg b1.1]
    omega
  have k1 : Int.tmod a2 3 = 0 ∨ Int.tmod a2 3 = 1 ∨ Int.tmod a2 3 = 2 := by
    rw [Int.tmod_eq_emod_of_nonneg b2.1]
    omega
  have k2 : Int.tmod a3 3 = 0 ∨ Int.tmod a3 3 = 1 ∨ Int.tmod a3 3 = 2 := by
    rw [Int.tmod_eq_emod_of_nonneg b3.1]
    omega
  rcases k0 with m0 | m0 | m0
  · have hT0 : XT0.den (vv a0 a1 a2 a3) = .ofNat 1 := by show IntKind.wrap .i64 (1 + IntKind.wrap .i64 (Int.tmod a1 3)) = _; rw [m0]; rfl
    have qU := sU htab (GU_hold hU hU1 hT0) eU0_0
    rcases k1 with m1 | m1 | m1
    · have hT1 : XT1.den (vv a0 a1 a2 a3) = .ofNat 1 := by show IntKind.wrap .i64 (1 + IntKind.wrap .i64 (Int.tmod a2 3)) = _; rw [m1]; rfl
      have qB := sB htab (GB_hold hO hO1 hO2 hT0 hT1) eB0_0_0
      rcases k2 with m2 | m2 | m2
      · have hT2 : XT2.den (vv a0 a1 a2 a3) = .ofNat 1 := by show IntKind.wrap .i64 (1 + IntKind.wrap .i64 (Int.tmod a3 3)) = _; rw [m2]; rfl
        have qC := sC htab (GC_hold hT0 hT1 hT2) eC0_0_0
        exact fin htab (GM_hold hU hO hT0 hT1 hT2) qU qB qC r0_0_0_0
      · have hT2 : XT2.den (vv a0 a1 a2 a3) = .ofNat 2 := by show IntKind.wrap .i64 (1 + IntKind.wrap .i64 (Int.tmod a3 3)) = _; rw [m2]; rfl
        have qC := sC htab (GC_hold hT0 hT1 hT2) eC0_0_1
        exact fin htab (GM_hold hU hO hT0 hT1 hT2) qU qB qC r0_0_0_1
      · have hT2 : XT2.den (vv a0 a1 a2 a3) = .ofNat 3 := by show IntKind.wrap .i64 (1 + IntKind.wrap .i64 (Int.tmod a3 3)) = _; rw [m2]; rfl
        have qC := sC htab (GC_hold hT0 hT1 hT2) eC0_0_2
        exact fin htab (GM_hold hU hO hT0 hT1 hT2) qU qB qC r0_0_0_2
    · have hT1 : XT1.den (vv a0 a1 a2 a3) = .ofNat 2 := by show IntKind.wrap .i64 (1 + IntKind.wrap .i64 (Int.tmod a2 3)) = _; rw [m1]; rfl
      have qB := sB htab (GB_hold hO hO1 hO2 hT0 hT1) eB0_0_1
      rcases k2 with m2 | m2 | m2
      · have hT2 : XT2.den (vv a0 a1 a2 a3) = .ofNat 1 := by show IntKind.wrap .i64 (1 + IntKind.wrap .i64 (Int.tmod a3 3)) = _; rw [m2]; rfl
        have qC := sC htab (GC_hold hT0 hT1 hT2) eC0_1_0
        exact fin htab (GM_hold hU hO hT0 hT1 hT2) qU qB qC r0_0_1_0
      · have hT2 : XT2.den (vv a0 a1 a2 a3) = .ofNat 2 := by show IntKind.wrap .i64 (1 + IntKind.wrap .i64 (Int.tmod a3 3)) = _; rw [m2]; rfl
        have qC := sC htab (GC_hold hT0 hT1 hT2) eC0_1_1
        exact fin htab (GM_hold hU hO hT0 hT1 hT2) qU qB qC r0_0_1_1
      · have hT2 : XT2.den (vv a0 a1 a2 a3) = .ofNat 3 := by show IntKind.wrap .i64 (1 + IntKind.wrap .i64 (Int.tmod a3 3)) = _; rw [m2]; rfl
        have qC := sC htab (GC_hold hT0 hT1 hT2) eC0_1_2
        exact fin htab (GM_hold hU hO hT0 hT1 hT2) qU qB qC r0_0_1_2
    · have hT1 : XT1.den (vv a0 a1 a2 a3) = .ofNat 3 := by show IntKind.wrap .i64 (1 + IntKind.wrap .i64 (Int.tmod a2 3)) = _; rw [m1]; rfl
      have qB := sB htab (GB_hold hO hO1 hO2 hT0 hT1) eB0_0_2
      rcases k2 with m2 | m2 | m2
      · have hT2 : XT2.den (vv a0 a1 a2 a3) = .ofNat 1 := by show IntKind.wrap .i64 (1 + IntKind.wrap .i64 (Int.tmod a3 3)) = _; rw [m2]; rfl
        have qC := sC htab (GC_hold hT0 hT1 hT2) eC0_2_0
        exact fin htab (GM_hold hU hO hT0 hT1 hT2) qU qB qC r0_0_2_0
      · have hT2 : XT2.den (vv a0 a1 a2 a3) = .ofNat 2 := by show IntKind.wrap .i64 (1 + IntKind.wrap .i64 (Int.tmod a3 3)) = _; rw [m2]; rfl
        have qC := sC htab (GC_hold hT0 hT1 hT2) eC0_2_1
        exact fin htab (GM_hold hU hO hT0 hT1 hT2) qU qB qC r0_0_2_1
      · have hT2 : XT2.den (vv a0 a1 a2 a3) = .ofNat 3 := by show IntKind.wrap .i64 (1 + IntKind.wrap .i64 (Int.tmod a3 3)) = _; rw [m2]; rfl
        have qC := sC htab (GC_hold hT0 hT1 hT2) eC0_2_2
        exact fin htab (GM_hold hU hO hT0 hT1 hT2) qU qB qC r0_0_2_2
  · have hT0 : XT0.den (vv a0 a1 a2 a3) = .ofNat 2 := by show IntKind.wrap .i64 (1 + IntKind.wrap .i64 (Int.tmod a1 3)) = _; rw [m0]; rfl
    have qU := sU htab (GU_hold hU hU1 hT0) eU0_1
    rcases k1 with m1 | m1 | m1
    · have hT1 : XT1.den (vv a0 a1 a2 a3) = .ofNat 1 := by show IntKind.wrap .i64 (1 + IntKind.wrap .i64 (Int.tmod a2 3)) = _; rw [m1]; rfl
      have qB := sB htab (GB_hold hO hO1 hO2 hT0 hT1) eB0_1_0
      rcases k2 with m2 | m2 | m2
      · have hT2 : XT2.den (vv a0 a1 a2 a3) = .ofNat 1 := by show IntKind.wrap .i64 (1 + IntKind.wrap .i64 (Int.tmod a3 3)) = _; rw [m2]; rfl
        have qC := sC htab (GC_hold hT0 hT1 hT2) eC1_0_0
        exact fin htab (GM_hold hU hO hT0 hT1 hT2) qU qB qC r0_1_0_0
      · have hT2 : XT2.den (vv a0 a1 a2 a3) = .ofNat 2 := by show IntKind.wrap .i64 (1 + IntKind.wrap .i64 (Int.tmod a3 3)) = _; rw [m2]; rfl
        have qC := sC htab (GC_hold hT0 hT1 hT2) eC1_0_1
        exact fin htab (GM_hold hU hO hT0 hT1 hT2) qU qB qC r0_1_0_1
      · have hT2 : XT2.den (vv a0 a1 a2 a3) = .ofNat 3 := by show IntKind.wrap .i64 (1 + IntKind.wrap .i64 (Int.tmod a3 3)) = _; rw [m2]; rfl
        have qC := sC htab (GC_hold hT0 hT1 hT2) eC1_0_2
        exact fin htab (GM_hold hU hO hT0 hT1 hT2) qU qB qC r0_1_0_2
    · have hT1 : XT1.den (vv a0 a1 a2 a3) = .ofNat 2 := by show IntKind.wrap .i64 (1 + IntKind.wrap .i64 (Int.tmod a2 3)) = _; rw [m1]; rfl
      have qB := sB htab (GB_hold hO hO1 hO2 hT0 hT1) eB0_1_1
      rcases k2 with m2 | m2 | m2
      · have hT2 : XT2.den (vv a0 a1 a2 a3) = .ofNat 1 := by show IntKind.wrap .i64 (1 + IntKind.wrap .i64 (Int.tmod a3 3)) = _; rw [m2]; rfl
        have qC := sC htab (GC_hold hT0 hT1 hT2) eC1_1_0
        exact fin htab (GM_hold hU hO hT0 hT1 hT2) qU qB qC r0_1_1_0
      · have hT2 : XT2.den (vv a0 a1 a2 a3) = .ofNat 2 := by show IntKind.wrap .i64 (1 + IntKind.wrap .i64 (Int.tmod a3 3)) = _; rw [m2]; rfl
        have qC := sC htab (GC_hold hT0 hT1 hT2) eC1_1_1
        exact fin htab (GM_hold hU hO hT0 hT1 hT2) qU qB qC r0_1_1_1
      · have hT2 : XT2.den (vv a0 a1 a2 a3) = .ofNat 3 := by show IntKind.wrap .i64 (1 + IntKind.wrap .i64 (Int.tmod a3 3)) = _; rw [m2]; rfl
        have qC := sC htab (GC_hold hT0 hT1 hT2) eC1_1_2
        exact fin htab (GM_hold hU hO hT0 hT1 hT2) qU qB qC r0_1_1_2
    · have hT1 : XT1.den (vv a0 a1 a2 a3) = .ofNat 3 := by show IntKind.wrap .i64 (1 + IntKind.wrap .i64 (Int.tmod a2 3)) = _; rw [m1]; rfl
      have qB := sB htab (GB_hold hO hO1 hO2 hT0 hT1) eB0_1_2
      rcases k2 with m2 | m2 | m2
      · have hT2 : XT2.den (vv a0 a1 a2 a3) = .ofNat 1 := by show IntKind.wrap .i64 (1 + IntKind.wrap .i64 (Int.tmod a3 3)) = _; rw [m2]; rfl
        have qC := sC htab (GC_hold hT0 hT1 hT2) eC1_2_0
        exact fin htab (GM_hold hU hO hT0 hT1 hT2) qU qB qC r0_1_2_0
      · have hT2 : XT2.den (vv a0 a1 a2 a3) = .ofNat 2 := by show IntKind.wrap .i64 (1 + IntKind.wrap .i64 (Int.tmod a3 3)) = _; rw [m2]; rfl
        have qC := sC htab (GC_hold hT0 hT1 hT2) eC1_2_1
        exact fin htab (GM_hold hU hO hT0 hT1 hT2) qU qB qC r0_1_2_1
      · have hT2 : XT2.den (vv a0 a1 a2 a3) = .ofNat 3 := by show IntKind.wrap .i64 (1 + IntKind.wrap .i64 (Int.tmod a3 3)) = _; rw [m2]; rfl
        have qC := sC htab (GC_hold hT0 hT1 hT2) eC1_2_2
        exact fin htab (GM_hold hU hO hT0 hT1 hT2) qU qB qC r0_1_2_2
  · have hT0 : XT0.den (vv a0 a1 a2 a3) = .ofNat 3 := by show IntKind.wrap .i64 (1 + IntKind.wrap .i64 (Int.tmod a1 3)) = _; rw [m0]; rfl
    have qU := sU htab (GU_hold hU hU1 hT0) eU0_2
    rcases k1 with m1 | m1 | m1
    · have hT1 : XT1.den (vv a0 a1 a2 a3) = .ofNat 1 := by show IntKind.wrap .i64 (1 + IntKind.wrap .i64 (Int.tmod a2 3)) = _; rw [m1]; rfl
      have qB := sB htab (GB_hold hO hO1 hO2 hT0 hT1) eB0_2_0
      rcases k2 with m2 | m2 | m2
      · have hT2 : XT2.den (vv a0 a1 a2 a3) = .ofNat 1 := by show IntKind.wrap .i64 (1 + IntKind.wrap .i64 (Int.tmod a3 3)) = _; rw [m2]; rfl
        have qC := sC htab (GC_hold hT0 hT1 hT2) eC2_0_0
        exact fin htab (GM_hold hU hO hT0 hT1 hT2) qU qB qC r0_2_0_0
      · have hT2 : XT2.den (vv a0 a1 a2 a3) = .ofNat 2 := by show IntKind.wrap .i64 (1 + IntKind.wrap .i64 (Int.tmod a3 3)) = _; rw [m2]; rfl
        have qC := sC htab (GC_hold hT0 hT1 hT2) eC2_0_1
        exact fin htab (GM_hold hU hO hT0 hT1 hT2) qU qB qC r0_2_0_1
      · have hT2 : XT2.den (vv a0 a1 a2 a3) = .ofNat 3 := by show IntKind.wrap .i64 (1 + IntKind.wrap .i64 (Int.tmod a3 3)) = _; rw [m2]; rfl
        have qC := sC htab (GC_hold hT0 hT1 hT2) eC2_0_2
        exact fin htab (GM_hold hU hO hT0 hT1 hT2) qU qB qC r0_2_0_2
    · have hT1 : XT1.den (vv a0 a1 a2 a3) = .ofNat 2 := by show IntKind.wrap .i64 (1 + IntKind.wrap .i64 (Int.tmod a2 3)) = _; rw [m1]; rfl
      have qB := sB htab (GB_hold hO hO1 hO2 hT0 hT1) eB0_2_1
      rcases k2 with m2 | m2 | m2
      · have hT2 : XT2.den (vv a0 a1 a2 a3) = .ofNat 1 := by show IntKind.wrap .i64 (1 + IntKind.wrap .i64 (Int.tmod a3 3)) = _; rw [m2]; rfl
        have qC := sC htab (GC_hold hT0 hT1 hT2) eC2_1_0
        exact fin htab (GM_hold hU hO hT0 hT1 hT2) qU qB qC r0_2_1_0
      · have hT2 : XT2.den (vv a0 a1 a2 a3) = .ofNat 2 := by show IntKind.wrap .i64 (1 + IntKind.wrap .i64 (Int.tmod a3 3)) = _; rw [m2]; rfl
        have qC := sC htab (GC_hold hT0 hT1 hT2) eC2_1_1
        exact fin htab (GM_hold hU hO hT0 hT1 hT2) qU qB qC r0_2_1_1
      · have hT2 : XT2.den (vv a0 a1 a2 a3) = .ofNat 3 := by show IntKind.wrap .i64 (1 + IntKind.wrap .i64 (Int.tmod a3 3)) = _; rw [m2]; rfl
        have qC := sC htab (GC_hold hT0 hT1 hT2) eC2_1_2
        exact fin htab (GM_hold hU hO hT0 hT1 hT2) qU qB qC r0_2_1_2
    · have hT1 : XT1.den (vv a0 a1 a2 a3) = .ofNat 3 := by show IntKind.wrap .i64 (1 + IntKind.wrap .i64 (Int.tmod a2 3)) = _; rw [m1]; rfl
      have qB := sB htab (GB_hold hO hO1 hO2 hT0 hT1) eB0_2_2
      rcases k2 with m2 | m2 | m2
      · have hT2 : XT2.den (vv a0 a1 a2 a3) = .ofNat 1 := by show IntKind.wrap .i64 (1 + IntKind.wrap .i64 (Int.tmod a3 3)) = _; rw [m2]; rfl
        have qC := sC htab (GC_hold hT0 hT1 hT2) eC2_2_0
        exact fin htab (GM_hold hU hO hT0 hT1 hT2) qU qB qC r0_2_2_0
      · have hT2 : XT2.den (vv a0 a1 a2 a3) = .ofNat 2 := by show IntKind.wrap .i64 (1 + IntKind.wrap .i64 (Int.tmod a3 3)) = _; rw [m2]; rfl
        have qC := sC htab (GC_hold hT0 hT1 hT2) eC2_2_1
        exact fin htab (GM_hold hU hO hT0 hT1 hT2) qU qB qC r0_2_2_1
      · have hT2 : XT2.den (vv a0 a1 a2 a3) = .ofNat 3 := by show IntKind.wrap .i64 (1 + IntKind.wrap .i64 (Int.tmod a3 3)) = _; rw [m2]; rfl
        have qC := sC htab (GC_hold hT0 hT1 hT2) eC2_2_2
        exact fin htab (GM_hold hU hO hT0 hT1 hT2) qU qB qC r0_2_2_2
theorem c1 (a0 a1 a2 a3 : Int) (b0 : (0 : Int) ≤ a0 ∧ a0 ≤ 255) (b1 : (0 : Int) ≤ a1 ∧ a1 ≤ 255) (b2 : (0 : Int) ≤ a2 ∧ a2 ≤ 255) (b3 : (0 : Int) ≤ a3 ∧ a3 ≤ 255) (ho : Int.tmod a0 20 = 1) (w : World) (htab : Lib.TabIs Tryz.prog w "internal/strconv.uint64pow10" .u64 Lib.pow10Tab) : Calls Tryz.prog 4 #[.int .u8 a0, .agg #[.int .u8 a1, .int .u8 a2, .int .u8 a3]] w fun e w' => e = .returned (.bool true) ∧ Kept w w' := by
  have hw : IntKind.wrap .i64 a0 = a0 := wrap_in .i64 a0 (show (-9223372036854775808 : Int) ≤ a0 ∧ a0 ≤ (9223372036854775807 : Int) by omega)
  have h5 : Int.tmod a0 5 = 1 := by
    rw [Int.tmod_eq_emod_of_nonneg b0.1] at ho ⊢
    omega
  have hU : XU.den (vv a0 a1 a2 a3) = .ofNat 2 := by show IntKind.wrap .i64 (1 + Int.tmod (IntKind.wrap .i64 a0) 5) = _; rw [hw, h5]; rfl
  have hU1 : XU1.den (vv a0 a1 a2 a3) = .ofNat 1 := by show IntKind.wrap .i64 (XU.den (vv a0 a1 a2 a3) - 1) = _; rw [hU]; rfl
  have hO : XO.den (vv a0 a1 a2 a3) = .ofNat 11 := by show IntKind.wrap .i64 (10 + Int.tmod (IntKind.wrap .i64 a0) 20) = _; rw [hw, ho]; rfl
  have hO1 : XO1.den (vv a0 a1 a2 a3) = .ofNat 1 := by show IntKind.wrap .i64 (XO.den (vv a0 a1 a2 a3) - 10) = _; rw [hO]; rfl
  have hO2 : XO2.den (vv a0 a1 a2 a3) = .negSucc 10 := by show IntKind.wrap .i64 (XO.den (vv a0 a1 a2 a3) - 22) = _; rw [hO]; rfl
  have k0 : Int.tmod a1 3 = 0 ∨ Int.tmod a1 3 = 1 ∨ Int.tmod a1 3 = 2 := by
    rw [Int.tmod_eq_emod_of_nonneg b1.1]
    omega
  have k1 : Int.tmod a2 3 = 0 ∨ Int.tmod a2 3 = 1 ∨ Int.tmod a2 3 = 2 := by
    rw [Int.tmod_eq_emod_of_nonneg b2.1]
    omega
  have k2 : Int.tmod a3 3 = 0 ∨ Int.tmod a3 3 = 1 ∨ Int.tmod a3 3 = 2 := by
    rw [Int.tmod_eq_emod_of_nonneg b3.1]
    omega
  rcases k0 with m0 | m0 | m0
  · have hT0 : XT0.den (vv a0 a1 a2 a3) = .ofNat 1 := by show IntKind.wrap .i64 (1 + IntKind.wrap .i64 (Int.tmod a1 3)) = _; rw [m0]; rfl
    have qU := sU htab (GU_hold hU hU1 hT0) eU1_0
    rcases k1 with m1 | m1 | m1
    · have hT1 : XT1.den (vv a0 a1 a2 a3) = .ofNat 1 := by show IntKind.wrap .i64 (1 + IntKind.wrap .i64 (Int.tmod a2 3)) = _; rw [m1]; rfl
      have qB := sB htab (GB_hold hO hO1 hO2 hT0 hT1) eB1_0_0
      rcases k2 with m2 | m2 | m2
      · have hT2 : XT2.den (vv a0 a1 a2 a3) = .ofNat 1 := by show IntKind.wrap .i64 (1 + IntKind.wrap .i64 (Int.tmod a3 3)) = _; rw [m2]; rfl
        have qC := sC htab (GC_hold hT0 hT1 hT2) eC0_0_0
        exact fin htab (GM_hold hU hO hT0 hT1 hT2) qU qB qC r1_0_0_0
      · have hT2 : XT2.den (vv a0 a1 a2 a3) = .ofNat 2 := by show IntKind.wrap .i64 (1 + IntKind.wrap .i64 (Int.tmod a3 3)) = _; rw [m2]; rfl
        have qC := sC htab (GC_hold hT0 hT1 hT2) eC0_0_1
        exact fin htab (GM_hold hU hO hT0 hT1 hT2) qU qB qC r1_0_0_1
      · have hT2 : XT2.den (vv a0 a1 a2 a3) = .ofNat 3 := by show IntKind.wrap .i64 (1 + IntKind.wrap .i64 (Int.tmod a3 3)) = _; rw [m2]; rfl
        have qC := sC htab (GC_hold hT0 hT1 hT2) eC0_0_2
        exact fin htab (GM_hold hU hO hT0 hT1 hT2) qU qB qC r1_0_0_2
    · have hT1 : XT1.den (vv a0 a1 a2 a3) = .ofNat 2 := by show IntKind.wrap .i64 (1 + IntKind.wrap .i64 (Int.tmod a2 3)) = _; rw [m1]; rfl
      have qB := sB htab (GB_hold hO hO1 hO2 hT0 hT1) eB1_0_1
      rcases k2 with m2 | m2 | m2
      · have hT2 : XT2.den (vv a0 a1 a2 a3) = .ofNat 1 := by show IntKind.wrap .i64 (1 + IntKind.wrap .i64 (Int.tmod a3 3)) = _; rw [m2]; rfl
        have qC := sC htab (GC_hold hT0 hT1 hT2) eC0_1_0
        exact fin htab (GM_hold hU hO hT0 hT1 hT2) qU qB qC r1_0_1_0
      · have hT2 : XT2.den (vv a0 a1 a2 a3) = .ofNat 2 := by show IntKind.wrap .i64 (1 + IntKind.wrap .i64 (Int.tmod a3 3)) = _; rw [m2]; rfl
        have qC := sC htab (GC_hold hT0 hT1 hT2) eC0_1_1
        exact fin htab (GM_hold hU hO hT0 hT1 hT2) qU qB qC r1_0_1_1
      · have hT2 : XT2.den (vv a0 a1 a2 a3) = .ofNat 3 := by show IntKind.wrap .i64 (1 + IntKind.wrap .i64 (Int.tmod a3 3)) = _; rw [m2]; rfl
        have qC := sC htab (GC_hold hT0 hT1 hT2) eC0_1_2
        exact fin htab (GM_hold hU hO hT0 hT1 hT2) qU qB qC r1_0_1_2
    · have hT1 : XT1.den (vv a0 a1 a2 a3) = .ofNat 3 := by show IntKind.wrap .i64 (1 + IntKind.wrap .i64 (Int.tmod a2 3)) = _; rw [m1]; rfl
      have qB := sB htab (GB_hold hO hO1 hO2 hT0 hT1) eB1_0_2
      rcases k2 with m2 | m2 | m2
      · have hT2 : XT2.den (vv a0 a1 a2 a3) = .ofNat 1 := by show IntKind.wrap .i64 (1 + IntKind.wrap .i64 (Int.tmod a3 3)) = _; rw [m2]; rfl
        have qC := sC htab (GC_hold hT0 hT1 hT2) eC0_2_0
        exact fin htab (GM_hold hU hO hT0 hT1 hT2) qU qB qC r1_0_2_0
      · have hT2 : XT2.den (vv a0 a1 a2 a3) = .ofNat 2 := by show IntKind.wrap .i64 (1 + IntKind.wrap .i64 (Int.tmod a3 3)) = _; rw [m2]; rfl
        have qC := sC htab (GC_hold hT0 hT1 hT2) eC0_2_1
        exact fin htab (GM_hold hU hO hT0 hT1 hT2) qU qB qC r1_0_2_1
      · have hT2 : XT2.den (vv a0 a1 a2 a3) = .ofNat 3 := by show IntKind.wrap .i64 (1 + IntKind.wrap .i64 (Int.tmod a3 3)) = _; rw [m2]; rfl
        have qC := sC htab (GC_hold hT0 hT1 hT2) eC0_2_2
        exact fin htab (GM_hold hU hO hT0 hT1 hT2) qU qB qC r1_0_2_2
  · have hT0 : XT0.den (vv a0 a1 a2 a3) = .ofNat 2 := by show IntKind.wrap .i64 (1 + IntKind.wrap .i64 (Int.tmod a1 3)) = _; rw [m0]; rfl
    have qU := sU htab (GU_hold hU hU1 hT0) eU1_1
    rcases k1 with m1 | m1 | m1
    · have hT1 : XT1.den (vv a0 a1 a2 a3) = .ofNat 1 := by show IntKind.wrap .i64 (1 + IntKind.wrap .i64 (Int.tmod a2 3)) = _; rw [m1]; rfl
      have qB := sB htab (GB_hold hO hO1 hO2 hT0 hT1) eB1_1_0
      rcases k2 with m2 | m2 | m2
      · have hT2 : XT2.den (vv a0 a1 a2 a3) = .ofNat 1 := by show IntKind.wrap .i64 (1 + IntKind.wrap .i64 (Int.tmod a3 3)) = _; rw [m2]; rfl
        have qC := sC htab (GC_hold hT0 hT1 hT2) eC1_0_0
        exact fin htab (GM_hold hU hO hT0 hT1 hT2) qU qB qC r1_1_0_0
      · have hT2 : XT2.den (vv a0 a1 a2 a3) = .ofNat 2 := by show IntKind.wrap .i64 (1 + IntKind.wrap .i64 (Int.tmod a3 3)) = _; rw [m2]; rfl
        have qC := sC htab (GC_hold hT0 hT1 hT2) eC1_0_1
        exact fin htab (GM_hold hU hO hT0 hT1 hT2) qU qB qC r1_1_0_1
      · have hT2 : XT2.den (vv a0 a1 a2 a3) = .ofNat 3 := by show IntKind.wrap .i64 (1 + IntKind.wrap .i64 (Int.tmod a3 3)) = _; rw [m2]; rfl
        have qC := sC htab (GC_hold hT0 hT1 hT2) eC1_0_2
        exact fin htab (GM_hold hU hO hT0 hT1 hT2) qU qB qC r1_1_0_2
    · have hT1 : XT1.den (vv a0 a1 a2 a3) = .ofNat 2 := by show IntKind.wrap .i64 (1 + IntKind.wrap .i64 (Int.tmod a2 3)) = _; rw [m1]; rfl
      have qB := sB htab (GB_hold hO hO1 hO2 hT0 hT1) eB1_1_1
      rcases k2 with m2 | m2 | m2
      · have hT2 : XT2.den (vv a0 a1 a2 a3) = .ofNat 1 := by show IntKind.wrap .i64 (1 + IntKind.wrap .i64 (Int.tmod a3 3)) = _; rw [m2]; rfl
        have qC := sC htab (GC_hold hT0 hT1 hT2) eC1_1_0
        exact fin htab (GM_hold hU hO hT0 hT1 hT2) qU qB qC r1_1_1_0
      · have hT2 : XT2.den (vv a0 a1 a2 a3) = .ofNat 2 := by show IntKind.wrap .i64 (1 + IntKind.wrap .i64 (Int.tmod a3 3)) = _; rw [m2]; rfl
        have qC := sC htab (GC_hold hT0 hT1 hT2) eC1_1_1
        exact fin htab (GM_hold hU hO hT0 hT1 hT2) qU qB qC r1_1_1_1
      · have hT2 : XT2.den (vv a0 a1 a2 a3) = .ofNat 3 := by show IntKind.wrap .i64 (1 + IntKind.wrap .i64 (Int.tmod a3 3)) = _; rw [m2]; rfl
        have qC := sC htab (GC_hold hT0 hT1 hT2) eC1_1_2
        exact fin htab (GM_hold hU hO hT0 hT1 hT2) qU qB qC r1_1_1_2
    · have hT1 : XT1.den (vv a0 a1 a2 a3) = .ofNat 3 := by show IntKind.wrap .i64 (1 + IntKind.wrap .i64 (Int.tmod a2 3)) = _; rw [m1]; rfl
      have qB := sB htab (GB_hold hO hO1 hO2 hT0 hT1) eB1_1_2
      rcases k2 with m2 | m2 | m2
      · have hT2 : XT2.den (vv a0 a1 a2 a3) = .ofNat 1 := by show IntKind.wrap .i64 (1 + IntKind.wrap .i64 (Int.tmod a3 3)) = _; rw [m2]; rfl
        have qC := sC htab (GC_hold hT0 hT1 hT2) eC1_2_0
        exact fin htab (GM_hold hU hO hT0 hT1 hT2) qU qB qC r1_1_2_0
      · have hT2 : XT2.den (vv a0 a1 a2 a3) = .ofNat 2 := by show IntKind.wrap .i64 (1 + IntKind.wrap .i64 (Int.tmod a3 3)) = _; rw [m2]; rfl
        have qC := sC htab (GC_hold hT0 hT1 hT2) eC1_2_1
        exact fin htab (GM_hold hU hO hT0 hT1 hT2) qU qB qC r1_1_2_1
      · have hT2 : XT2.den (vv a0 a1 a2 a3) = .ofNat 3 := by show IntKind.wrap .i64 (1 + IntKind.wrap .i64 (Int.tmod a3 3)) = _; rw [m2]; rfl
        have qC := sC htab (GC_hold hT0 hT1 hT2) eC1_2_2
        exact fin htab (GM_hold hU hO hT0 hT1 hT2) qU qB qC r1_1_2_2
  · have hT0 : XT0.den (vv a0 a1 a2 a3) = .ofNat 3 := by show IntKind.wrap .i64 (1 + IntKind.wrap .i64 (Int.tmod a1 3)) = _; rw [m0]; rfl
    have qU := sU htab (GU_hold hU hU1 hT0) eU1_2
    rcases k1 with m1 | m1 | m1
    · have hT1 : XT1.den (vv a0 a1 a2 a3) = .ofNat 1 := by show IntKind.wrap .i64 (1 + IntKind.wrap .i64 (Int.tmod a2 3)) = _; rw [m1]; rfl
      have qB := sB htab (GB_hold hO hO1 hO2 hT0 hT1) eB1_2_0
      rcases k2 with m2 | m2 | m2
      · have hT2 : XT2.den (vv a0 a1 a2 a3) = .ofNat 1 := by show IntKind.wrap .i64 (1 + IntKind.wrap .i64 (Int.tmod a3 3)) = _; rw [m2]; rfl
        have qC := sC htab (GC_hold hT0 hT1 hT2) eC2_0_0
        exact fin htab (GM_hold hU hO hT0 hT1 hT2) qU qB qC r1_2_0_0
      · have hT2 : XT2.den (vv a0 a1 a2 a3) = .ofNat 2 := by show IntKind.wrap .i64 (1 + IntKind.wrap .i64 (Int.tmod a3 3)) = _; rw [m2]; rfl
        have qC := sC htab (GC_hold hT0 hT1 hT2) eC2_0_1
        exact fin htab (GM_hold hU hO hT0 hT1 hT2) qU qB qC r1_2_0_1
      · have hT2 : XT2.den (vv a0 a1 a2 a3) = .ofNat 3 := by show IntKind.wrap .i64 (1 + IntKind.wrap .i64 (Int.tmod a3 3)) = _; rw [m2]; rfl
        have qC := sC htab (GC_hold hT0 hT1 hT2) eC2_0_2
        exact fin htab (GM_hold hU hO hT0 hT1 hT2) qU qB qC r1_2_0_2
    · have hT1 : XT1.den (vv a0 a1 a2 a3) = .ofNat 2 := by show IntKind.wrap .i64 (1 + IntKind.wrap .i64 (Int.tmod a2 3)) = _; rw [m1]; rfl
      have qB := sB htab (GB_hold hO hO1 hO2 hT0 hT1) eB1_2_1
      rcases k2 with m2 | m2 | m2
      · have hT2 : XT2.den (vv a0 a1 a2 a3) = .ofNat 1 := by show IntKind.wrap .i64 (1 + IntKind.wrap .i64 (Int.tmod a3 3)) = _; rw [m2]; rfl
        have qC := sC htab (GC_hold hT0 hT1 hT2) eC2_1_0
        exact fin htab (GM_hold hU hO hT0 hT1 hT2) qU qB qC r1_2_1_0
      · have hT2 : XT2.den (vv a0 a1 a2 a3) = .ofNat 2 := by show IntKind.wrap .i64 (1 + IntKind.wrap .i64 (Int.tmod a3 3)) = _; rw [m2]; rfl
        have qC := sC htab (GC_hold hT0 hT1 hT2) eC2_1_1
        exact fin htab (GM_hold hU hO hT0 hT1 hT2) qU qB qC r1_2_1_1
      · have hT2 : XT2.den (vv a0 a1 a2 a3) = .ofNat 3 := by show IntKind.wrap .i64 (1 + IntKind.wrap .i64 (Int.tmod a3 3)) = _; rw [m2]; rfl
        have qC := sC htab (GC_hold hT0 hT1 hT2) eC2_1_2
        exact fin htab (GM_hold hU hO hT0 hT1 hT2) qU qB qC r1_2_1_2
    · have hT1 : XT1.den (vv a0 a1 a2 a3) = .ofNat 3 := by show IntKind.wrap .i64 (1 + IntKind.wrap .i64 (Int.tmod a2 3)) = _; rw [m1]; rfl
      have qB := sB htab (GB_hold hO hO1 hO2 hT0 hT1) eB1_2_2
      rcases k2 with m2 | m2 | m2
      · have hT2 : XT2.den (vv a0 a1 a2 a3) = .ofNat 1 := by show IntKind.wrap .i64 (1 + IntKind.wrap .i64 (Int.tmod a3 3)) = _; rw [m2]; rfl
        have qC := sC htab (GC_hold hT0 hT1 hT2) eC2_2_0
        exact fin htab (GM_hold hU hO hT0 hT1 hT2) qU qB qC r1_2_2_0
      · have hT2 : XT2.den (vv a0 a1 a2 a3) = .ofNat 2 := by show IntKind.wrap .i64 (1 + IntKind.wrap .i64 (Int.tmod a3 3)) = _; rw [m2]; rfl
        have qC := sC htab (GC_hold hT0 hT1 hT2) eC2_2_1
        exact fin htab (GM_hold hU hO hT0 hT1 hT2) qU qB qC r1_2_2_1
      · have hT2 : XT2.den (vv a0 a1 a2 a3) = .ofNat 3 := by show IntKind.wrap .i64 (1 + IntKind.wrap .i64 (Int.tmod a3 3)) = _; rw [m2]; rfl
        have qC := sC htab (GC_hold hT0 hT1 hT2) eC2_2_2
        exact fin htab (GM_hold hU hO hT0 hT1 hT2) qU qB qC r1_2_2_2
theorem c2 (a0 a1 a2 a3 : Int) (b0 : (0 : Int) ≤ a0 ∧ a0 ≤ 255) (b1 : (0 : Int) ≤ a1 ∧ a1 ≤ 255) (b2 : (0 : Int) ≤ a2 ∧ a2 ≤ 255) (b3 : (0 : Int) ≤ a3 ∧ a3 ≤ 255) (ho : Int.tmod a0 20 = 2) (w : World) (htab : Lib.TabIs Tryz.prog w "internal/strconv.uint64pow10" .u64 Lib.pow10Tab) : Calls Tryz.prog 4 #[.int .u8 a0, .agg #[.int .u8 a1, .int .u8 a2, .int .u8 a3]] w fun e w' => e = .returned (.bool true) ∧ Kept w w' := by
  have hw : IntKind.wrap .i64 a0 = a0 := wrap_in .i64 a0 (show (-9223372036854775808 : Int) ≤ a0 ∧ a0 ≤ (9223372036854775807 : Int) by omega)
  have h5 : Int.tmod a0 5 = 2 := by
    rw [Int.tmod_eq_emod_of_nonneg b0.1] at ho ⊢
    omega
  have hU : XU.den (vv a0 a1 a2 a3) = .ofNat 3 := by show IntKind.wrap .i64 (1 + Int.tmod (IntKind.wrap .i64 a0) 5) = _; rw [hw, h5]; rfl
  have hU1 : XU1.den (vv a0 a1 a2 a3) = .ofNat 2 := by show IntKind.wrap .i64 (XU.den (vv a0 a1 a2 a3) - 1) = _; rw [hU]; rfl
  have hO : XO.den (vv a0 a1 a2 a3) = .ofNat 12 := by show IntKind.wrap .i64 (10 + Int.tmod (IntKind.wrap .i64 a0) 20) = _; rw [hw, ho]; rfl
  have hO1 : XO1.den (vv a0 a1 a2 a3) = .ofNat 2 := by show IntKind.wrap .i64 (XO.den (vv a0 a1 a2 a3) - 10) = _; rw [hO]; rfl
  have hO2 : XO2.den (vv a0 a1 a2 a3) = .negSucc 9 := by show IntKind.wrap .i64 (XO.den (vv a0 a1 a2 a3) - 22) = _; rw [hO]; rfl
  have k0 : Int.tmod a1 3 = 0 ∨ Int.tmod a1 3 = 1 ∨ Int.tmod a1 3 = 2 := by
    rw [Int.tmod_eq_emod_of_nonneg b1.1]
    omega
  have k1 : Int.tmod a2 3 = 0 ∨ Int.tmod a2 3 = 1 ∨ Int.tmod a2 3 = 2 := by
    rw [Int.tmod_eq_emod_of_nonneg b2.1]
    omega
  have k2 : Int.tmod a3 3 = 0 ∨ Int.tmod a3 3 = 1 ∨ Int.tmod a3 3 = 2 := by
    rw [Int.tmod_eq_emod_of_nonneg b3.1]
    omega
  rcases k0 with m0 | m0 | m0
  · have hT0 : XT0.den (vv a0 a1 a2 a3) = .ofNat 1 := by show IntKind.wrap .i64 (1 + IntKind.wrap .i64 (Int.tmod a1 3)) = _; rw [m0]; rfl
    have qU := sU htab (GU_hold hU hU1 hT0) eU2_0
    rcases k1 with m1 | m1 | m1
    · have hT1 : XT1.den (vv a0 a1 a2 a3) = .ofNat 1 := by show IntKind.wrap .i64 (1 + IntKind.wrap .i64 (Int.tmod a2 3)) = _; rw [m1]; rfl
      have qB := sB htab (GB_hold hO hO1 hO2 hT0 hT1) eB2_0_0
      rcases k2 with m2 | m2 | m2
      · have hT2 : XT2.den (vv a0 a1 a2 a3) = .ofNat 1 := by show IntKind.wrap .i64 (1 + IntKind.wrap .i64 (Int.tmod a3 3)) = _; rw [m2]; rfl
        have qC := sC htab (GC_hold hT0 hT1 hT2) eC0_0_0
        exact fin htab (GM_hold hU hO hT0 hT1 hT2) qU qB qC r2_0_0_0
      · have hT2 : XT2.den (vv a0 a1 a2 a3) = .ofNat 2 := by show IntKind.wrap .i64 (1 + IntKind.wrap .i64 (Int.tmod a3 3)) = _; rw [m2]; rfl
        have qC := sC htab (GC_hold hT0 hT1 hT2) eC0_0_1
        exact fin htab (GM_hold hU hO hT0 hT1 hT2) qU qB qC r2_0_0_1
      · have hT2 : XT2.den (vv a0 a1 a2 a3) = .ofNat 3 := by show IntKind.wrap .i64 (1 + IntKind.wrap .i64 (Int.tmod a3 3)) = _; rw [m2]; rfl
        have qC := sC htab (GC_hold hT0 hT1 hT2) eC0_0_2
        exact fin htab (GM_hold hU hO hT0 hT1 hT2) qU qB qC r2_0_0_2
    · have hT1 : XT1.den (vv a0 a1 a2 a3) = .ofNat 2 := by show IntKind.wrap .i64 (1 + IntKind.wrap .i64 (Int.tmod a2 3)) = _; rw [m1]; rfl
      have qB := sB htab (GB_hold hO hO1 hO2 hT0 hT1) eB2_0_1
      rcases k2 with m2 | m2 | m2
      · have hT2 : XT2.den (vv a0 a1 a2 a3) = .ofNat 1 := by show IntKind.wrap .i64 (1 + IntKind.wrap .i64 (Int.tmod a3 3)) = _; rw [m2]; rfl
        have qC := sC htab (GC_hold hT0 hT1 hT2) eC0_1_0
        exact fin htab (GM_hold hU hO hT0 hT1 hT2) qU qB qC r2_0_1_0
      · have hT2 : XT2.den (vv a0 a1 a2 a3) = .ofNat 2 := by show IntKind.wrap .i64 (1 + IntKind.wrap .i64 (Int.tmod a3 3)) = _; rw [m2]; rfl
        have qC := sC htab (GC_hold hT0 hT1 hT2) eC0_1_1
        exact fin htab (GM_hold hU hO hT0 hT1 hT2) qU qB qC r2_0_1_1
      · have hT2 : XT2.den (vv a0 a1 a2 a3) = .ofNat 3 := by show IntKind.wrap .i64 (1 + IntKind.wrap .i64 (Int.tmod a3 3)) = _; rw [m2]; rfl
        have qC := sC htab (GC_hold hT0 hT1 hT2) eC0_1_2
        exact fin htab (GM_hold hU hO hT0 hT1 hT2) qU qB qC r2_0_1_2
    · have hT1 : XT1.den (vv a0 a1 a2 a3) = .ofNat 3 := by show IntKind.wrap .i64 (1 + IntKind.wrap .i64 (Int.tmod a2 3)) = _; rw [m1]; rfl
      have qB := sB htab (GB_hold hO hO1 hO2 hT0 hT1) eB2_0_2
      rcases k2 with m2 | m2 | m2
      · have hT2 : XT2.den (vv a0 a1 a2 a3) = .ofNat 1 := by show IntKind.wrap .i64 (1 + IntKind.wrap .i64 (Int.tmod a3 3)) = _; rw [m2]; rfl
        have qC := sC htab (GC_hold hT0 hT1 hT2) eC0_2_0
        exact fin htab (GM_hold hU hO hT0 hT1 hT2) qU qB qC r2_0_2_0
      · have hT2 : XT2.den (vv a0 a1 a2 a3) = .ofNat 2 := by show IntKind.wrap .i64 (1 + IntKind.wrap .i64 (Int.tmod a3 3)) = _; rw [m2]; rfl
        have qC := sC htab (GC_hold hT0 hT1 hT2) eC0_2_1
        exact fin htab (GM_hold hU hO hT0 hT1 hT2) qU qB qC r2_0_2_1
      · have hT2 : XT2.den (vv a0 a1 a2 a3) = .ofNat 3 := by show IntKind.wrap .i64 (1 + IntKind.wrap .i64 (Int.tmod a3 3)) = _; rw [m2]; rfl
        have qC := sC htab (GC_hold hT0 hT1 hT2) eC0_2_2
        exact fin htab (GM_hold hU hO hT0 hT1 hT2) qU qB qC r2_0_2_2
  · have hT0 : XT0.den (vv a0 a1 a2 a3) = .ofNat 2 := by show IntKind.wrap .i64 (1 + IntKind.wrap .i64 (Int.tmod a1 3)) = _; rw [m0]; rfl
    have qU := sU htab (GU_hold hU hU1 hT0) eU2_1
    rcases k1 with m1 | m1 | m1
    · have hT1 : XT1.den (vv a0 a1 a2 a3) = .ofNat 1 := by show IntKind.wrap .i64 (1 + IntKind.wrap .i64 (Int.tmod a2 3)) = _; rw [m1]; rfl
      have qB := sB htab (GB_hold hO hO1 hO2 hT0 hT1) eB2_1_0
      rcases k2 with m2 | m2 | m2
      · have hT2 : XT2.den (vv a0 a1 a2 a3) = .ofNat 1 := by show IntKind.wrap .i64 (1 + IntKind.wrap .i64 (Int.tmod a3 3)) = _; rw [m2]; rfl
        have qC := sC htab (GC_hold hT0 hT1 hT2) eC1_0_0
        exact fin htab (GM_hold hU hO hT0 hT1 hT2) qU qB qC r2_1_0_0
      · have hT2 : XT2.den (vv a0 a1 a2 a3) = .ofNat 2 := by show IntKind.wrap .i64 (1 + IntKind.wrap .i64 (Int.tmod a3 3)) = _; rw [m2]; rfl
        have qC := sC htab (GC_hold hT0 hT1 hT2) eC1_0_1
        exact fin htab (GM_hold hU hO hT0 hT1 hT2) qU qB qC r2_1_0_1
      · have hT2 : XT2.den (vv a0 a1 a2 a3) = .ofNat 3 := by show IntKind.wrap .i64 (1 + IntKind.wrap .i64 (Int.tmod a3 3)) = _; rw [m2]; rfl
        have qC := sC htab (GC_hold hT0 hT1 hT2) eC1_0_2
        exact fin htab (GM_hold hU hO hT0 hT1 hT2) qU qB qC r2_1_0_2
    · have hT1 : XT1.den (vv a0 a1 a2 a3) = .ofNat 2 := by show IntKind.wrap .i64 (1 + IntKind.wrap .i64 (Int.tmod a2 3)) = _; rw [m1]; rfl
      have qB := sB htab (GB_hold hO hO1 hO2 hT0 hT1) eB2_1_1
      rcases k2 with m2 | m2 | m2
      · have hT2 : XT2.den (vv a0 a1 a2 a3) = .ofNat 1 := by show IntKind.wrap .i64 (1 + IntKind.wrap .i64 (Int.tmod a3 3)) = _; rw [m2]; rfl
        have qC := sC htab (GC_hold hT0 hT1 hT2) eC1_1_0
        exact fin htab (GM_hold hU hO hT0 hT1 hT2) qU qB qC r2_1_1_0
      · have hT2 : XT2.den (vv a0 a1 a2 a3) = .ofNat 2 := by show IntKind.wrap .i64 (1 + IntKind.wrap .i64 (Int.tmod a3 3)) = _; rw [m2]; rfl
        have qC := sC htab (GC_hold hT0 hT1 hT2) eC1_1_1
        exact fin htab (GM_hold hU hO hT0 hT1 hT2) qU qB qC r2_1_1_1
      · have hT2 : XT2.den (vv a0 a1 a2 a3) = .ofNat 3 := by show IntKind.wrap .i64 (1 + IntKind.wrap .i64 (Int.tmod a3 3)) = _; rw [m2]; rfl
        have qC := sC htab (GC_hold hT0 hT1 hT2) eC1_1_2
        exact fin htab (GM_hold hU hO hT0 hT1 hT2) qU qB qC r2_1_1_2
    · have hT1 : XT1.den (vv a0 a1 a2 a3) = .ofNat 3 := by show IntKind.wrap .i64 (1 + IntKind.wrap .i64 (Int.tmod a2 3)) = _; rw [m1]; rfl
      have qB := sB htab (GB_hold hO hO1 hO2 hT0 hT1) eB2_1_2
      rcases k2 with m2 | m2 | m2
      · have hT2 : XT2.den (vv a0 a1 a2 a3) = .ofNat 1 := by show IntKind.wrap .i64 (1 + IntKind.wrap .i64 (Int.tmod a3 3)) = _; rw [m2]; rfl
        have qC := sC htab (GC_hold hT0 hT1 hT2) eC1_2_0
        exact fin htab (GM_hold hU hO hT0 hT1 hT2) qU qB qC r2_1_2_0
      · have hT2 : XT2.den (vv a0 a1 a2 a3) = .ofNat 2 := by show IntKind.wrap .i64 (1 + IntKind.wrap .i64 (Int.tmod a3 3)) = _; rw [m2]; rfl
        have qC := sC htab (GC_hold hT0 hT1 hT2) eC1_2_1
        exact fin htab (GM_hold hU hO hT0 hT1 hT2) qU qB qC r2_1_2_1
      · have hT2 : XT2.den (vv a0 a1 a2 a3) = .ofNat 3 := by show IntKind.wrap .i64 (1 + IntKind.wrap .i64 (Int.tmod a3 3)) = _; rw [m2]; rfl
        have qC := sC htab (GC_hold hT0 hT1 hT2) eC1_2_2
        exact fin htab (GM_hold hU hO hT0 hT1 hT2) qU qB qC r2_1_2_2
  · have hT0 : XT0.den (vv a0 a1 a2 a3) = .ofNat 3 := by show IntKind.wrap .i64 (1 + IntKind.wrap .i64 (Int.tmod a1 3)) = _; rw [m0]; rfl
    have qU := sU htab (GU_hold hU hU1 hT0) eU2_2
    rcases k1 with m1 | m1 | m1
    · have hT1 : XT1.den (vv a0 a1 a2 a3) = .ofNat 1 := by show IntKind.wrap .i64 (1 + IntKind.wrap .i64 (Int.tmod a2 3)) = _; rw [m1]; rfl
      have qB := sB htab (GB_hold hO hO1 hO2 hT0 hT1) eB2_2_0
      rcases k2 with m2 | m2 | m2
      · have hT2 : XT2.den (vv a0 a1 a2 a3) = .ofNat 1 := by show IntKind.wrap .i64 (1 + IntKind.wrap .i64 (Int.tmod a3 3)) = _; rw [m2]; rfl
        have qC := sC htab (GC_hold hT0 hT1 hT2) eC2_0_0
        exact fin htab (GM_hold hU hO hT0 hT1 hT2) qU qB qC r2_2_0_0
      · have hT2 : XT2.den (vv a0 a1 a2 a3) = .ofNat 2 := by show IntKind.wrap .i64 (1 + IntKind.wrap .i64 (Int.tmod a3 3)) = _; rw [m2]; rfl
        have qC := sC htab (GC_hold hT0 hT1 hT2) eC2_0_1
        exact fin htab (GM_hold hU hO hT0 hT1 hT2) qU qB qC r2_2_0_1
      · have hT2 : XT2.den (vv a0 a1 a2 a3) = .ofNat 3 := by show IntKind.wrap .i64 (1 + IntKind.wrap .i64 (Int.tmod a3 3)) = _; rw [m2]; rfl
        have qC := sC htab (GC_hold hT0 hT1 hT2) eC2_0_2
        exact fin htab (GM_hold hU hO hT0 hT1 hT2) qU qB qC r2_2_0_2
    · have hT1 : XT1.den (vv a0 a1 a2 a3) = .ofNat 2 := by show IntKind.wrap .i64 (1 + IntKind.wrap .i64 (Int.tmod a2 3)) = _; rw [m1]; rfl
      have qB := sB htab (GB_hold hO hO1 hO2 hT0 hT1) eB2_2_1
      rcases k2 with m2 | m2 | m2
      · have hT2 : XT2.den (vv a0 a1 a2 a3) = .ofNat 1 := by show IntKind.wrap .i64 (1 + IntKind.wrap .i64 (Int.tmod a3 3)) = _; rw [m2]; rfl
        have qC := sC htab (GC_hold hT0 hT1 hT2) eC2_1_0
        exact fin htab (GM_hold hU hO hT0 hT1 hT2) qU qB qC r2_2_1_0
      · have hT2 : XT2.den (vv a0 a1 a2 a3) = .ofNat 2 := by show IntKind.wrap .i64 (1 + IntKind.wrap .i64 (Int.tmod a3 3)) = _; rw [m2]; rfl
        have qC := sC htab (GC_hold hT0 hT1 hT2) eC2_1_1
        exact fin htab (GM_hold hU hO hT0 hT1 hT2) qU qB qC r2_2_1_1
      · have hT2 : XT2.den (vv a0 a1 a2 a3) = .ofNat 3 := by show IntKind.wrap .i64 (1 + IntKind.wrap .i64 (Int.tmod a3 3)) = _; rw [m2]; rfl
        have qC := sC htab (GC_hold hT0 hT1 hT2) eC2_1_2
        exact fin htab (GM_hold hU hO hT0 hT1 hT2) qU qB qC r2_2_1_2
    · have hT1 : XT1.den (vv a0 a1 a2 a3) = .ofNat 3 := by show IntKind.wrap .i64 (1 + IntKind.wrap .i64 (Int.tmod a2 3)) = _; rw [m1]; rfl
      have qB := sB htab (GB_hold hO hO1 hO2 hT0 hT1) eB2_2_2
      rcases k2 with m2 | m2 | m2
      · have hT2 : XT2.den (vv a0 a1 a2 a3) = .ofNat 1 := by show IntKind.wrap .i64 (1 + IntKind.wrap .i64 (Int.tmod a3 3)) = _; rw [m2]; rfl
        have qC := sC htab (GC_hold hT0 hT1 hT2) eC2_2_0
        exact fin htab (GM_hold hU hO hT0 hT1 hT2) qU qB qC r2_2_2_0
      · have hT2 : XT2.den (vv a0 a1 a2 a3) = .ofNat 2 := by show IntKind.wrap .i64 (1 + IntKind.wrap .i64 (Int.tmod a3 3)) = _; rw [m2]; rfl
        have qC := sC htab (GC_hold hT0 hT1 hT2) eC2_2_1
        exact fin htab (GM_hold hU hO hT0 hT1 hT2) qU qB qC r2_2_2_1
      · have hT2 : XT2.den (vv a0 a1 a2 a3) = .ofNat 3 := by show IntKind.wrap .i64 (1 + IntKind.wrap .i64 (Int.tmod a3 3)) = _; rw [m2]; rfl
        have qC := sC htab (GC_hold hT0 hT1 hT2) eC2_2_2
        exact fin htab (GM_hold hU hO hT0 hT1 hT2) qU qB qC r2_2_2_2
theorem c3 (a0 a1 a2 a3 : Int) (b0 : (0 : Int) ≤ a0 ∧ a0 ≤ 255) (b1 : (0 : Int) ≤ a1 ∧ a1 ≤ 255) (b2 : (0 : Int) ≤ a2 ∧ a2 ≤ 255) (b3 : (0 : Int) ≤ a3 ∧ a3 ≤ 255) (ho : Int.tmod a0 20 = 3) (w : World) (htab : Lib.TabIs Tryz.prog w "internal/strconv.uint64pow10" .u64 Lib.pow10Tab) : Calls Tryz.prog 4 #[.int .u8 a0, .agg #[.int .u8 a1, .int .u8 a2, .int .u8 a3]] w fun e w' => e = .returned (.bool true) ∧ Kept w w' := by
  have hw : IntKind.wrap .i64 a0 = a0 := wrap_in .i64 a0 (show (-9223372036854775808 : Int) ≤ a0 ∧ a0 ≤ (9223372036854775807 : Int) by omega)
  have h5 : Int.tmod a0 5 = 3 := by
    rw [Int.tmod_eq_emod_of_nonneg b0.1] at ho ⊢
    omega
  have hU : XU.den (vv a0 a1 a2 a3) = .ofNat 4 := by show IntKind.wrap .i64 (1 + Int.tmod (IntKind.wrap .i64 a0) 5) = _; rw [hw, h5]; rfl
  have hU1 : XU1.den (vv a0 a1 a2 a3) = .ofNat 3 := by show IntKind.wrap .i64 (XU.den (vv a0 a1 a2 a3) - 1) = _; rw [hU]; rfl
  have hO : XO.den (vv a0 a1 a2 a3) = .ofNat 13 := by show IntKind.wrap .i64 (10 + Int.tmod (IntKind.wrap .i64 a0) 20) = _; rw [hw, ho]; rfl
  have hO1 : XO1.den (vv a0 a1 a2 a3) = .ofNat 3 := by show IntKind.wrap .i64 (XO.den (vv a0 a1 a2 a3) - 10) = _; rw [hO]; rfl
  have hO2 : XO2.den (vv a0 a1 a2 a3) = .negSucc 8 := by show IntKind.wrap .i64 (XO.den (vv a0 a1 a2 a3) - 22) = _; rw [hO]; rfl
  have k0 : Int.tmod a1 3 = 0 ∨ Int.tmod a1 3 = 1 ∨ Int.tmod a1 3 = 2 := by
    rw [Int.tmod_eq_emod_of_nonneg b1.1]
    omega
  have k1 : Int.tmod a2 3 = 0 ∨ Int.tmod a2 3 = 1 ∨ Int.tmod a2 3 = 2 := by
    rw [Int.tmod_eq_emod_of_nonneg b2.1]
    omega
  have k2 : Int.tmod a3 3 = 0 ∨ Int.tmod a3 3 = 1 ∨ Int.tmod a3 3 = 2 := by
    rw [Int.tmod_eq_emod_of_nonneg b3.1]
    omega
  rcases k0 with m0 | m0 | m0
  · have hT0 : XT0.den (vv a0 a1 a2 a3) = .ofNat 1 := by show IntKind.wrap .i64 (1 + IntKind.wrap .i64 (Int.tmod a1 3)) = _; rw [m0]; rfl
    have qU := sU htab (GU_hold hU hU1 hT0) eU3_0
    rcases k1 with m1 | m1 | m1
    · have hT1 : XT1.den (vv a0 a1 a2 a3) = .ofNat 1 := by show IntKind.wrap .i64 (1 + IntKind.wrap .i64 (Int.tmod a2 3)) = _; rw [m1]; rfl
      have qB := sB htab (GB_hold hO hO1 hO2 hT0 hT1) eB3_0_0
      rcases k2 with m2 | m2 | m2
      · have hT2 : XT2.den (vv a0 a1 a2 a3) = .ofNat 1 := by show IntKind.wrap .i64 (1 + IntKind.wrap .i64 (Int.tmod a3 3)) = _; rw [m2]; rfl
        have qC := sC htab (GC_hold hT0 hT1 hT2) eC0_0_0
        exact fin htab (GM_hold hU hO hT0 hT1 hT2) qU qB qC r3_0_0_0
      · have hT2 : XT2.den (vv a0 a1 a2 a3) = .ofNat 2 := by show IntKind.wrap .i64 (1 + IntKind.wrap .i64 (Int.tmod a3 3)) = _; rw [m2]; rfl
        have qC := sC htab (GC_hold hT0 hT1 hT2) eC0_0_1
        exact fin htab (GM_hold hU hO hT0 hT1 hT2) qU qB qC r3_0_0_1
      · have hT2 : XT2.den (vv a0 a1 a2 a3) = .ofNat 3 := by show IntKind.wrap .i64 (1 + IntKind.wrap .i64 (Int.tmod a3 3)) = _; rw [m2]; rfl
        have qC := sC htab (GC_hold hT0 hT1 hT2) eC0_0_2
        exact fin htab (GM_hold hU hO hT0 hT1 hT2) qU qB qC r3_0_0_2
    · have hT1 : XT1.den (vv a0 a1 a2 a3) = .ofNat 2 := by show IntKind.wrap .i64 (1 + IntKind.wrap .i64 (Int.tmod a2 3)) = _; rw [m1]; rfl
      have qB := sB htab (GB_hold hO hO1 hO2 hT0 hT1) eB3_0_1
      rcases k2 with m2 | m2 | m2
      · have hT2 : XT2.den (vv a0 a1 a2 a3) = .ofNat 1 := by show IntKind.wrap .i64 (1 + IntKind.wrap .i64 (Int.tmod a3 3)) = _; rw [m2]; rfl
        have qC := sC htab (GC_hold hT0 hT1 hT2) eC0_1_0
        exact fin htab (GM_hold hU hO hT0 hT1 hT2) qU qB qC r3_0_1_0
      · have hT2 : XT2.den (vv a0 a1 a2 a3) = .ofNat 2 := by show IntKind.wrap .i64 (1 + IntKind.wrap .i64 (Int.tmod a3 3)) = _; rw [m2]; rfl
        have qC := sC htab (GC_hold hT0 hT1 hT2) eC0_1_1
        exact fin htab (GM_hold hU hO hT0 hT1 hT2) qU qB qC r3_0_1_1
      · have hT2 : XT2.den (vv a0 a1 a2 a3) = .ofNat 3 := by show IntKind.wrap .i64 (1 + IntKind.wrap .i64 (Int.tmod a3 3)) = _; rw [m2]; rfl
        have qC := sC htab (GC_hold hT0 hT1 hT2) eC0_1_2
        exact fin htab (GM_hold hU hO hT0 hT1 hT2) qU qB qC r3_0_1_2
    · have hT1 : XT1.den (vv a0 a1 a2 a3) = .ofNat 3 := by show IntKind.wrap .i64 (1 + IntKind.wrap .i64 (Int.tmod a2 3)) = _; rw [m1]; rfl
      have qB := sB htab (GB_hold hO hO1 hO2 hT0 hT1) eB3_0_2
      rcases k2 with m2 | m2 | m2
      · have hT2 : XT2.den (vv a0 a1 a2 a3) = .ofNat 1 := by show IntKind.wrap .i64 (1 + IntKind.wrap .i64 (Int.tmod a3 3)) = _; rw [m2]; rfl
        have qC := sC htab (GC_hold hT0 hT1 hT2) eC0_2_0
        exact fin htab (GM_hold hU hO hT0 hT1 hT2) qU qB qC r3_0_2_0
      · have hT2 : XT2.den (vv a0 a1 a2 a3) = .ofNat 2 := by show IntKind.wrap .i64 (1 + IntKind.wrap .i64 (Int.tmod a3 3)) = _; rw [m2]; rfl
        have qC := sC htab (GC_hold hT0 hT1 hT2) eC0_2_1
        exact fin htab (GM_hold hU hO hT0 hT1 hT2) qU qB qC r3_0_2_1
      · have hT2 : XT2.den (vv a0 a1 a2 a3) = .ofNat 3 := by show IntKind.wrap .i64 (1 + IntKind.wrap .i64 (Int.tmod a3 3)) = _; rw [m2]; rfl
        have qC := sC htab (GC_hold hT0 hT1 hT2) eC0_2_2
        exact fin htab (GM_hold hU hO hT0 hT1 hT2) qU qB qC r3_0_2_2
  · have hT0 : XT0.den (vv a0 a1 a2 a3) = .ofNat 2 := by show IntKind.wrap .i64 (1 + IntKind.wrap .i64 (Int.tmod a1 3)) = _; rw [m0]; rfl
    have qU := sU htab (GU_hold hU hU1 hT0) eU3_1
    rcases k1 with m1 | m1 | m1
    · have hT1 : XT1.den (vv a0 a1 a2 a3) = .ofNat 1 := by show IntKind.wrap .i64 (1 + IntKind.wrap .i64 (Int.tmod a2 3)) = _; rw [m1]; rfl
      have qB := sB htab (GB_hold hO hO1 hO2 hT0 hT1) eB3_1_0
      rcases k2 with m2 | m2 | m2
      · have hT2 : XT2.den (vv a0 a1 a2 a3) = .ofNat 1 := by show IntKind.wrap .i64 (1 + IntKind.wrap .i64 (Int.tmod a3 3)) = _; rw [m2]; rfl
        have qC := sC htab (GC_hold hT0 hT1 hT2) eC1_0_0
        exact fin htab (GM_hold hU hO hT0 hT1 hT2) qU qB qC r3_1_0_0
      · have hT2 : XT2.den (vv a0 a1 a2 a3) = .ofNat 2 := by show IntKind.wrap .i64 (1 + IntKind.wrap .i64 (Int.tmod a3 3)) = _; rw [m2]; rfl
        have qC := sC htab (GC_hold hT0 hT1 hT2) eC1_0_1
        exact fin htab (GM_hold hU hO hT0 hT1 hT2) qU qB qC r3_1_0_1
      · have hT2 : XT2.den (vv a0 a1 a2 a3) = .ofNat 3 := by show IntKind.wrap .i64 (1 + IntKind.wrap .i64 (Int.tmod a3 3)) = _; rw [m2]; rfl
        have qC := sC htab (GC_hold hT0 hT1 hT2) eC1_0_2
        exact fin htab (GM_hold hU hO hT0 hT1 hT2) qU qB qC r3_1_0_2
    · have hT1 : XT1.den (vv a0 a1 a2 a3) = .ofNat 2 := by show IntKind.wrap .i64 (1 + IntKind.wrap .i64 (Int.tmod a2 3)) = _; rw [m1]; rfl
      have qB := sB htab (GB_hold hO hO1 hO2 hT0 hT1) eB3_1_1
      rcases k2 with m2 | m2 | m2
      · have hT2 : XT2.den (vv a0 a1 a2 a3) = .ofNat 1 := by show IntKind.wrap .i64 (1 + IntKind.wrap .i64 (Int.tmod a3 3)) = _; rw [m2]; rfl
        have qC := sC htab (GC_hold hT0 hT1 hT2) eC1_1_0
        exact fin htab (GM_hold hU hO hT0 hT1 hT2) qU qB qC r3_1_1_0
      · have hT2 : XT2.den (vv a0 a1 a2 a3) = .ofNat 2 := by show IntKind.wrap .i64 (1 + IntKind.wrap .i64 (Int.tmod a3 3)) = _; rw [m2]; rfl
        have qC := sC htab (GC_hold hT0 hT1 hT2) eC1_1_1
        exact fin htab (GM_hold hU hO hT0 hT1 hT2) qU qB qC r3_1_1_1
      · have hT2 : XT2.den (vv a0 a1 a2 a3) = .ofNat 3 := by show IntKind.wrap .i64 (1 + IntKind.wrap .i64 (Int.tmod a3 3)) = _; rw [m2]; rfl
        have qC := sC htab (GC_hold hT0 hT1 hT2) eC1_1_2
        exact fin htab (GM_hold hU hO hT0 hT1 hT2) qU qB qC r3_1_1_2
    · have hT1 : XT1.den (vv a0 a1 a2 a3) = .ofNat 3 := by show IntKind.wrap .i64 (1 + IntKind.wrap .i64 (Int.tmod a2 3)) = _; rw [m1]; rfl
      have qB := sB htab (GB_hold hO hO1 hO2 hT0 hT1) eB3_1_2
      rcases k2 with m2 | m2 | m2
      · have hT2 : XT2.den (vv a0 a1 a2 a3) = .ofNat 1 := by show IntKind.wrap .i64 (1 + IntKind.wrap .i64 (Int.tmod a3 3)) = _; rw [m2]; rfl
        have qC := sC htab (GC_hold hT0 hT1 hT2) eC1_2_0
        exact fin htab (GM_hold hU hO hT0 hT1 hT2) qU qB qC r3_1_2_0
      · have hT2 : XT2.den (vv a0 a1 a2 a3) = .ofNat 2 := by show IntKind.wrap .i64 (1 + IntKind.wrap .i64 (Int.tmod a3 3)) = _; rw [m2]; rfl
        have qC := sC htab (GC_hold hT0 hT1 hT2) eC1_2_1
        exact fin htab (GM_hold hU hO hT0 hT1 hT2) qU qB qC r3_1_2_1
      · have hT2 : XT2.den (vv a0 a1 a2 a3) = .ofNat 3 := by show IntKind.wrap .i64 (1 + IntKind.wrap .i64 (Int.tmod a3 3)) = _; rw [m2]; rfl
        have qC := sC htab (GC_hold hT0 hT1 hT2) eC1_2_2
        exact fin htab (GM_hold hU hO hT0 hT1 hT2) qU qB qC r3_1_2_2
  · have hT0 : XT0.den (vv a0 a1 a2 a3) = .ofNat 3 := by show IntKind.wrap .i64 (1 + IntKind.wrap .i64 (Int.tmod a1 3)) = _; rw [m0]; rfl
    have qU := sU htab (GU_hold hU hU1 hT0) eU3_2
    rcases k1 with m1 | m1 | m1
    · have hT1 : XT1.den (vv a0 a1 a2 a3) = .ofNat 1 := by show IntKind.wrap .i64 (1 + IntKind.wrap .i64 (Int.tmod a2 3)) = _; rw [m1]; rfl
      have qB := sB htab (GB_hold hO hO1 hO2 hT0 hT1) eB3_2_0
      rcases k2 with m2 | m2 | m2
      · have hT2 : XT2.den (vv a0 a1 a2 a3) = .ofNat 1 := by show IntKind.wrap .i64 (1 + IntKind.wrap .i64 (Int.tmod a3 3)) = _; rw [m2]; rfl
        have qC := sC htab (GC_hold hT0 hT1 hT2) eC2_0_0
        exact fin htab (GM_hold hU hO hT0 hT1 hT2) qU qB qC r3_2_0_0
      · have hT2 : XT2.den (vv a0 a1 a2 a3) = .ofNat 2 := by show IntKind.wrap .i64 (1 + IntKind.wrap .i64 (Int.tmod a3 3)) = _; rw [m2]; rfl
        have qC := sC htab (GC_hold hT0 hT1 hT2) eC2_0_1
        exact fin htab (GM_hold hU hO hT0 hT1 hT2) qU qB qC r3_2_0_1
      · have hT2 : XT2.den (vv a0 a1 a2 a3) = .ofNat 3 := by show IntKind.wrap .i64 (1 + IntKind.wrap .i64 (Int.tmod a3 3)) = _; rw [m2]; rfl
        have qC := sC htab (GC_hold hT0 hT1 hT2) eC2_0_2
        exact fin htab (GM_hold hU hO hT0 hT1 hT2) qU qB qC r3_2_0_2
    · have hT1 : XT1.den (vv a0 a1 a2 a3) = .ofNat 2 := by show IntKind.wrap .i64 (1 + IntKind.wrap .i64 (Int.tmod a2 3)) = _; rw [m1]; rfl
      have qB := sB htab (GB_hold hO hO1 hO2 hT0 hT1) eB3_2_1
      rcases k2 with m2 | m2 | m2
      · have hT2 : XT2.den (vv a0 a1 a2 a3) = .ofNat 1 := by show IntKind.wrap .i64 (1 + IntKind.wrap .i64 (Int.tmod a3 3)) = _; rw [m2]; rfl
        have qC := sC htab (GC_hold hT0 hT1 hT2) eC2_1_0
        exact fin htab (GM_hold hU hO hT0 hT1 hT2) qU qB qC r3_2_1_0
      · have hT2 : XT2.den (vv a0 a1 a2 a3) = .ofNat 2 := by show IntKind.wrap .i64 (1 + IntKind.wrap .i64 (Int.tmod a3 3)) = _; rw [m2]; rfl
        have qC := sC htab (GC_hold hT0 hT1 hT2) eC2_1_1
        exact fin htab (GM_hold hU hO hT0 hT1 hT2) qU qB qC r3_2_1_1
      · have hT2 : XT2.den (vv a0 a1 a2 a3) = .ofNat 3 := by show IntKind.wrap .i64 (1 + IntKind.wrap .i64 (Int.tmod a3 3)) = _; rw [m2]; rfl
        have qC := sC htab (GC_hold hT0 hT1 hT2) eC2_1_2
        exact fin htab (GM_hold hU hO hT0 hT1 hT2) qU qB qC r3_2_1_2
    · have hT1 : XT1.den (vv a0 a1 a2 a3) = .ofNat 3 := by show IntKind.wrap .i64 (1 + IntKind.wrap .i64 (Int.tmod a2 3)) = _; rw [m1]; rfl
      have qB := sB htab (GB_hold hO hO1 hO2 hT0 hT1) eB3_2_2
      rcases k2 with m2 | m2 | m2
      · have hT2 : XT2.den (vv a0 a1 a2 a3) = .ofNat 1 := by show IntKind.wrap .i64 (1 + IntKind.wrap .i64 (Int.tmod a3 3)) = _; rw [m2]; rfl
        have qC := sC htab (GC_hold hT0 hT1 hT2) eC2_2_0
        exact fin htab (GM_hold hU hO hT0 hT1 hT2) qU qB qC r3_2_2_0
      · have hT2 : XT2.den (vv a0 a1 a2 a3) = .ofNat 2 := by show IntKind.wrap .i64 (1 + IntKind.wrap .i64 (Int.tmod a3 3)) = _; rw [m2]; rfl
        have qC := sC htab (GC_hold hT0 hT1 hT2) eC2_2_1
        exact fin htab (GM_hold hU hO hT0 hT1 hT2) qU qB qC r3_2_2_1
      · have hT2 : XT2.den (vv a0 a1 a2 a3) = .ofNat 3 := by show IntKind.wrap .i64 (1 + IntKind.wrap .i64 (Int.tmod a3 3)) = _; rw [m2]; rfl
        have qC := sC htab (GC_hold hT0 hT1 hT2) eC2_2_2
        exact fin htab (GM_hold hU hO hT0 hT1 hT2) qU qB qC r3_2_2_2
theorem c4 (a0 a1 a2 a3 : Int) (b0 : (0 : Int) ≤ a0 ∧ a0 ≤ 255) (b1 : (0 : Int) ≤ a1 ∧ a1 ≤ 255) (b2 : (0 : Int) ≤ a2 ∧ a2 ≤ 255) (b3 : (0 : Int) ≤ a3 ∧ a3 ≤ 255) (ho : Int.tmod a0 20 = 4) (w : World) (htab : Lib.TabIs Tryz.prog w "internal/strconv.uint64pow10" .u64 Lib.pow10Tab) : Calls Tryz.prog 4 #[.int .u8 a0, .agg #[.int .u8 a1, .int .u8 a2, .int .u8 a3]] w fun e w' => e = .returned (.bool true) ∧ Kept w w' := by
  have hw : IntKind.wrap .i64 a0 = a0 := wrap_in .i64 a0 (show (-9223372036854775808 : Int) ≤ a0 ∧ a0 ≤ (9223372036854775807 : Int) by omega)
  have h5 : Int.tmod a0 5 = 4 := by
    rw [Int.tmod_eq_emod_of_nonneg b0.1] at ho ⊢
    omega
  have hU : XU.den (vv a0 a1 a2 a3) = .ofNat 5 := by show IntKind.wrap .i64 (1 + Int.tmod (IntKind.wrap .i64 a0) 5) = _; rw [hw, h5]; rfl
  have hU1 : XU1.den (vv a0 a1 a2 a3) = .ofNat 4 := by show IntKind.wrap .i64 (XU.den (vv a0 a1 a2 a3) - 1) = _; rw [hU]; rfl
  have hO : XO.den (vv a0 a1 a2 a3) = .ofNat 14 := by show IntKind.wrap .i64 (10 + Int.tmod (IntKind.wrap .i64 a0) 20) = _; rw [hw, ho]; rfl
  have hO1 : XO1.den (vv a0 a1 a2 a3) = .ofNat 4 := by show IntKind.wrap .i64 (XO.den (vv a0 a1 a2 a3) - 10) = _; rw [hO]; rfl
  have hO2 : XO2.den (vv a0 a1 a2 a3) = .negSucc 7 := by show IntKind.wrap .i64 (XO.den (vv a0 a1 a2 a3) - 22) = _; rw [hO]; rfl
  have k0 : Int.tmod a1 3 = 0 ∨ Int.tmod a1 3 = 1 ∨ Int.tmod a1 3 = 2 := by
    rw [Int.tmod_eq_emod_of_nonneg b1.1]
    omega
  have k1 : Int.tmod a2 3 = 0 ∨ Int.tmod a2 3 = 1 ∨ Int.tmod a2 3 = 2 := by
    rw [Int.tmod_eq_emod_of_nonneg b2.1]
    omega
  have k2 : Int.tmod a3 3 = 0 ∨ Int.tmod a3 3 = 1 ∨ Int.tmod a3 3 = 2 := by
    rw [Int.tmod_eq_emod_of_nonneg b3.1]
    omega
  rcases k0 with m0 | m0 | m0
  · have hT0 : XT0.den (vv a0 a1 a2 a3) = .ofNat 1 := by show IntKind.wrap .i64 (1 + IntKind.wrap .i64 (Int.tmod a1 3)) = _; rw [m0]; rfl
    have qU := sU htab (GU_hold hU hU1 hT0) eU4_0
    rcases k1 with m1 | m1 | m1
    · have hT1 : XT1.den (vv a0 a1 a2 a3) = .ofNat 1 := by show IntKind.wrap .i64 (1 + IntKind.wrap .i64 (Int.tmod a2 3)) = _; rw [m1]; rfl
      have qB := sB htab (GB_hold hO hO1 hO2 hT0 hT1) eB4_0_0
      rcases k2 with m2 | m2 | m2
      · have hT2 : XT2.den (vv a0 a1 a2 a3) = .ofNat 1 := by show IntKind.wrap .i64 (1 + IntKind.wrap .i64 (Int.tmod a3 3)) = _; rw [m2]; rfl
        have qC := sC htab (GC_hold hT0 hT1 hT2) eC0_0_0
        exact fin htab (GM_hold hU hO hT0 hT1 hT2) qU qB qC r4_0_0_0
      · have hT2 : XT2.den (vv a0 a1 a2 a3) = .ofNat 2 := by show IntKind.wrap .i64 (1 + IntKind.wrap .i64 (Int.tmod a3 3)) = _; rw [m2]; rfl
        have qC := sC htab (GC_hold hT0 hT1 hT2) eC0_0_1
        exact fin htab (GM_hold hU hO hT0 hT1 hT2) qU qB qC r4_0_0_1
      · have hT2 : XT2.den (vv a0 a1 a2 a3) = .ofNat 3 := by show IntKind.wrap .i64 (1 + IntKind.wrap .i64 (Int.tmod a3 3)) = _; rw [m2]; rfl
        have qC := sC htab (GC_hold hT0 hT1 hT2) eC0_0_2
        exact fin htab (GM_hold hU hO hT0 hT1 hT2) qU qB qC r4_0_0_2
    · have hT1 : XT1.den (vv a0 a1 a2 a3) = .ofNat 2 := by show IntKind.wrap .i64 (1 + IntKind.wrap .i64 (Int.tmod a2 3)) = _; rw [m1]; rfl
      have qB := sB htab (GB_hold hO hO1 hO2 hT0 hT1) eB4_0_1
      rcases k2 with m2 | m2 | m2
      · have hT2 : XT2.den (vv a0 a1 a2 a3) = .ofNat 1 := by show IntKind.wrap .i64 (1 + IntKind.wrap .i64 (Int.tmod a3 3)) = _; rw [m2]; rfl
        have qC := sC htab (GC_hold hT0 hT1 hT2) eC0_1_0
        exact fin htab (GM_hold hU hO hT0 hT1 hT2) qU qB qC r4_0_1_0
      · have hT2 : XT2.den (vv a0 a1 a2 a3) = .ofNat 2 := by show IntKind.wrap .i64 (1 + IntKind.wrap .i64 (Int.tmod a3 3)) = _; rw [m2]; rfl
        have qC := sC htab (GC_hold hT0 hT1 hT2) eC0_1_1
        exact fin htab (GM_hold hU hO hT0 hT1 hT2) qU qB qC r4_0_1_1
      · have hT2 : XT2.den (vv a0 a1 a2 a3) = .ofNat 3 := by show IntKind.wrap .i64 (1 + IntKind.wrap .i64 (Int.tmod a3 3)) = _; rw [m2]; rfl
        have qC := sC htab (GC_hold hT0 hT1 hT2) eC0_1_2
        exact fin htab (GM_hold hU hO hT0 hT1 hT2) qU qB qC r4_0_1_2
    · have hT1 : XT1.den (vv a0 a1 a2 a3) = .ofNat 3 := by show IntKind.wrap .i64 (1 + IntKind.wrap .i64 (Int.tmod a2 3)) = _; rw [m1]; rfl
      have qB := sB htab (GB_hold hO hO1 hO2 hT0 hT1) eB4_0_2
      rcases k2 with m2 | m2 | m2
      · have hT2 : XT2.den (vv a0 a1 a2 a3) = .ofNat 1 := by show IntKind.wrap .i64 (1 + IntKind.wrap .i64 (Int.tmod a3 3)) = _; rw [m2]; rfl
        have qC := sC htab (GC_hold hT0 hT1 hT2) eC0_2_0
        exact fin htab (GM_hold hU hO hT0 hT1 hT2) qU qB qC r4_0_2_0
      · have hT2 : XT2.den (vv a0 a1 a2 a3) = .ofNat 2 := by show IntKind.wrap .i64 (1 + IntKind.wrap .i64 (Int.tmod a3 3)) = _; rw [m2]; rfl
        have qC := sC htab (GC_hold hT0 hT1 hT2) eC0_2_1
        exact fin htab (GM_hold hU hO hT0 hT1 hT2) qU qB qC r4_0_2_1
      · have hT2 : XT2.den (vv a0 a1 a2 a3) = .ofNat 3 := by show IntKind.wrap .i64 (1 + IntKind.wrap .i64 (Int.tmod a3 3)) = _; rw [m2]; rfl
        have qC := sC htab (GC_hold hT0 hT1 hT2) eC0_2_2
        exact fin htab (GM_hold hU hO hT0 hT1 hT2) qU qB qC r4_0_2_2
  · have hT0 : XT0.den (vv a0 a1 a2 a3) = .ofNat 2 := by show IntKind.wrap .i64 (1 + IntKind.wrap .i64 (Int.tmod a1 3)) = _; rw [m0]; rfl
    have qU := sU htab (GU_hold hU hU1 hT0) eU4_1
    rcases k1 with m1 | m1 | m1
    · have hT1 : XT1.den (vv a0 a1 a2 a3) = .ofNat 1 := by show IntKind.wrap .i64 (1 + IntKind.wrap .i64 (Int.tmod a2 3)) = _; rw [m1]; rfl
      have qB := sB htab (GB_hold hO hO1 hO2 hT0 hT1) eB4_1_0
      rcases k2 with m2 | m2 | m2
      · have hT2 : XT2.den (vv a0 a1 a2 a3) = .ofNat 1 := by show IntKind.wrap .i64 (1 + IntKind.wrap .i64 (Int.tmod a3 3)) = _; rw [m2]; rfl
        have qC := sC htab (GC_hold hT0 hT1 hT2) eC1_0_0
        exact fin htab (GM_hold hU hO hT0 hT1 hT2) qU qB qC r4_1_0_0
      · have hT2 : XT2.den (vv a0 a1 a2 a3) = .ofNat 2 := by show IntKind.wrap .i64 (1 + IntKind.wrap .i64 (Int.tmod a3 3)) = _; rw [m2]; rfl
        have qC := sC htab (GC_hold hT0 hT1 hT2) eC1_0_1
        exact fin htab (GM_hold hU hO hT0 hT1 hT2) qU qB qC r4_1_0_1
      · have hT2 : XT2.den (vv a0 a1 a2 a3) = .ofNat 3 := by show IntKind.wrap .i64 (1 + IntKind.wrap .i64 (Int.tmod a3 3)) = _; rw [m2]; rfl
        have qC := sC htab (GC_hold hT0 hT1 hT2) eC1_0_2
        exact fin htab (GM_hold hU hO hT0 hT1 hT2) qU qB qC r4_1_0_2
    · have hT1 : XT1.den (vv a0 a1 a2 a3) = .ofNat 2 := by show IntKind.wrap .i64 (1 + IntKind.wrap .i64 (Int.tmod a2 3)) = _; rw [m1]; rfl
      have qB := sB htab (GB_hold hO hO1 hO2 hT0 hT1) eB4_1_1
      rcases k2 with m2 | m2 | m2
      · have hT2 : XT2.den (vv a0 a1 a2 a3) = .ofNat 1 := by show IntKind.wrap .i64 (1 + IntKind.wrap .i64 (Int.tmod a3 3)) = _; rw [m2]; rfl
        have qC := sC htab (GC_hold hT0 hT1 hT2) eC1_1_0
        exact fin htab (GM_hold hU hO hT0 hT1 hT2) qU qB qC r4_1_1_0
      · have hT2 : XT2.den (vv a0 a1 a2 a3) = .ofNat 2 := by show IntKind.wrap .i64 (1 + IntKind.wrap .i64 (Int.tmod a3 3)) = _; rw [m2]; rfl
        have qC := sC htab (GC_hold hT0 hT1 hT2) eC1_1_1
        exact fin htab (GM_hold hU hO hT0 hT1 hT2) qU qB qC r4_1_1_1
      · have hT2 : XT2.den (vv a0 a1 a2 a3) = .ofNat 3 := by show IntKind.wrap .i64 (1 + IntKind.wrap .i64 (Int.tmod a3 3)) = _; rw [m2]; rfl
        have qC := sC htab (GC_hold hT0 hT1 hT2) eC1_1_2
        exact fin htab (GM_hold hU hO hT0 hT1 hT2) qU qB qC r4_1_1_2
    · have hT1 : XT1.den (vv a0 a1 a2 a3) = .ofNat 3 := by show IntKind.wrap .i64 (1 + IntKind.wrap .i64 (Int.tmod a2 3)) = _; rw [m1]; rfl
      have qB := sB htab (GB_hold hO hO1 hO2 hT0 hT1) eB4_1_2
      rcases k2 with m2 | m2 | m2
      · have hT2 : XT2.den (vv a0 a1 a2 a3) = .ofNat 1 := by show IntKind.wrap .i64 (1 + IntKind.wrap .i64 (Int.tmod a3 3)) = _; rw [m2]; rfl
        have qC := sC htab (GC_hold hT0 hT1 hT2) eC1_2_0
        exact fin htab (GM_hold hU hO hT0 hT1 hT2) qU qB qC r4_1_2_0
      · have hT2 : XT2.den (vv a0 a1 a2 a3) = .ofNat 2 := by show IntKind.wrap .i64 (1 + IntKind.wrap .i64 (Int.tmod a3 3)) = _; rw [m2]; rfl
        have qC := sC htab (GC_hold hT0 hT1 hT2) eC1_2_1
        exact fin htab (GM_hold hU hO hT0 hT1 hT2) qU qB qC r4_1_2_1
      · have hT2 : XT2.den (vv a0 a1 a2 a3) = .ofNat 3 := by show IntKind.wrap .i64 (1 + IntKind.wrap .i64 (Int.tmod a3 3)) = _; rw [m2]; rfl
        have qC := sC htab (GC_hold hT0 hT1 hT2) eC1_2_2
        exact fin htab (GM_hold hU hO hT0 hT1 hT2) qU qB qC r4_1_2_2
  · have hT0 : XT0.den (vv a0 a1 a2 a3) = .ofNat 3 := by show IntKind.wrap .i64 (1 + IntKind.wrap .i64 (Int.tmod a1 3)) = _; rw [m0]; rfl
    have qU := sU htab (GU_hold hU hU1 hT0) eU4_2
    rcases k1 with m1 | m1 | m1
    · have hT1 : XT1.den (vv a0 a1 a2 a3) = .ofNat 1 := by show IntKind.wrap .i64 (1 + IntKind.wrap .i64 (Int.tmod a2 3)) = _; rw [m1]; rfl
      have qB := sB htab (GB_hold hO hO1 hO2 hT0 hT1) eB4_2_0
      rcases k2 with m2 | m2 | m2
      · have hT2 : XT2.den (vv a0 a1 a2 a3) = .ofNat 1 := by show IntKind.wrap .i64 (1 + IntKind.wrap .i64 (Int.tmod a3 3)) = _; rw [m2]; rfl
        have qC := sC htab (GC_hold hT0 hT1 hT2) eC2_0_0
        exact fin htab (GM_hold hU hO hT0 hT1 hT2) qU qB qC r4_2_0_0
      · have hT2 : XT2.den (vv a0 a1 a2 a3) = .ofNat 2 := by show IntKind.wrap .i64 (1 + IntKind.wrap .i64 (Int.tmod a3 3)) = _; rw [m2]; rfl
        have qC := sC htab (GC_hold hT0 hT1 hT2) eC2_0_1
        exact fin htab (GM_hold hU hO hT0 hT1 hT2) qU qB qC r4_2_0_1
      · have hT2 : XT2.den (vv a0 a1 a2 a3) = .ofNat 3 := by show IntKind.wrap .i64 (1 + IntKind.wrap .i64 (Int.tmod a3 3)) = _; rw [m2]; rfl
        have qC := sC htab (GC_hold hT0 hT1 hT2) eC2_0_2
        exact fin htab (GM_hold hU hO hT0 hT1 hT2) qU qB qC r4_2_0_2
    · have hT1 : XT1.den (vv a0 a1 a2 a3) = .ofNat 2 := by show IntKind.wrap .i64 (1 + IntKind.wrap .i64 (Int.tmod a2 3)) = _; rw [m1]; rfl
      have qB := sB htab (GB_hold hO hO1 hO2 hT0 hT1) eB4_2_1
      rcases k2 with m2 | m2 | m2
      · have hT2 : XT2.den (vv a0 a1 a2 a3) = .ofNat 1 := by show IntKind.wrap .i64 (1 + IntKind.wrap .i64 (Int.tmod a3 3)) = _; rw [m2]; rfl
        have qC := sC htab (GC_hold hT0 hT1 hT2) eC2_1_0
        exact fin htab (GM_hold hU hO hT0 hT1 hT2) qU qB qC r4_2_1_0
      · have hT2 : XT2.den (vv a0 a1 a2 a3) = .ofNat 2 := by show IntKind.wrap .i64 (1 + IntKind.wrap .i64 (Int.tmod a3 3)) = _; rw [m2]; rfl
        have qC := sC htab (GC_hold hT0 hT1 hT2) eC2_1_1
        exact fin htab (GM_hold hU hO hT0 hT1 hT2) qU qB qC r4_2_1_1
      · have hT2 : XT2.den (vv a0 a1 a2 a3) = .ofNat 3 := by show IntKind.wrap .i64 (1 + IntKind.wrap .i64 (Int.tmod a3 3)) = _; rw [m2]; rfl
        have qC := sC htab (GC_hold hT0 hT1 hT2) eC2_1_2
        exact fin htab (GM_hold hU hO hT0 hT1 hT2) qU qB qC r4_2_1_2
    · have hT1 : XT1.den (vv a0 a1 a2 a3) = .ofNat 3 := by show IntKind.wrap .i64 (1 + IntKind.wrap .i64 (Int.tmod a2 3)) = _; rw [m1]; rfl
      have qB := sB htab (GB_hold hO hO1 hO2 hT0 hT1) eB4_2_2
      rcases k2 with m2 | m2 | m2
      · have hT2 : XT2.den (vv a0 a1 a2 a3) = .ofNat 1 := by show IntKind.wrap .i64 (1 + IntKind.wrap .i64 (Int.tmod a3 3)) = _; rw [m2]; rfl
        have qC := sC htab (GC_hold hT0 hT1 hT2) eC2_2_0
        exact fin htab (GM_hold hU hO hT0 hT1 hT2) qU qB qC r4_2_2_0
      · have hT2 : XT2.den (vv a0 a1 a2 a3) = .ofNat 2 := by show IntKind.wrap .i64 (1 + IntKind.wrap .i64 (Int.tmod a3 3)) = _; rw [m2]; rfl
        have qC := sC htab (GC_hold hT0 hT1 hT2) eC2_2_1
        exact fin htab (GM_hold hU hO hT0 hT1 hT2) qU qB qC r4_2_2_1
      · have hT2 : XT2.den (vv a0 a1 a2 a3) = .ofNat 3 := by show IntKind.wrap .i64 (1 + IntKind.wrap .i64 (Int.tmod a3 3)) = _; rw [m2]; rfl
        have qC := sC htab (GC_hold hT0 hT1 hT2) eC2_2_2
        exact fin htab (GM_hold hU hO hT0 hT1 hT2) qU qB qC r4_2_2_2
theorem c5 (a0 a1 a2 a3 : Int) (b0 : (0 : Int) ≤ a0 ∧ a0 ≤ 255) (b1 : (0 : Int) ≤ a1 ∧ a1 ≤ 255) (b2 : (0 : Int) ≤ a2 ∧ a2 ≤ 255) (b3 : (0 : Int) ≤ a3 ∧ a3 ≤ 255) (ho : Int.tmod a0 20 = 5) (w : World) (htab : Lib.TabIs Tryz.prog w "internal/strconv.uint64pow10" .u64 Lib.pow10Tab) : Calls Tryz.prog 4 #[.int .u8 a0, .agg #[.int .u8 a1, .int .u8 a2, .int .u8 a3]] w fun e w' => e = .returned (.bool true) ∧ Kept w w' := by
  have hw : IntKind.wrap .i64 a0 = a0 := wrap_in .i64 a0 (show (-9223372036854775808 : Int) ≤ a0 ∧ a0 ≤ (9223372036854775807 : Int) by omega)
  have h5 : Int.tmod a0 5 = 0 := by
    rw [Int.tmod_eq_emod_of_nonneg b0.1] at ho ⊢
    omega
  have hU : XU.den (vv a0 a1 a2 a3) = .ofNat 1 := by show IntKind.wrap .i64 (1 + Int.tmod (IntKind.wrap .i64 a0) 5) = _; rw [hw, h5]; rfl
  have hU1 : XU1.den (vv a0 a1 a2 a3) = .ofNat 0 := by show IntKind.wrap .i64 (XU.den (vv a0 a1 a2 a3) - 1) = _; rw [hU]; rfl
  have hO : XO.den (vv a0 a1 a2 a3) = .ofNat 15 := by show IntKind.wrap .i64 (10 + Int.tmod (IntKind.wrap .i64 a0) 20) = _; rw [hw, ho]; rfl
  have hO1 : XO1.den (vv a0 a1 a2 a3) = .ofNat 5 := by show IntKind.wrap .i64 (XO.den (vv a0 a1 a2 a3) - 10) = _; rw [hO]; rfl
  have hO2 : XO2.den (vv a0 a1 a2 a3) = .negSucc 6 := by show IntKind.wrap .i64 (XO.den (vv a0 a1 a2 a3) - 22) = _; rw [hO]; rfl
  have k0 : Int.tmod a1 3 = 0 ∨ Int.tmod a1 3 = 1 ∨ Int.tmod a1 3 = 2 := by
    rw [Int.tmod_eq_emod_of_nonneg b1.1]
    omega
  have k1 : Int.tmod a2 3 = 0 ∨ Int.tmod a2 3 = 1 ∨ Int.tmod a2 3 = 2 := by
    rw [Int.tmod_eq_emod_of_nonneg b2.1]
    omega
  have k2 : Int.tmod a3 3 = 0 ∨ Int.tmod a3 3 = 1 ∨ Int.tmod a3 3 = 2 := by
    rw [Int.tmod_eq_emod_of_nonneg b3.1]
    omega
  rcases k0 with m0 | m0 | m0
  · have hT0 : XT0.den (vv a0 a1 a2 a3) = .ofNat 1 := by show IntKind.wrap .i64 (1 + IntKind.wrap .i64 (Int.tmod a1 3)) = _; rw [m0]; rfl
    have qU := sU htab (GU_hold hU hU1 hT0) eU0_0
    rcases k1 with m1 | m1 | m1
    · have hT1 : XT1.den (vv a0 a1 a2 a3) = .ofNat 1 := by show IntKind.wrap .i64 (1 + IntKind.wrap .i64 (Int.tmod a2 3)) = _; rw [m1]; rfl
      have qB := sB htab (GB_hold hO hO1 hO2 hT0 hT1) eB5_0_0
      rcases k2 with m2 | m2 | m2
      · have hT2 : XT2.den (vv a0 a1 a2 a3) = .ofNat 1 := by show IntKind.wrap .i64 (1 + IntKind.wrap .i64 (Int.tmod a3 3)) = _; rw [m2]; rfl
        have qC := sC htab (GC_hold hT0 hT1 hT2) eC0_0_0
        exact fin htab (GM_hold hU hO hT0 hT1 hT2) qU qB qC r5_0_0_0
      · have hT2 : XT2.den (vv a0 a1 a2 a3) = .ofNat 2 := by show IntKind.wrap .i64 (1 + IntKind.wrap .i64 (Int.tmod a3 3)) = _; rw [m2]; rfl
        have qC := sC htab (GC_hold hT0 hT1 hT2) eC0_0_1
        exact fin htab (GM_hold hU hO hT0 hT1 hT2) qU qB qC r5_0_0_1
      · have hT2 : XT2.den (vv a0 a1 a2 a3) = .ofNat 3 := by show IntKind.wrap .i64 (1 + IntKind.wrap .i64 (Int.tmod a3 3)) = _; rw [m2]; rfl
        have qC := sC htab (GC_hold hT0 hT1 hT2) eC0_0_2
        exact fin htab (GM_hold hU hO hT0 hT1 hT2) qU qB qC r5_0_0_2
    · have hT1 : XT1.den (vv a0 a1 a2 a3) = .ofNat 2 := by show IntKind.wrap .i64 (1 + IntKind.wrap .i64 (Int.tmod a2 3)) = _; rw [m1]; rfl
      have qB := sB htab (GB_hold hO hO1 hO2 hT0 hT1) eB5_0_1
      rcases k2 with m2 | m2 | m2
      · have hT2 : XT2.den (vv a0 a1 a2 a3) = .ofNat 1 := by show IntKind.wrap .i64 (1 + IntKind.wrap .i64 (Int.tmod a3 3)) = _; rw [m2]; rfl
        have qC := sC htab (GC_hold hT0 hT1 hT2) eC0_1_0
        exact fin htab (GM_hold hU hO hT0 hT1 hT2) qU qB qC r5_0_1_0
      · have hT2 : XT2.den (vv a0 a1 a2 a3) = .ofNat 2 := by show IntKind.wrap .i64 (1 + IntKind.wrap .i64 (Int.tmod a3 3)) = _; rw [m2]; rfl
        have qC := sC htab (GC_hold hT0 hT1 hT2) eC0_1_1
        exact fin htab (GM_hold hU hO hT0 hT1 hT2) qU qB qC r5_0_1_1
      · have hT2 : XT2.den (vv a0 a1 a2 a3) = .ofNat 3 := by show IntKind.wrap .i64 (1 + IntKind.wrap .i64 (Int.tmod a3 3)) = _; rw [m2]; rfl
        have qC := sC htab (GC_hold hT0 hT1 hT2) eC0_1_2
        exact fin htab (GM_hold hU hO hT0 hT1 hT2) qU qB qC r5_0_1_2
    · have hT1 : XT1.den (vv a0 a1 a2 a3) = .ofNat 3 := by show IntKind.wrap .i64 (1 + IntKind.wrap .i64 (Int.tmod a2 3)) = _; rw [m1]; rfl
      have qB := sB htab (GB_hold hO hO1 hO2 hT0 hT1) eB5_0_2
      rcases k2 with m2 | m2 | m2
      · have hT2 : XT2.den (vv a0 a1 a2 a3) = .ofNat 1 := by show IntKind.wrap .i64 (1 + IntKind.wrap .i64 (Int.tmod a3 3)) = _; rw [m2]; rfl
        have qC := sC htab (GC_hold hT0 hT1 hT2) eC0_2_0
        exact fin htab (GM_hold hU hO hT0 hT1 hT2) qU qB qC r5_0_2_0
      · have hT2 : XT2.den (vv a0 a1 a2 a3) = .ofNat 2 := by show IntKind.wrap .i64 (1 + IntKind.wrap .i64 (Int.tmod a3 3)) = _; rw [m2]; rfl
        have qC := sC htab (GC_hold hT0 hT1 hT2) eC0_2_1
        exact fin htab (GM_hold hU hO hT0 hT1 hT2) qU qB qC r5_0_2_1
      · have hT2 : XT2.den (vv a0 a1 a2 a3) = .ofNat 3 := by show IntKind.wrap .i64 (1 + IntKind.wrap .i64 (Int.tmod a3 3)) = _; rw [m2]; rfl
        have qC := sC htab (GC_hold hT0 hT1 hT2) eC0_2_2
        exact fin htab (GM_hold hU hO hT0 hT1 hT2) qU qB qC r5_0_2_2
  · have hT0 : XT0.den (vv a0 a1 a2 a3) = .ofNat 2 := by show IntKind.wrap .i64 (1 + IntKind.wrap .i64 (Int.tmod a1 3)) = _; rw [m0]; rfl
    have qU := sU htab (GU_hold hU hU1 hT0) eU0_1
    rcases k1 with m1 | m1 | m1
    · have hT1 : XT1.den (vv a0 a1 a2 a3) = .ofNat 1 := by show IntKind.wrap .i64 (1 + IntKind.wrap .i64 (Int.tmod a2 3)) = _; rw [m1]; rfl
      have qB := sB htab (GB_hold hO hO1 hO2 hT0 hT1) eB5_1_0
      rcases k2 with m2 | m2 | m2
      · have hT2 : XT2.den (vv a0 a1 a2 a3) = .ofNat 1 := by show IntKind.wrap .i64 (1 + IntKind.wrap .i64 (Int.tmod a3 3)) = _; rw [m2]; rfl
        have qC := sC htab (GC_hold hT0 hT1 hT2) eC1_0_0
        exact fin htab (GM_hold hU hO hT0 hT1 hT2) qU qB qC r5_1_0_0
      · have hT2 : XT2.den (vv a0 a1 a2 a3) = .ofNat 2 := by show IntKind.wrap .i64 (1 + IntKind.wrap .i64 (Int.tmod a3 3)) = _; rw [m2]; rfl
        have qC := sC htab (GC_hold hT0 hT1 hT2) eC1_0_1
        exact fin htab (GM_hold hU hO hT0 hT1 hT2) qU qB qC r5_1_0_1
      · have hT2 : XT2.den (vv a0 a1 a2 a3) = .ofNat 3 := by show IntKind.wrap .i64 (1 + IntKind.wrap .i64 (Int.tmod a3 3)) = _; rw [m2]; rfl
        have qC := sC htab (GC_hold hT0 hT1 hT2) eC1_0_2
        exact fin htab (GM_hold hU hO hT0 hT1 hT2) qU qB qC r5_1_0_2
    · have hT1 : XT1.den (vv a0 a1 a2 a3) = .ofNat 2 := by show IntKind.wrap .i64 (1 + IntKind.wrap .i64 (Int.tmod a2 3)) = _; rw [m1]; rfl
      have qB := sB htab (GB_hold hO hO1 hO2 hT0 hT1) eB5_1_1
      rcases k2 with m2 | m2 | m2
      · have hT2 : XT2.den (vv a0 a1 a2 a3) = .ofNat 1 := by show IntKind.wrap .i64 (1 + IntKind.wrap .i64 (Int.tmod a3 3)) = _; rw [m2]; rfl
        have qC := sC htab (GC_hold hT0 hT1 hT2) eC1_1_0
        exact fin htab (GM_hold hU hO hT0 hT1 hT2) qU qB qC r5_1_1_0
      · have hT2 : XT2.den (vv a0 a1 a2 a3) = .ofNat 2 := by show IntKind.wrap .i64 (1 + IntKind.wrap .i64 (Int.tmod a3 3)) = _; rw [m2]; rfl
        have qC := sC htab (GC_hold hT0 hT1 hT2) eC1_1_1
        exact fin htab (GM_hold hU hO hT0 hT1 hT2) qU qB qC r5_1_1_1
      · have hT2 : XT2.den (vv a0 a1 a2 a3) = .ofNat 3 := by show IntKind.wrap .i64 (1 + IntKind.wrap .i64 (Int.tmod a3 3)) = _; rw [m2]; rfl
        have qC := sC htab (GC_hold hT0 hT1 hT2) eC1_1_2
        exact fin htab (GM_hold hU hO hT0 hT1 hT2) qU qB qC r5_1_1_2
    · have hT1 : XT1.den (vv a0 a1 a2 a3) = .ofNat 3 := by show IntKind.wrap .i64 (1 + IntKind.wrap .i64 (Int.tmod a2 3)) = _; rw [m1]; rfl
      have qB := sB htab (GB_hold hO hO1 hO2 hT0 hT1) eB5_1_2
      rcases k2 with m2 | m2 | m2
      · have hT2 : XT2.den (vv a0 a1 a2 a3) = .ofNat 1 := by show IntKind.wrap .i64 (1 + IntKind.wrap .i64 (Int.tmod a3 3)) = _; rw [m2]; rfl
        have qC := sC htab (GC_hold hT0 hT1 hT2) eC1_2_0
        exact fin htab (GM_hold hU hO hT0 hT1 hT2) qU qB qC r5_1_2_0
      · have hT2 : XT2.den (vv a0 a1 a2 a3) = .ofNat 2 := by show IntKind.wrap .i64 (1 + IntKind.wrap .i64 (Int.tmod a3 3)) = _; rw [m2]; rfl
        have qC := sC htab (GC_hold hT0 hT1 hT2) eC1_2_1
        exact fin htab (GM_hold hU hO hT0 hT1 hT2) qU qB qC r5_1_2_1
      · have hT2 : XT2.den (vv a0 a1 a2 a3) = .ofNat 3 := by show IntKind.wrap .i64 (1 + IntKind.wrap .i64 (Int.tmod a3 3)) = _; rw [m2]; rfl
        have qC := sC htab (GC_hold hT0 hT1 hT2) eC1_2_2
        exact fin htab (GM_hold hU hO hT0 hT1 hT2) qU qB qC r5_1_2_2
  · have hT0 : XT0.den (vv a0 a1 a2 a3) = .ofNat 3 := by show IntKind.wrap .i64 (1 + IntKind.wrap .i64 (Int.tmod a1 3)) = _; rw [m0]; rfl
    have qU := sU htab (GU_hold hU hU1 hT0) eU0_2
    rcases k1 with m1 | m1 | m1
    · have hT1 : XT1.den (vv a0 a1 a2 a3) = .ofNat 1 := by show IntKind.wrap .i64 (1 + IntKind.wrap .i64 (Int.tmod a2 3)) = _; rw [m1]; rfl
      have qB := sB htab (GB_hold hO hO1 hO2 hT0 hT1) eB5_2_0
      rcases k2 with m2 | m2 | m2
      · have hT2 : XT2.den (vv a0 a1 a2 a3) = .ofNat 1 := by show IntKind.wrap .i64 (1 + IntKind.wrap .i64 (Int.tmod a3 3)) = _; rw [m2]; rfl
        have qC := sC htab (GC_hold hT0 hT1 hT2) eC2_0_0
        exact fin htab (GM_hold hU hO hT0 hT1 hT2) qU qB qC r5_2_0_0
      · have hT2 : XT2.den (vv a0 a1 a2 a3) = .ofNat 2 := by show IntKind.wrap .i64 (1 + IntKind.wrap .i64 (Int.tmod a3 3)) = _; rw [m2]; rfl
        have qC := sC htab (GC_hold hT0 hT1 hT2) eC2_0_1
        exact fin htab (GM_hold hU hO hT0 hT1 hT2) qU qB qC r5_2_0_1
      · have hT2 : XT2.den (vv a0 a1 a2 a3) = .ofNat 3 := by show IntKind.wrap .i64 (1 + IntKind.wrap .i64 (Int.tmod a3 3)) = _; rw [m2]; rfl
        have qC := sC htab (GC_hold hT0 hT1 hT2) eC2_0_2
        exact fin htab (GM_hold hU hO hT0 hT1 hT2) qU qB qC r5_2_0_2
    · have hT1 : XT1.den (vv a0 a1 a2 a3) = .ofNat 2 := by show IntKind.wrap .i64 (1 + IntKind.wrap .i64 (Int.tmod a2 3)) = _; rw [m1]; rfl
      have qB := sB htab (GB_hold hO hO1 hO2 hT0 hT1) eB5_2_1
      rcases k2 with m2 | m2 | m2
      · have hT2 : XT2.den (vv a0 a1 a2 a3) = .ofNat 1 := by show IntKind.wrap .i64 (1 + IntKind.wrap .i64 (Int.tmod a3 3)) = _; rw [m2]; rfl
        have qC := sC htab (GC_hold hT0 hT1 hT2) eC2_1_0
        exact fin htab (GM_hold hU hO hT0 hT1 hT2) qU qB qC r5_2_1_0
      · have hT2 : XT2.den (vv a0 a1 a2 a3) = .ofNat 2 := by show IntKind.wrap .i64 (1 + IntKind.wrap .i64 (Int.tmod a3 3)) = _; rw [m2]; rfl
        have qC := sC htab (GC_hold hT0 hT1 hT2) eC2_1_1
        exact fin htab (GM_hold hU hO hT0 hT1 hT2) qU qB qC r5_2_1_1
      · have hT2 : XT2.den (vv a0 a1 a2 a3) = .ofNat 3 := by show IntKind.wrap .i64 (1 + IntKind.wrap .i64 (Int.tmod a3 3)) = _; rw [m2]; rfl
        have qC := sC htab (GC_hold hT0 hT1 hT2) eC2_1_2
        exact fin htab (GM_hold hU hO hT0 hT1 hT2) qU qB qC r5_2_1_2
    · have hT1 : XT1.den (vv a0 a1 a2 a3) = .ofNat 3 := by show IntKind.wrap .i64 (1 + IntKind.wrap .i64 (Int.tmod a2 3)) = _; rw [m1]; rfl
      have qB := sB htab (GB_hold hO hO1 hO2 hT0 hT1) eB5_2_2
      rcases k2 with m2 | m2 | m2
      · have hT2 : XT2.den (vv a0 a1 a2 a3) = .ofNat 1 := by show IntKind.wrap .i64 (1 + IntKind.wrap .i64 (Int.tmod a3 3)) = _; rw [m2]; rfl
        have qC := sC htab (GC_hold hT0 hT1 hT2) eC2_2_0
        exact fin htab (GM_hold hU hO hT0 hT1 hT2) qU qB qC r5_2_2_0
      · have hT2 : XT2.den (vv a0 a1 a2 a3) = .ofNat 2 := by show IntKind.wrap .i64 (1 + IntKind.wrap .i64 (Int.tmod a3 3)) = _; rw [m2]; rfl
        have qC := sC htab (GC_hold hT0 hT1 hT2) eC2_2_1
        exact fin htab (GM_hold hU hO hT0 hT1 hT2) qU qB qC r5_2_2_1
      · have hT2 : XT2.den (vv a0 a1 a2 a3) = .ofNat 3 := by show IntKind.wrap .i64 (1 + IntKind.wrap .i64 (Int.tmod a3 3)) = _; rw [m2]; rfl
        have qC := sC htab (GC_hold hT0 hT1 hT2) eC2_2_2
        exact fin htab (GM_hold hU hO hT0 hT1 hT2) qU qB qC r5_2_2_2
theorem c6 (a0 a1 a2 a3 : Int) (b0 : (0 : Int) ≤ a0 ∧ a0 ≤ 255) (b1 : (0 : Int) ≤ a1 ∧ a1 ≤ 255) (b2 : (0 : Int) ≤ a2 ∧ a2 ≤ 255) (b3 : (0 : Int) ≤ a3 ∧ a3 ≤ 255) (ho : Int.tmod a0 20 = 6) (w : World) (htab : Lib.TabIs Tryz.prog w "internal/strconv.uint64pow10" .u64 Lib.pow10Tab) : Calls Tryz.prog 4 #[.int .u8 a0, .agg #[.int .u8 a1, .int .u8 a2, .int .u8 a3]] w fun e w' => e = .returned (.bool true) ∧ Kept w w' := by
  have hw : IntKind.wrap .i64 a0 = a0 := wrap_in .i64 a0 (show (-9223372036854775808 : Int) ≤ a0 ∧ a0 ≤ (9223372036854775807 : Int) by omega)
  have h5 : Int.tmod a0 5 = 1 := by
    rw [Int.tmod_eq_emod_of_nonneg b0.1] at ho ⊢
    omega
  have hU : XU.den (vv a0 a1 a2 a3) = .ofNat 2 := by show IntKind.wrap .i64 (1 + Int.tmod (IntKind.wrap .i64 a0) 5) = _; rw [hw, h5]; rfl
  have hU1 : XU1.den (vv a0 a1 a2 a3) = .ofNat 1 := by show IntKind.wrap .i64 (XU.den (vv a0 a1 a2 a3) - 1) = _; rw [hU]; rfl
  have hO : XO.den (vv a0 a1 a2 a3) = .ofNat 16 := by show IntKind.wrap .i64 (10 + Int.tmod (IntKind.wrap .i64 a0) 20) = _; rw [hw, ho]; rfl
  have hO1 : XO1.den (vv a0 a1 a2 a3) = .ofNat 6 := by show IntKind.wrap .i64 (XO.den (vv a0 a1 a2 a3) - 10) = _; rw [hO]; rfl
  have hO2 : XO2.den (vv a0 a1 a2 a3) = .negSucc 5 := by show IntKind.wrap .i64 (XO.den (vv a0 a1 a2 a3) - 22) = _; rw [hO]; rfl
  have k0 : Int.tmod a1 3 = 0 ∨ Int.tmod a1 3 = 1 ∨ Int.tmod a1 3 = 2 := by
    rw [Int.tmod_eq_emod_of_nonneg b1.1]
    omega
  have k1 : Int.tmod a2 3 = 0 ∨ Int.tmod a2 3 = 1 ∨ Int.tmod a2 3 = 2 := by
    rw [Int.tmod_eq_emod_of_nonneg b2.1]
    omega
  have k2 : Int.tmod a3 3 = 0 ∨ Int.tmod a3 3 = 1 ∨ Int.tmod a3 3 = 2 := by
    rw [Int.tmod_eq_emod_of_nonneg b3.1]
    omega
  rcases k0 with m0 | m0 | m0
  · have hT0 : XT0.den (vv a0 a1 a2 a3) = .ofNat 1 := by show IntKind.wrap .i64 (1 + IntKind.wrap .i64 (Int.tmod a1 3)) = _; rw [m0]; rfl
    have qU := sU htab (GU_hold hU hU1 hT0) eU1_0
    rcases k1 with m1 | m1 | m1
    · have hT1 : XT1.den (vv a0 a1 a2 a3) = .ofNat 1 := by show IntKind.wrap .i64 (1 + IntKind.wrap .i64 (Int.tmod a2 3)) = _; rw [m1]; rfl
      have qB := sB htab (GB_hold hO hO1 hO2 hT0 hT1) eB6_0_0
      rcases k2 with m2 | m2 | m2
      · have hT2 : XT2.den (vv a0 a1 a2 a3) = .ofNat 1 := by show IntKind.wrap .i64 (1 + IntKind.wrap .i64 (Int.tmod a3 3)) = _; rw [m2]; rfl
        have qC := sC htab (GC_hold hT0 hT1 hT2) eC0_0_0
        exact fin htab (GM_hold hU hO hT0 hT1 hT2) qU qB qC r6_0_0_0
      · have hT2 : XT2.den (vv a0 a1 a2 a3) = .ofNat 2 := by show IntKind.wrap .i64 (1 + IntKind.wrap .i64 (Int.tmod a3 3)) = _; rw [m2]; rfl
        have qC := sC htab (GC_hold hT0 hT1 hT2) eC0_0_1
        exact fin htab (GM_hold hU hO hT0 hT1 hT2) qU qB qC r6_0_0_1
      · have hT2 : XT2.den (vv a0 a1 a2 a3) = .ofNat 3 := by show IntKind.wrap .i64 (1 + IntKind.wrap .i64 (Int.tmod a3 3)) = _; rw [m2]; rfl
        have qC := sC htab (GC_hold hT0 hT1 hT2) eC0_0_2
        exact fin htab (GM_hold hU hO hT0 hT1 hT2) qU qB qC r6_0_0_2
    · have hT1 : XT1.den (vv a0 a1 a2 a3) = .ofNat 2 := by show IntKind.wrap .i64 (1 + IntKind.wrap .i64 (Int.tmod a2 3)) = _; rw [m1]; rfl
      have qB := sB htab (GB_hold hO hO1 hO2 hT0 hT1) eB6_0_1
      rcases k2 with m2 | m2 | m2
      · have hT2 : XT2.den (vv a0 a1 a2 a3) = .ofNat 1 := by show IntKind.wrap .i64 (1 + IntKind.wrap .i64 (Int.tmod a3 3)) = _; rw [m2]; rfl
        have qC := sC htab (GC_hold hT0 hT1 hT2) eC0_1_0
        exact fin htab (GM_hold hU hO hT0 hT1 hT2) qU qB qC r6_0_1_0
      · have hT2 : XT2.den (vv a0 a1 a2 a3) = .ofNat 2 := by show IntKind.wrap .i64 (1 + IntKind.wrap .i64 (Int.tmod a3 3)) = _; rw [m2]; rfl
        have qC := sC htab (GC_hold hT0 hT1 hT2) eC0_1_1
        exact fin htab (GM_hold hU hO hT0 hT1 hT2) qU qB qC r6_0_1_1
      · have hT2 : XT2.den (vv a0 a1 a2 a3) = .ofNat 3 := by show IntKind.wrap .i64 (1 + IntKind.wrap .i64 (Int.tmod a3 3)) = _; rw [m2]; rfl
        have qC := sC htab (GC_hold hT0 hT1 hT2) eC0_1_2
        exact fin htab (GM_hold hU hO hT0 hT1 hT2) qU qB qC r6_0_1_2
    · have hT1 : XT1.den (vv a0 a1 a2 a3) = .ofNat 3 := by show IntKind.wrap .i64 (1 + IntKind.wrap .i64 (Int.tmod a2 3)) = _; rw [m1]; rfl
      have qB := sB htab (GB_hold hO hO1 hO2 hT0 hT1) eB6_0_2
      rcases k2 with m2 | m2 | m2
      · have hT2 : XT2.den (vv a0 a1 a2 a3) = .ofNat 1 := by show IntKind.wrap .i64 (1 + IntKind.wrap .i64 (Int.tmod a3 3)) = _; rw [m2]; rfl
        have qC := sC htab (GC_hold hT0 hT1 hT2) eC0_2_0
        exact fin htab (GM_hold hU hO hT0 hT1 hT2) qU qB qC r6_0_2_0
      · have hT2 : XT2.den (vv a0 a1 a2 a3) = .ofNat 2 := by show IntKind.wrap .i64 (1 + IntKind.wrap .i64 (Int.tmod a3 3)) = _; rw [m2]; rfl
        have qC := sC htab (GC_hold hT0 hT1 hT2) eC0_2_1
        exact fin htab (GM_hold hU hO hT0 hT1 hT2) qU qB qC r6_0_2_1
      · have hT2 : XT2.den (vv a0 a1 a2 a3) = .ofNat 3 := by show IntKind.wrap .i64 (1 + IntKind.wrap .i64 (Int.tmod a3 3)) = _; rw [m2]; rfl
        have qC := sC htab (GC_hold hT0 hT1 hT2) eC0_2_2
        exact fin htab (GM_hold hU hO hT0 hT1 hT2) qU qB qC r6_0_2_2
  · have hT0 : XT0.den (vv a0 a1 a2 a3) = .ofNat 2 := by show IntKind.wrap .i64 (1 + IntKind.wrap .i64 (Int.tmod a1 3)) = _; rw [m0]; rfl
    have qU := sU htab (GU_hold hU hU1 hT0) eU1_1
    rcases k1 with m1 | m1 | m1
    · have hT1 : XT1.den (vv a0 a1 a2 a3) = .ofNat 1 := by show IntKind.wrap .i64 (1 + IntKind.wrap .i64 (Int.tmod a2 3)) = _; rw [m1]; rfl
      have qB := sB htab (GB_hold hO hO1 hO2 hT0 hT1) eB6_1_0
      rcases k2 with m2 | m2 | m2
      · have hT2 : XT2.den (vv a0 a1 a2 a3) = .ofNat 1 := by show IntKind.wrap .i64 (1 + IntKind.wrap .i64 (Int.tmod a3 3)) = _; rw [m2]; rfl
        have qC := sC htab (GC_hold hT0 hT1 hT2) eC1_0_0
        exact fin htab (GM_hold hU hO hT0 hT1 hT2) qU qB qC r6_1_0_0
      · have hT2 : XT2.den (vv a0 a1 a2 a3) = .ofNat 2 := by show IntKind.wrap .i64 (1 + IntKind.wrap .i64 (Int.tmod a3 3)) = _; rw [m2]; rfl
        have qC := sC htab (GC_hold hT0 hT1 hT2) eC1_0_1
        exact fin htab (GM_hold hU hO hT0 hT1 hT2) qU qB qC r6_1_0_1
      · have hT2 : XT2.den (vv a0 a1 a2 a3) = .ofNat 3 := by show IntKind.wrap .i64 (1 + IntKind.wrap .i64 (Int.tmod a3 3)) = _; rw [m2]; rfl
        have qC := sC htab (GC_hold hT0 hT1 hT2) eC1_0_2
        exact fin htab (GM_hold hU hO hT0 hT1 hT2) qU qB qC r6_1_0_2
    · have hT1 : XT1.den (vv a0 a1 a2 a3) = .ofNat 2 := by show IntKind.wrap .i64 (1 + IntKind.wrap .i64 (Int.tmod a2 3)) = _; rw [m1]; rfl
      have qB := sB htab (GB_hold hO hO1 hO2 hT0 hT1) eB6_1_1
      rcases k2 with m2 | m2 | m2
      · have hT2 : XT2.den (vv a0 a1 a2 a3) = .ofNat 1 := by show IntKind.wrap .i64 (1 + IntKind.wrap .i64 (Int.tmod a3 3)) = _; rw [m2]; rfl
        have qC := sC htab (GC_hold hT0 hT1 hT2) eC1_1_0
        exact fin htab (GM_hold hU hO hT0 hT1 hT2) qU qB qC r6_1_1_0
      · have hT2 : XT2.den (vv a0 a1 a2 a3) = .ofNat 2 := by show IntKind.wrap .i64 (1 + IntKind.wrap .i64 (Int.tmod a3 3)) = _; rw [m2]; rfl
        have qC := sC htab (GC_hold hT0 hT1 hT2) eC1_1_1
        exact fin htab (GM_hold hU hO hT0 hT1 hT2) qU qB qC r6_1_1_1
      · have hT2 : XT2.den (vv a0 a1 a2 a3) = .ofNat 3 := by show IntKind.wrap .i64 (1 + IntKind.wrap .i64 (Int.tmod a3 3)) = _; rw [m2]; rfl
        have qC := sC htab (GC_hold hT0 hT1 hT2) eC1_1_2
        exact fin htab (GM_hold hU hO hT0 hT1 hT2) qU qB qC r6_1_1_2
    · have hT1 : XT1.den (vv a0 a1 a2 a3) = .ofNat 3 := by show IntKind.wrap .i64 (1 + IntKind.wrap .i64 (Int.tmod a2 3)) = _; rw [m1]; rfl
      have qB := sB htab (GB_hold hO hO1 hO2 hT0 hT1) eB6_1_2
      rcases k2 with m2 | m2 | m2
      · have hT2 : XT2.den (vv a0 a1 a2 a3) = .ofNat 1 := by show IntKind.wrap .i64 (1 + IntKind.wrap .i64 (Int.tmod a3 3)) = _; rw [m2]; rfl
        have qC := sC htab (GC_hold hT0 hT1 hT2) eC1_2_0
        exact fin htab (GM_hold hU hO hT0 hT1 hT2) qU qB qC r6_1_2_0
      · have hT2 : XT2.den (vv a0 a1 a2 a3) = .ofNat 2 := by show IntKind.wrap .i64 (1 + IntKind.wrap .i64 (Int.tmod a3 3)) = _; rw [m2]; rfl
        have qC := sC htab (GC_hold hT0 hT1 hT2) eC1_2_1
        exact fin htab (GM_hold hU hO hT0 hT1 hT2) qU qB qC r6_1_2_1
      · have hT2 : XT2.den (vv a0 a1 a2 a3) = .ofNat 3 := by show IntKind.wrap .i64 (1 + IntKind.wrap .i64 (Int.tmod a3 3)) = _; rw [m2]; rfl
        have qC := sC htab (GC_hold hT0 hT1 hT2) eC1_2_2
        exact fin htab (GM_hold hU hO hT0 hT1 hT2) qU qB qC r6_1_2_2
  · have hT0 : XT0.den (vv a0 a1 a2 a3) = .ofNat 3 := by show IntKind.wrap .i64 (1 + IntKind.wrap .i64 (Int.tmod a1 3)) = _; rw [m0]; rfl
    have qU := sU htab (GU_hold hU hU1 hT0) eU1_2
    rcases k1 with m1 | m1 | m1
    · have hT1 : XT1.den (vv a0 a1 a2 a3) = .ofNat 1 := by show IntKind.wrap .i64 (1 + IntKind.wrap .i64 (Int.tmod a2 3)) = _; rw [m1]; rfl
      have qB := sB htab (GB_hold hO hO1 hO2 hT0 hT1) eB6_2_0
      rcases k2 with m2 | m2 | m2
      · have hT2 : XT2.den (vv a0 a1 a2 a3) = .ofNat 1 := by show IntKind.wrap .i64 (1 + IntKind.wrap .i64 (Int.tmod a3 3)) = _; rw [m2]; rfl
        have qC := sC htab (GC_hold hT0 hT1 hT2) eC2_0_0
        exact fin htab (GM_hold hU hO hT0 hT1 hT2) qU qB qC r6_2_0_0
      · have hT2 : XT2.den (vv a0 a1 a2 a3) = .ofNat 2 := by show IntKind.wrap .i64 (1 + IntKind.wrap .i64 (Int.tmod a3 3)) = _; rw [m2]; rfl
        have qC := sC htab (GC_hold hT0 hT1 hT2) eC2_0_1
        exact fin htab (GM_hold hU hO hT0 hT1 hT2) qU qB qC r6_2_0_1
      · have hT2 : XT2.den (vv a0 a1 a2 a3) = .ofNat 3 := by show IntKind.wrap .i64 (1 + IntKind.wrap .i64 (Int.tmod a3 3)) = _; rw [m2]; rfl
        have qC := sC htab (GC_hold hT0 hT1 hT2) eC2_0_2
        exact fin htab (GM_hold hU hO hT0 hT1 hT2) qU qB qC r6_2_0_2
    · have hT1 : XT1.den (vv a0 a1 a2 a3) = .ofNat 2 := by show IntKind.wrap .i64 (1 + IntKind.wrap .i64 (Int.tmod a2 3)) = _; rw [m1]; rfl
      have qB := sB htab (GB_hold hO hO1 hO2 hT0 hT1) eB6_2_1
      rcases k2 with m2 | m2 | m2
      · have hT2 : XT2.den (vv a0 a1 a2 a3) = .ofNat 1 := by show IntKind.wrap .i64 (1 + IntKind.wrap .i64 (Int.tmod a3 3)) = _; rw [m2]; rfl
        have qC := sC htab (GC_hold hT0 hT1 hT2) eC2_1_0
        exact fin htab (GM_hold hU hO hT0 hT1 hT2) qU qB qC r6_2_1_0
      · have hT2 : XT2.den (vv a0 a1 a2 a3) = .ofNat 2 := by show IntKind.wrap .i64 (1 + IntKind.wrap .i64 (Int.tmod a3 3)) = _; rw [m2]; rfl
        have qC := sC htab (GC_hold hT0 hT1 hT2) eC2_1_1
        exact fin htab (GM_hold hU hO hT0 hT1 hT2) qU qB qC r6_2_1_1
      · have hT2 : XT2.den (vv a0 a1 a2 a3) = .ofNat 3 := by show IntKind.wrap .i64 (1 + IntKind.wrap .i64 (Int.tmod a3 3)) = _; rw [m2]; rfl
        have qC := sC htab (GC_hold hT0 hT1 hT2) eC2_1_2
        exact fin htab (GM_hold hU hO hT0 hT1 hT2) qU qB qC r6_2_1_2
    · have hT1 : XT1.den (vv a0 a1 a2 a3) = .ofNat 3 := by show IntKind.wrap .i64 (1 + IntKind.wrap .i64 (Int.tmod a2 3)) = _; rw [m1]; rfl
      have qB := sB htab (GB_hold hO hO1 hO2 hT0 hT1) eB6_2_2
      rcases k2 with m2 | m2 | m2
      · have hT2 : XT2.den (vv a0 a1 a2 a3) = .ofNat 1 := by show IntKind.wrap .i64 (1 + IntKind.wrap .i64 (Int.tmod a3 3)) = _; rw [m2]; rfl
        have qC := sC htab (GC_hold hT0 hT1 hT2) eC2_2_0
        exact fin htab (GM_hold hU hO hT0 hT1 hT2) qU qB qC r6_2_2_0
      · have hT2 : XT2.den (vv a0 a1 a2 a3) = .ofNat 2 := by show IntKind.wrap .i64 (1 + IntKind.wrap .i64 (Int.tmod a3 3)) = _; rw [m2]; rfl
        have qC := sC htab (GC_hold hT0 hT1 hT2) eC2_2_1
        exact fin htab (GM_hold hU hO hT0 hT1 hT2) qU qB qC r6_2_2_1
      · have hT2 : XT2.den (vv a0 a1 a2 a3) = .ofNat 3 := by show IntKind.wrap .i64 (1 + IntKind.wrap .i64 (Int.tmod a3 3)) = _; rw [m2]; rfl
        have qC := sC htab (GC_hold hT0 hT1 hT2) eC2_2_2
        exact fin htab (GM_hold hU hO hT0 hT1 hT2) qU qB qC r6_2_2_2
theorem c7 (a0 a1 a2 a3 : Int) (b0 : (0 : Int) ≤ a0 ∧ a0 ≤ 255) (b1 : (0 : Int) ≤ a1 ∧ a1 ≤ 255) (b2 : (0 : Int) ≤ a2 ∧ a2 ≤ 255) (b3 : (0 : Int) ≤ a3 ∧ a3 ≤ 255) (ho : Int.tmod a0 20 = 7) (w : World) (htab : Lib.TabIs Tryz.prog w "internal/strconv.uint64pow10" .u64 Lib.pow10Tab) : Calls Tryz.prog 4 #[.int .u8 a0, .agg #[.int .u8 a1, .int .u8 a2, .int .u8 a3]] w fun e w' => e = .returned (.bool true) ∧ Kept w w' := by
  have hw : IntKind.wrap .i64 a0 = a0 := wrap_in .i64 a0 (show (-9223372036854775808 : Int) ≤ a0 ∧ a0 ≤ (9223372036854775807 : Int) by omega)
  have h5 : Int.tmod a0 5 = 2 := by
    rw [Int.tmod_eq_emod_of_nonneg b0.1] at ho ⊢
    omega
  have hU : XU.den (vv a0 a1 a2 a3) = .ofNat 3 := by show IntKind.wrap .i64 (1 + Int.tmod (IntKind.wrap .i64 a0) 5) = _; rw [hw, h5]; rfl
  have hU1 : XU1.den (vv a0 a1 a2 a3) = .ofNat 2 := by show IntKind.wrap .i64 (XU.den (vv a0 a1 a2 a3) - 1) = _; rw [hU]; rfl
  have hO : XO.den (vv a0 a1 a2 a3) = .ofNat 17 := by show IntKind.wrap .i64 (10 + Int.tmod (IntKind.wrap .i64 a0) 20) = _; rw [hw, ho]; rfl
  have hO1 : XO1.den (vv a0 a1 a2 a3) = .ofNat 7 := by show IntKind.wrap .i64 (XO.den (vv a0 a1 a2 a3) - 10) = _; rw [hO]; rfl
  have hO2 : XO2.den (vv a0 a1 a2 a3) = .negSucc 4 := by show IntKind.wrap .i64 (XO.den (vv a0 a1 a2 a3) - 22) = _; rw [hO]; rfl
  have k0 : Int.tmod a1 3 = 0 ∨ Int.tmod a1 3 = 1 ∨ Int.tmod a1 3 = 2 := by
    rw [Int.tmod_eq_emod_of_nonneg b1.1]
    omega
  have k1 : Int.tmod a2 3 = 0 ∨ Int.tmod a2 3 = 1 ∨ Int.tmod a2 3 = 2 := by
    rw [Int.tmod_eq_emod_of_nonneg b2.1]
    omega
  have k2 : Int.tmod a3 3 = 0 ∨ Int.tmod a3 3 = 1 ∨ Int.tmod a3 3 = 2 := by
    rw [Int.tmod_eq_emod_of_nonneg b3.1]
    omega
  rcases k0 with m0 | m0 | m0
  · have hT0 : XT0.den (vv a0 a1 a2 a3) = .ofNat 1 := by show IntKind.wrap .i64 (1 + IntKind.wrap .i64 (Int.tmod a1 3)) = _; rw [m0]; rfl
    have qU := sU htab (GU_hold hU hU1 hT0) eU2_0
    rcases k1 with m1 | m1 | m1
    · have hT1 : XT1.den (vv a0 a1 a2 a3) = .ofNat 1 := by show IntKind.wrap .i64 (1 + IntKind.wrap .i64 (Int.tmod a2 3)) = _; rw [m1]; rfl
      have qB := sB htab (GB_hold hO hO1 hO2 hT0 hT1) eB7_0_0
      rcases k2 with m2 | m2 | m2
      · have hT2 : XT2.den (vv a0 a1 a2 a3) = .ofNat 1 := by show IntKind.wrap .i64 (1 + IntKind.wrap .i64 (Int.tmod a3 3)) = _; rw [m2]; rfl
        have qC := sC htab (GC_hold hT0 hT1 hT2) eC0_0_0
        exact fin htab (GM_hold hU hO hT0 hT1 hT2) qU qB qC r7_0_0_0
      · have hT2 : XT2.den (vv a0 a1 a2 a3) = .ofNat 2 := by show IntKind.wrap .i64 (1 + IntKind.wrap .i64 (Int.tmod a3 3)) = _; rw [m2]; rfl
        have qC := sC htab (GC_hold hT0 hT1 hT2) eC0_0_1
        exact fin htab (GM_hold hU hO hT0 hT1 hT2) qU qB qC r7_0_0_1
      · have hT2 : XT2.den (vv a0 a1 a2 a3) = .ofNat 3 := by show IntKind.wrap .i64 (1 + IntKind.wrap .i64 (Int.tmod a3 3)) = _; rw [m2]; rfl
        have qC := sC htab (GC_hold hT0 hT1 hT2) eC0_0_2
        exact fin htab (GM_hold hU hO hT0 hT1 hT2) qU qB qC r7_0_0_2
    · have hT1 : XT1.den (vv a0 a1 a2 a3) = .ofNat 2 := by show IntKind.wrap .i64 (1 + IntKind.wrap .i64 (Int.tmod a2 3)) = _; rw [m1]; rfl
      have qB := sB htab (GB_hold hO hO1 hO2 hT0 hT1) eB7_0_1
      rcases k2 with m2 | m2 | m2
      · have hT2 : XT2.den (vv a0 a1 a2 a3) = .ofNat 1 := by show IntKind.wrap .i64 (1 + IntKind.wrap .i64 (Int.tmod a3 3)) = _; rw [m2]; rfl
        have qC := sC htab (GC_hold hT0 hT1 hT2) eC0_1_0
        exact fin htab (GM_hold hU hO hT0 hT1 hT2) qU qB qC r7_0_1_0
      · have hT2 : XT2.den (vv a0 a1 a2 a3) = .ofNat 2 := by show IntKind.wrap .i64 (1 + IntKind.wrap .i64 (Int.tmod a3 3)) = _; rw [m2]; rfl
        have qC := sC htab (GC_hold hT0 hT1 hT2) eC0_1_1
        exact fin htab (GM_hold hU hO hT0 hT1 hT2) qU qB qC r7_0_1_1
      · have hT2 : XT2.den (vv a0 a1 a2 a3) = .ofNat 3 := by show IntKind.wrap .i64 (1 + IntKind.wrap .i64 (Int.tmod a3 3)) = _; rw [m2]; rfl
        have qC := sC htab (GC_hold hT0 hT1 hT2) eC0_1_2
        exact fin htab (GM_hold hU hO hT0 hT1 hT2) qU qB qC r7_0_1_2
    · have hT1 : XT1.den (vv a0 a1 a2 a3) = .ofNat 3 := by show IntKind.wrap .i64 (1 + IntKind.wrap .i64 (Int.tmod a2 3)) = _; rw [m1]; rfl
      have qB := sB htab (GB_hold hO hO1 hO2 hT0 hT1) eB7_0_2
      rcases k2 with m2 | m2 | m2
      · have hT2 : XT2.den (vv a0 a1 a2 a3) = .ofNat 1 := by show IntKind.wrap .i64 (1 + IntKind.wrap .i64 (Int.tmod a3 3)) = _; rw [m2]; rfl
        have qC := sC htab (GC_hold hT0 hT1 hT2) eC0_2_0
        exact fin htab (GM_hold hU hO hT0 hT1 hT2) qU qB qC r7_0_2_0
      · have hT2 : XT2.den (vv a0 a1 a2 a3) = .ofNat 2 := by show IntKind.wrap .i64 (1 + IntKind.wrap .i64 (Int.tmod a3 3)) = _; rw [m2]; rfl
        have qC := sC htab (GC_hold hT0 hT1 hT2) eC0_2_1
        exact fin htab (GM_hold hU hO hT0 hT1 hT2) qU qB qC r7_0_2_1
      · have hT2 : XT2.den (vv a0 a1 a2 a3) = .ofNat 3 := by show IntKind.wrap .i64 (1 + IntKind.wrap .i64 (Int.tmod a3 3)) = _; rw [m2]; rfl
        have qC := sC htab (GC_hold hT0 hT1 hT2) eC0_2_2
        exact fin htab (GM_hold hU hO hT0 hT1 hT2) qU qB qC r7_0_2_2
  · have hT0 : XT0.den (vv a0 a1 a2 a3) = .ofNat 2 := by show IntKind.wrap .i64 (1 + IntKind.wrap .i64 (Int.tmod a1 3)) = _; rw [m0]; rfl
    have qU := sU htab (GU_hold hU hU1 hT0) eU2_1
    rcases k1 with m1 | m1 | m1
    · have hT1 : XT1.den (vv a0 a1 a2 a3) = .ofNat 1 := by show IntKind.wrap .i64 (1 + IntKind.wrap .i64 (Int.tmod a2 3)) = _; rw [m1]; rfl
      have qB := sB htab (GB_hold hO hO1 hO2 hT0 hT1) eB7_1_0
      rcases k2 with m2 | m2 | m2
      · have hT2 : XT2.den (vv a0 a1 a2 a3) = .ofNat 1 := by show IntKind.wrap .i64 (1 + IntKind.wrap .i64 (Int.tmod a3 3)) = _; rw [m2]; rfl
        have qC := sC htab (GC_hold hT0 hT1 hT2) eC1_0_0
        exact fin htab (GM_hold hU hO hT0 hT1 hT2) qU qB qC r7_1_0_0
      · have hT2 : XT2.den (vv a0 a1 a2 a3) = .ofNat 2 := by show IntKind.wrap .i64 (1 + IntKind.wrap .i64 (Int.tmod a3 3)) = _; rw [m2]; rfl
        have qC := sC htab (GC_hold hT0 hT1 hT2) eC1_0_1
        exact fin htab (GM_hold hU hO hT0 hT1 hT2) qU qB qC r7_1_0_1
      · have hT2 : XT2.den (vv a0 a1 a2 a3) = .ofNat 3 := by show IntKind.wrap .i64 (1 + IntKind.wrap .i64 (Int.tmod a3 3)) = _; rw [m2]; rfl
        have qC := sC htab (GC_hold hT0 hT1 hT2) eC1_0_2
        exact fin htab (GM_hold hU hO hT0 hT1 hT2) qU qB qC r7_1_0_2
    · have hT1 : XT1.den (vv a0 a1 a2 a3) = .ofNat 2 := by show IntKind.wrap .i64 (1 + IntKind.wrap .i64 (Int.tmod a2 3)) = _; rw [m1]; rfl
      have qB := sB htab (GB_hold hO hO1 hO2 hT0 hT1) eB7_1_1
      rcases k2 with m2 | m2 | m2
      · have hT2 : XT2.den (vv a0 a1 a2 a3) = .ofNat 1 := by show IntKind.wrap .i64 (1 + IntKind.wrap .i64 (Int.tmod a3 3)) = _; rw [m2]; rfl
        have qC := sC htab (GC_hold hT0 hT1 hT2) eC1_1_0
        exact fin htab (GM_hold hU hO hT0 hT1 hT2) qU qB qC r7_1_1_0
      · have hT2 : XT2.den (vv a0 a1 a2 a3) = .ofNat 2 := by show IntKind.wrap .i64 (1 + IntKind.wrap .i64 (Int.tmod a3 3)) = _; rw [m2]; rfl
        have qC := sC htab (GC_hold hT0 hT1 hT2) eC1_1_1
        exact fin htab (GM_hold hU hO hT0 hT1 hT2) qU qB qC r7_1_1_1
      · have hT2 : XT2.den (vv a0 a1 a2 a3) = .ofNat 3 := by show IntKind.wrap .i64 (1 + IntKind.wrap .i64 (Int.tmod a3 3)) = _; rw [m2]; rfl
        have qC := sC htab (GC_hold hT0 hT1 hT2) eC1_1_2
        exact fin htab (GM_hold hU hO hT0 hT1 hT2) qU qB qC r7_1_1_2
    · have hT1 : XT1.den (vv a0 a1 a2 a3) = .ofNat 3 := by show IntKind.wrap .i64 (1 + IntKind.wrap .i64 (Int.tmod a2 3)) = _; rw [m1]; rfl
      have qB := sB htab (GB_hold hO hO1 hO2 hT0 hT1) eB7_1_2
      rcases k2 with m2 | m2 | m2
      · have hT2 : XT2.den (vv a0 a1 a2 a3) = .ofNat 1 := by show IntKind.wrap .i64 (1 + IntKind.wrap .i64 (Int.tmod a3 3)) = _; rw [m2]; rfl
        have qC := sC htab (GC_hold hT0 hT1 hT2) eC1_2_0
        exact fin htab (GM_hold hU hO hT0 hT1 hT2) qU qB qC r7_1_2_0
      · have hT2 : XT2.den (vv a0 a1 a2 a3) = .ofNat 2 := by show IntKind.wrap .i64 (1 + IntKind.wrap .i64 (Int.tmod a3 3)) = _; rw [m2]; rfl
        have qC := sC htab (GC_hold hT0 hT1 hT2) eC1_2_1
        exact fin htab (GM_hold hU hO hT0 hT1 hT2) qU qB qC r7_1_2_1
      · have hT2 : XT2.den (vv a0 a1 a2 a3) = .ofNat 3 := by show IntKind.wrap .i64 (1 + IntKind.wrap .i64 (Int.tmod a3 3)) = _; rw [m2]; rfl
        have qC := sC htab (GC_hold hT0 hT1 hT2) eC1_2_2
        exact fin htab (GM_hold hU hO hT0 hT1 hT2) qU qB qC r7_1_2_2
  · have hT0 : XT0.den (vv a0 a1 a2 a3) = .ofNat 3 := by show IntKind.wrap .i64 (1 + IntKind.wrap .i64 (Int.tmod a1 3)) = _; rw [m0]; rfl
    have qU := sU htab (GU_hold hU hU1 hT0) eU2_2
    rcases k1 with m1 | m1 | m1
    · have hT1 : XT1.den (vv a0 a1 a2 a3) = .ofNat 1 := by show IntKind.wrap .i64 (1 + IntKind.wrap .i64 (Int.tmod a2 3)) = _; rw [m1]; rfl
      have qB := sB htab (GB_hold hO hO1 hO2 hT0 hT1) eB7_2_0
      rcases k2 with m2 | m2 | m2
      · have hT2 : XT2.den (vv a0 a1 a2 a3) = .ofNat 1 := by show IntKind.wrap .i64 (1 + IntKind.wrap .i64 (Int.tmod a3 3)) = _; rw [m2]; rfl
        have qC := sC htab (GC_hold hT0 hT1 hT2) eC2_0_0
        exact fin htab (GM_hold hU hO hT0 hT1 hT2) qU qB qC r7_2_0_0
      · have hT2 : XT2.den (vv a0 a1 a2 a3) = .ofNat 2 := by show IntKind.wrap .i64 (1 + IntKind.wrap .i64 (Int.tmod a3 3)) = _; rw [m2]; rfl
        have qC := sC htab (GC_hold hT0 hT1 hT2) eC2_0_1
        exact fin htab (GM_hold hU hO hT0 hT1 hT2) qU qB qC r7_2_0_1
      · have hT2 : XT2.den (vv a0 a1 a2 a3) = .ofNat 3 := by show IntKind.wrap .i64 (1 + IntKind.wrap .i64 (Int.tmod a3 3)) = _; rw [m2]; rfl
        have qC := sC htab (GC_hold hT0 hT1 hT2) eC2_0_2
        exact fin htab (GM_hold hU hO hT0 hT1 hT2) qU qB qC r7_2_0_2
    · have hT1 : XT1.den (vv a0 a1 a2 a3) = .ofNat 2 := by show IntKind.wrap .i64 (1 + IntKind.wrap .i64 (Int.tmod a2 3)) = _; rw [m1]; rfl
      have qB := sB htab (GB_hold hO hO1 hO2 hT0 hT1) eB7_2_1
      rcases k2 with m2 | m2 | m2
      · have hT2 : XT2.den (vv a0 a1 a2 a3) = .ofNat 1 := by show IntKind.wrap .i64 (1 + IntKind.wrap .i64 (Int.tmod a3 3)) = _; rw [m2]; rfl
        have qC := sC htab (GC_hold hT0 hT1 hT2) eC2_1_0
        exact fin htab (GM_hold hU hO hT0 hT1 hT2) qU qB qC r7_2_1_0
      · have hT2 : XT2.den (vv a0 a1 a2 a3) = .ofNat 2 := by show IntKind.wrap .i64 (1 + IntKind.wrap .i64 (Int.tmod a3 3)) = _; rw [m2]; rfl
        have qC := sC htab (GC_hold hT0 hT1 hT2) eC2_1_1
        exact fin htab (GM_hold hU hO hT0 hT1 hT2) qU qB qC r7_2_1_1
      · have hT2 : XT2.den (vv a0 a1 a2 a3) = .ofNat 3 := by show IntKind.wrap .i64 (1 + IntKind.wrap .i64 (Int.tmod a3 3)) = _; rw [m2]; rfl
        have qC := sC htab (GC_hold hT0 hT1 hT2) eC2_1_2
        exact fin htab (GM_hold hU hO hT0 hT1 hT2) qU qB qC r7_2_1_2
    · have hT1 : XT1.den (vv a0 a1 a2 a3) = .ofNat 3 := by show IntKind.wrap .i64 (1 + IntKind.wrap .i64 (Int.tmod a2 3)) = _; rw [m1]; rfl
      have qB := sB htab (GB_hold hO hO1 hO2 hT0 hT1) eB7_2_2
      rcases k2 with m2 | m2 | m2
      · have hT2 : XT2.den (vv a0 a1 a2 a3) = .ofNat 1 := by show IntKind.wrap .i64 (1 + IntKind.wrap .i64 (Int.tmod a3 3)) = _; rw [m2]; rfl
        have qC := sC htab (GC_hold hT0 hT1 hT2) eC2_2_0
        exact fin htab (GM_hold hU hO hT0 hT1 hT2) qU qB qC r7_2_2_0
      · have hT2 : XT2.den (vv a0 a1 a2 a3) = .ofNat 2 := by show IntKind.wrap .i64 (1 + IntKind.wrap .i64 (Int.tmod a3 3)) = _; rw [m2]; rfl
        have qC := sC htab (GC_hold hT0 hT1 hT2) eC2_2_1
        exact fin htab (GM_hold hU hO hT0 hT1 hT2) qU qB qC r7_2_2_1
      · have hT2 : XT2.den (vv a0 a1 a2 a3) = .ofNat 3 := by show IntKind.wrap .i64 (1 + IntKind.wrap .i64 (Int.tmod a3 3)) = _; rw [m2]; rfl
        have qC := sC htab (GC_hold hT0 hT1 hT2) eC2_2_2
        exact fin htab (GM_hold hU hO hT0 hT1 hT2) qU qB qC r7_2_2_2
theorem c8 (a0 a1 a2 a3 : Int) (b0 : (0 : Int) ≤ a0 ∧ a0 ≤ 255) (b1 : (0 : Int) ≤ a1 ∧ a1 ≤ 255) (b2 : (0 : Int) ≤ a2 ∧ a2 ≤ 255) (b3 : (0 : Int) ≤ a3 ∧ a3 ≤ 255) (ho : Int.tmod a0 20 = 8) (w : World) (htab : Lib.TabIs Tryz.prog w "internal/strconv.uint64pow10" .u64 Lib.pow10Tab) : Calls Tryz.prog 4 #[.int .u8 a0, .agg #[.int .u8 a1, .int .u8 a2, .int .u8 a3]] w fun e w' => e = .returned (.bool true) ∧ Kept w w' := by
  have hw : IntKind.wrap .i64 a0 = a0 := wrap_in .i64 a0 (show (-9223372036854775808 : Int) ≤ a0 ∧ a0 ≤ (9223372036854775807 : Int) by omega)
  have h5 : Int.tmod a0 5 = 3 := by
    rw [Int.tmod_eq_emod_of_nonneg b0.1] at ho ⊢
    omega
  have hU : XU.den (vv a0 a1 a2 a3) = .ofNat 4 := by show IntKind.wrap .i64 (1 + Int.tmod (IntKind.wrap .i64 a0) 5) = _; rw [hw, h5]; rfl
  have hU1 : XU1.den (vv a0 a1 a2 a3) = .ofNat 3 := by show IntKind.wrap .i64 (XU.den (vv a0 a1 a2 a3) - 1) = _; rw [hU]; rfl
  have hO : XO.den (vv a0 a1 a2 a3) = .ofNat 18 := by show IntKind.wrap .i64 (10 + Int.tmod (IntKind.wrap .i64 a0) 20) = _; rw [hw, ho]; rfl
  have hO1 : XO1.den (vv a0 a1 a2 a3) = .ofNat 8 := by show IntKind.wrap .i64 (XO.den (vv a0 a1 a2 a3) - 10) = _; rw [hO]; rfl
  have hO2 : XO2.den (vv a0 a1 a2 a3) = .negSucc 3 := by show IntKind.wrap .i64 (XO.den (vv a0 a1 a2 a3) - 22) = _; rw [hO]; rfl
  have k0 : Int.tmod a1 3 = 0 ∨ Int.tmod a1 3 = 1 ∨ Int.tmod a1 3 = 2 := by
    rw [Int.tmod_eq_emod_of_nonneg b1.1]
    omega
  have k1 : Int.tmod a2 3 = 0 ∨ Int.tmod a2 3 = 1 ∨ Int.tmod a2 3 = 2 := by
    rw [Int.tmod_eq_emod_of_nonneg b2.1]
    omega
  have k2 : Int.tmod a3 3 = 0 ∨ Int.tmod a3 3 = 1 ∨ Int.tmod a3 3 = 2 := by
    rw [Int.tmod_eq_emod_of_nonneg b3.1]
    omega
  rcases k0 with m0 | m0 | m0
  · have hT0 : XT0.den (vv a0 a1 a2 a3) = .ofNat 1 := by show IntKind.wrap .i64 (1 + IntKind.wrap .i64 (Int.tmod a1 3)) = _; rw [m0]; rfl
    have qU := sU htab (GU_hold hU hU1 hT0) eU3_0
    rcases k1 with m1 | m1 | m1
    · have hT1 : XT1.den (vv a0 a1 a2 a3) = .ofNat 1 := by show IntKind.wrap .i64 (1 + IntKind.wrap .i64 (Int.tmod a2 3)) = _; rw [m1]; rfl
      have qB := sB htab (GB_hold hO hO1 hO2 hT0 hT1) eB8_0_0
      rcases k2 with m2 | m2 | m2
      · have hT2 : XT2.den (vv a0 a1 a2 a3) = .ofNat 1 := by show IntKind.wrap .i64 (1 + IntKind.wrap .i64 (Int.tmod a3 3)) = _; rw [m2]; rfl
        have qC := sC htab (GC_hold hT0 hT1 hT2) eC0_0_0
        exact fin htab (GM_hold hU hO hT0 hT1 hT2) qU qB qC r8_0_0_0
      · have hT2 : XT2.den (vv a0 a1 a2 a3) = .ofNat 2 := by show IntKind.wrap .i64 (1 + IntKind.wrap .i64 (Int.tmod a3 3)) = _; rw [m2]; rfl
        have qC := sC htab (GC_hold hT0 hT1 hT2) eC0_0_1
        exact fin htab (GM_hold hU hO hT0 hT1 hT2) qU qB qC r8_0_0_1
      · have hT2 : XT2.den (vv a0 a1 a2 a3) = .ofNat 3 := by show IntKind.wrap .i64 (1 + IntKind.wrap .i64 (Int.tmod a3 3)) = _; rw [m2]; rfl
        have qC := sC htab (GC_hold hT0 hT1 hT2) eC0_0_2
        exact fin htab (GM_hold hU hO hT0 hT1 hT2) qU qB qC r8_0_0_2
    · have hT1 : XT1.den (vv a0 a1 a2 a3) = .ofNat 2 := by show IntKind.wrap .i64 (1 + IntKind.wrap .i64 (Int.tmod a2 3)) = _; rw [m1]; rfl
      have qB := sB htab (GB_hold hO hO1 hO2 hT0 hT1) eB8_0_1
      rcases k2 with m2 | m2 | m2
      · have hT2 : XT2.den (vv a0 a1 a2 a3) = .ofNat 1 := by show IntKind.wrap .i64 (1 + IntKind.wrap .i64 (Int.tmod a3 3)) = _; rw [m2]; rfl
        have qC := sC htab (GC_hold hT0 hT1 hT2) eC0_1_0
        exact fin htab (GM_hold hU hO hT0 hT1 hT2) qU qB qC r8_0_1_0
      · have hT2 : XT2.den (vv a0 a1 a2 a3) = .ofNat 2 := by show IntKind.wrap .i64 (1 + IntKind.wrap .i64 (Int.tmod a3 3)) = _; rw [m2]; rfl
        have qC := sC htab (GC_hold hT0 hT1 hT2) eC0_1_1
        exact fin htab (GM_hold hU hO hT0 hT1 hT2) qU qB qC r8_0_1_1
      · have hT2 : XT2.den (vv a0 a1 a2 a3) = .ofNat 3 := by show IntKind.wrap .i64 (1 + IntKind.wrap .i64 (Int.tmod a3 3)) = _; rw [m2]; rfl
        have qC := sC htab (GC_hold hT0 hT1 hT2) eC0_1_2
        exact fin htab (GM_hold hU hO hT0 hT1 hT2) qU qB qC r8_0_1_2
    · have hT1 : XT1.den (vv a0 a1 a2 a3) = .ofNat 3 := by show IntKind.wrap .i64 (1 + IntKind.wrap .i64 (Int.tmod a2 3)) = _; rw [m1]; rfl
      have qB := sB htab (GB_hold hO hO1 hO2 hT0 hT1) eB8_0_2
      rcases k2 with m2 | m2 | m2
      · have hT2 : XT2.den (vv a0 a1 a2 a3) = .ofNat 1 := by show IntKind.wrap .i64 (1 + IntKind.wrap .i64 (Int.tmod a3 3)) = _; rw [m2]; rfl
        have qC := sC htab (GC_hold hT0 hT1 hT2) eC0_2_0
        exact fin htab (GM_hold hU hO hT0 hT1 hT2) qU qB qC r8_0_2_0
      · have hT2 : XT2.den (vv a0 a1 a2 a3) = .ofNat 2 := by show IntKind.wrap .i64 (1 + IntKind.wrap .i64 (Int.tmod a3 3)) = _; rw [m2]; rfl
        have qC := sC htab (GC_hold hT0 hT1 hT2) eC0_2_1
        exact fin htab (GM_hold hU hO hT0 hT1 hT2) qU qB qC r8_0_2_1
      · have hT2 : XT2.den (vv a0 a1 a2 a3) = .ofNat 3 := by show IntKind.wrap .i64 (1 + IntKind.wrap .i64 (Int.tmod a3 3)) = _; rw [m2]; rfl
        have qC := sC htab (GC_hold hT0 hT1 hT2) eC0_2_2
        exact fin htab (GM_hold hU hO hT0 hT1 hT2) qU qB qC r8_0_2_2
  · have hT0 : XT0.den (vv a0 a1 a2 a3) = .ofNat 2 := by show IntKind.wrap .i64 (1 + IntKind.wrap .i64 (Int.tmod a1 3)) = _; rw [m0]; rfl
    have qU := sU htab (GU_hold hU hU1 hT0) eU3_1
    rcases k1 with m1 | m1 | m1
    · have hT1 : XT1.den (vv a0 a1 a2 a3) = .ofNat 1 := by show IntKind.wrap .i64 (1 + IntKind.wrap .i64 (Int.tmod a2 3)) = _; rw [m1]; rfl
      have qB := sB htab (GB_hold hO hO1 hO2 hT0 hT1) eB8_1_0
      rcases k2 with m2 | m2 | m2
      · have hT2 : XT2.den (vv a0 a1 a2 a3) = .ofNat 1 := by show IntKind.wrap .i64 (1 + IntKind.wrap .i64 (Int.tmod a3 3)) = _; rw [m2]; rfl
        have qC := sC htab (GC_hold hT0 hT1 hT2) eC1_0_0
        exact fin htab (GM_hold hU hO hT0 hT1 hT2) qU qB qC r8_1_0_0
      · have hT2 : XT2.den (vv a0 a1 a2 a3) = .ofNat 2 := by show IntKind.wrap .i64 (1 + IntKind.wrap .i64 (Int.tmod a3 3)) = _; rw [m2]; rfl
        have qC := sC htab (GC_hold hT0 hT1 hT2) eC1_0_1
        exact fin htab (GM_hold hU hO hT0 hT1 hT2) qU qB qC r8_1_0_1
      · have hT2 : XT2.den (vv a0 a1 a2 a3) = .ofNat 3 := by show IntKind.wrap .i64 (1 + IntKind.wrap .i64 (Int.tmod a3 3)) = _; rw [m2]; rfl
        have qC := sC htab (GC_hold hT0 hT1 hT2) eC1_0_2
        exact fin htab (GM_hold hU hO hT0 hT1 hT2) qU qB qC r8_1_0_2
    · have hT1 : XT1.den (vv a0 a1 a2 a3) = .ofNat 2 := by show IntKind.wrap .i64 (1 + IntKind.wrap .i64 (Int.tmod a2 3)) = _; rw [m1]; rfl
      have qB := sB htab (GB_hold hO hO1 hO2 hT0 hT1) eB8_1_1
      rcases k2 with m2 | m2 | m2
      · have hT2 : XT2.den (vv a0 a1 a2 a3) = .ofNat 1 := by show IntKind.wrap .i64 (1 + IntKind.wrap .i64 (Int.tmod a3 3)) = _; rw [m2]; rfl
        have qC := sC htab (GC_hold hT0 hT1 hT2) eC1_1_0
        exact fin htab (GM_hold hU hO hT0 hT1 hT2) qU qB qC r8_1_1_0
      · have hT2 : XT2.den (vv a0 a1 a2 a3) = .ofNat 2 := by show IntKind.wrap .i64 (1 + IntKind.wrap .i64 (Int.tmod a3 3)) = _; rw [m2]; rfl
        have qC := sC htab (GC_hold hT0 hT1 hT2) eC1_1_1
        exact fin htab (GM_hold hU hO hT0 hT1 hT2) qU qB qC r8_1_1_1
      · have hT2 : XT2.den (vv a0 a1 a2 a3) = .ofNat 3 := by show IntKind.wrap .i64 (1 + IntKind.wrap .i64 (Int.tmod a3 3)) = _; rw [m2]; rfl
        have qC := sC htab (GC_hold hT0 hT1 hT2) eC1_1_2
        exact fin htab (GM_hold hU hO hT0 hT1 hT2) qU qB qC r8_1_1_2
    · have hT1 : XT1.den (vv a0 a1 a2 a3) = .ofNat 3 := by show IntKind.wrap .i64 (1 + IntKind.wrap .i64 (Int.tmod a2 3)) = _; rw [m1]; rfl
      have qB := sB htab (GB_hold hO hO1 hO2 hT0 hT1) eB8_1_2
      rcases k2 with m2 | m2 | m2
      · have hT2 : XT2.den (vv a0 a1 a2 a3) = .ofNat 1 := by show IntKind.wrap .i64 (1 + IntKind.wrap .i64 (Int.tmod a3 3)) = _; rw [m2]; rfl
        have qC := sC htab (GC_hold hT0 hT1 hT2) eC1_2_0
        exact fin htab (GM_hold hU hO hT0 hT1 hT2) qU qB qC r8_1_2_0
      · have hT2 : XT2.den (vv a0 a1 a2 a3) = .ofNat 2 := by show IntKind.wrap .i64 (1 + IntKind.wrap .i64 (Int.tmod a3 3)) = _; rw [m2]; rfl
        have qC := sC htab (GC_hold hT0 hT1 hT2) eC1_2_1
        exact fin htab (GM_hold hU hO hT0 hT1 hT2) qU qB qC r8_1_2_1
      · have hT2 : XT2.den (vv a0 a1 a2 a3) = .ofNat 3 := by show IntKind.wrap .i64 (1 + IntKind.wrap .i64 (Int.tmod a3 3)) = _; rw [m2]; rfl
        have qC := sC htab (GC_hold hT0 hT1 hT2) eC1_2_2
        exact fin htab (GM_hold hU hO hT0 hT1 hT2) qU qB qC r8_1_2_2
  · have hT0 : XT0.den (vv a0 a1 a2 a3) = .ofNat 3 := by show IntKind.wrap .i64 (1 + IntKind.wrap .i64 (Int.tmod a1 3)) = _; rw [m0]; rfl
    have qU := sU htab (GU_hold hU hU1 hT0) eU3_2
    rcases k1 with m1 | m1 | m1
    · have hT1 : XT1.den (vv a0 a1 a2 a3) = .ofNat 1 := by show IntKind.wrap .i64 (1 + IntKind.wrap .i64 (Int.tmod a2 3)) = _; rw [m1]; rfl
      have qB := sB htab (GB_hold hO hO1 hO2 hT0 hT1) eB8_2_0
      rcases k2 with m2 | m2 | m2
      · have hT2 : XT2.den (vv a0 a1 a2 a3) = .ofNat 1 := by show IntKind.wrap .i64 (1 + IntKind.wrap .i64 (Int.tmod a3 3)) = _; rw [m2]; rfl
        have qC := sC htab (GC_hold hT0 hT1 hT2) eC2_0_0
        exact fin htab (GM_hold hU hO hT0 hT1 hT2) qU qB qC r8_2_0_0
      · have hT2 : XT2.den (vv a0 a1 a2 a3) = .ofNat 2 := by show IntKind.wrap .i64 (1 + IntKind.wrap .i64 (Int.tmod a3 3)) = _; rw [m2]; rfl
        have qC := sC htab (GC_hold hT0 hT1 hT2) eC2_0_1
        exact fin htab (GM_hold hU hO hT0 hT1 hT2) qU qB qC r8_2_0_1
      · have hT2 : XT2.den (vv a0 a1 a2 a3) = .ofNat 3 := by show IntKind.wrap .i64 (1 + IntKind.wrap .i64 (Int.tmod a3 3)) = _; rw [m2]; rfl
        have qC := sC htab (GC_hold hT0 hT1 hT2) eC2_0_2
        exact fin htab (GM_hold hU hO hT0 hT1 hT2) qU qB qC r8_2_0_2
    · have hT1 : XT1.den (vv a0 a1 a2 a3) = .ofNat 2 := by show IntKind.wrap .i64 (1 + IntKind.wrap .i64 (Int.tmod a2 3)) = _; rw [m1]; rfl
      have qB := sB htab (GB_hold hO hO1 hO2 hT0 hT1) eB8_2_1
      rcases k2 with m2 | m2 | m2
      · have hT2 : XT2.den (vv a0 a1 a2 a3) = .ofNat 1 := by show IntKind.wrap .i64 (1 + IntKind.wrap .i64 (Int.tmod a3 3)) = _; rw [m2]; rfl
        have qC := sC htab (GC_hold hT0 hT1 hT2) eC2_1_0
        exact fin htab (GM_hold hU hO hT0 hT1 hT2) qU qB qC r8_2_1_0
      · have hT2 : XT2.den (vv a0 a1 a2 a3) = .ofNat 2 := by show IntKind.wrap .i64 (1 + IntKind.wrap .i64 (Int.tmod a3 3)) = _; rw [m2]; rfl
        have qC := sC htab (GC_hold hT0 hT1 hT2) eC2_1_1
        exact fin htab (GM_hold hU hO hT0 hT1 hT2) qU qB qC r8_2_1_1
      · have hT2 : XT2.den (vv a0 a1 a2 a3) = .ofNat 3 := by show IntKind.wrap .i64 (1 + IntKind.wrap .i64 (Int.tmod a3 3)) = _; rw [m2]; rfl
        have qC := sC htab (GC_hold hT0 hT1 hT2) eC2_1_2
        exact fin htab (GM_hold hU hO hT0 hT1 hT2) qU qB qC r8_2_1_2
    · have hT1 : XT1.den (vv a0 a1 a2 a3) = .ofNat 3 := by show IntKind.wrap .i64 (1 + IntKind.wrap .i64 (Int.tmod a2 3)) = _; rw [m1]; rfl
      have qB := sB htab (GB_hold hO hO1 hO2 hT0 hT1) eB8_2_2
      rcases k2 with m2 | m2 | m2
      · have hT2 : XT2.den (vv a0 a1 a2 a3) = .ofNat 1 := by show IntKind.wrap .i64 (1 + IntKind.wrap .i64 (Int.tmod a3 3)) = _; rw [m2]; rfl
        have qC := sC htab (GC_hold hT0 hT1 hT2) eC2_2_0
        exact fin htab (GM_hold hU hO hT0 hT1 hT2) qU qB qC r8_2_2_0
      · have hT2 : XT2.den (vv a0 a1 a2 a3) = .ofNat 2 := by show IntKind.wrap .i64 (1 + IntKind.wrap .i64 (Int.tmod a3 3)) = _; rw [m2]; rfl
        have qC := sC htab (GC_hold hT0 hT1 hT2) eC2_2_1
        exact fin htab (GM_hold hU hO hT0 hT1 hT2) qU qB qC r8_2_2_1
      · have hT2 : XT2.den (vv a0 a1 a2 a3) = .ofNat 3 := by show IntKind.wrap .i64 (1 + IntKind.wrap .i64 (Int.tmod a3 3)) = _; rw [m2]; rfl
        have qC := sC htab (GC_hold hT0 hT1 hT2) eC2_2_2
        exact fin htab (GM_hold hU hO hT0 hT1 hT2) qU qB qC r8_2_2_2
theorem c9 (a0 a1 a2 a3 : Int) (b0 : (0 : Int) ≤ a0 ∧ a0 ≤ 255) (b1 : (0 : Int) ≤ a1 ∧ a1 ≤ 255) (b2 : (0 : Int) ≤ a2 ∧ a2 ≤ 255) (b3 : (0 : Int) ≤ a3 ∧ a3 ≤ 255) (ho : Int.tmod a0 20 = 9) (w : World) (htab : Lib.TabIs Tryz.prog w "internal/strconv.uint64pow10" .u64 Lib.pow10Tab) : Calls Tryz.prog 4 #[.int .u8 a0, .agg #[.int .u8 a1, .int .u8 a2, .int .u8 a3]] w fun e w' => e = .returned (.bool true) ∧ Kept w w' := by
  have hw : IntKind.wrap .i64 a0 = a0 := wrap_in .i64 a0 (show (-9223372036854775808 : Int) ≤ a0 ∧ a0 ≤ (9223372036854775807 : Int) by omega)
  have h5 : Int.tmod a0 5 = 4 := by
    rw [Int.tmod_eq_emod_of_nonneg b0.1] at ho ⊢
    omega
  have hU : XU.den (vv a0 a1 a2 a3) = .ofNat 5 := by show IntKind.wrap .i64 (1 + Int.tmod (IntKind.wrap .i64 a0) 5) = _; rw [hw, h5]; rfl
  have hU1 : XU1.den (vv a0 a1 a2 a3) = .ofNat 4 := by show IntKind.wrap .i64 (XU.den (vv a0 a1 a2 a3) - 1) = _; rw [hU]; rfl
  have hO : XO.den (vv a0 a1 a2 a3) = .ofNat 19 := by show IntKind.wrap .i64 (10 + Int.tmod (IntKind.wrap .i64 a0) 20) = _; rw [hw, ho]; rfl
  have hO1 : XO1.den (vv a0 a1 a2 a3) = .ofNat 9 := by show IntKind.wrap .i64 (XO.den (vv a0 a1 a2 a3) - 10) = _; rw [hO]; rfl
  have hO2 : XO2.den (vv a0 a1 a2 a3) = .negSucc 2 := by show IntKind.wrap .i64 (XO.den (vv a0 a1 a2 a3) - 22) = _; rw [hO]; rfl
  have k0 : Int.tmod a1 3 = 0 ∨ Int.tmod a1 3 = 1 ∨ Int.tmod a1 3 = 2 := by
    rw [Int.tmod_eq_emod_of_nonneg b1.1]
    omega
  have k1 : Int.tmod a2 3 = 0 ∨ Int.tmod a2 3 = 1 ∨ Int.tmod a2 3 = 2 := by
    rw [Int.tmod_eq_emod_of_nonneg b2.1]
    omega
  have k2 : Int.tmod a3 3 = 0 ∨ Int.tmod a3 3 = 1 ∨ Int.tmod a3 3 = 2 := by
    rw [Int.tmod_eq_emod_of_nonneg b3.1]
    omega
  rcases k0 with m0 | m0 | m0
  · have hT0 : XT0.den (vv a0 a1 a2 a3) = .ofNat 1 := by show IntKind.wrap .i64 (1 + IntKind.wrap .i64 (Int.tmod a1 3)) = _; rw [m0]; rfl
    have qU := sU htab (GU_hold hU hU1 hT0) eU4_0
    rcases k1 with m1 | m1 | m1
    · have hT1 : XT1.den (vv a0 a1 a2 a3) = .ofNat 1 := by show IntKind.wrap .i64 (1 + IntKind.wrap .i64 (Int.tmod a2 3)) = _; rw [m1]; rfl
      have qB := sB htab (GB_hold hO hO1 hO2 hT0 hT1) eB9_0_0
      rcases k2 with m2 | m2 | m2
      · have hT2 : XT2.den (vv a0 a1 a2 a3) = .ofNat 1 := by show IntKind.wrap .i64 (1 + IntKind.wrap .i64 (Int.tmod a3 3)) = _; rw [m2]; rfl
        have qC := sC htab (GC_hold hT0 hT1 hT2) eC0_0_0
        exact fin htab (GM_hold hU hO hT0 hT1 hT2) qU qB qC r9_0_0_0
      · have hT2 : XT2.den (vv a0 a1 a2 a3) = .ofNat 2 := by show IntKind.wrap .i64 (1 + IntKind.wrap .i64 (Int.tmod a3 3)) = _; rw [m2]; rfl
        have qC := sC htab (GC_hold hT0 hT1 hT2) eC0_0_1
        exact fin htab (GM_hold hU hO hT0 hT1 hT2) qU qB qC r9_0_0_1
      · have hT2 : XT2.den (vv a0 a1 a2 a3) = .ofNat 3 := by show IntKind.wrap .i64 (1 + IntKind.wrap .i64 (Int.tmod a3 3)) = _; rw [m2]; rfl
        have qC := sC htab (GC_hold hT0 hT1 hT2) eC0_0_2
        exact fin htab (GM_hold hU hO hT0 hT1 hT2) qU qB qC r9_0_0_2
    · have hT1 : XT1.den (vv a0 a1 a2 a3) = .ofNat 2 := by show IntKind.wrap .i64 (1 + IntKind.wrap .i64 (Int.tmod a2 3)) = _; rw [m1]; rfl
      have qB := sB htab (GB_hold hO hO1 hO2 hT0 hT1) eB9_0_1
      rcases k2 with m2 | m2 | m2
      · have hT2 : XT2.den (vv a0 a1 a2 a3) = .ofNat 1 := by show IntKind.wrap .i64 (1 + IntKind.wrap .i64 (Int.tmod a3 3)) = _; rw [m2]; rfl
        have qC := sC htab (GC_hold hT0 hT1 hT2) eC0_1_0
        exact fin htab (GM_hold hU hO hT0 hT1 hT2) qU qB qC r9_0_1_0
      · have hT2 : XT2.den (vv a0 a1 a2 a3) = .ofNat 2 := by show IntKind.wrap .i64 (1 + IntKind.wrap .i64 (Int.tmod a3 3)) = _; rw [m2]; rfl
        have qC := sC htab (GC_hold hT0 hT1 hT2) eC0_1_1
        exact fin htab (GM_hold hU hO hT0 hT1 hT2) qU qB qC r9_0_1_1
      · have hT2 : XT2.den (vv a0 a1 a2 a3) = .ofNat 3 := by show IntKind.wrap .i64 (1 + IntKind.wrap .i64 (Int.tmod a3 3)) = _; rw [m2]; rfl
        have qC := sC htab (GC_hold hT0 hT1 hT2) eC0_1_2
        exact fin htab (GM_hold hU hO hT0 hT1 hT2) qU qB qC r9_0_1_2
    · have hT1 : XT1.den (vv a0 a1 a2 a3) = .ofNat 3 := by show IntKind.wrap .i64 (1 + IntKind.wrap .i64 (Int.tmod a2 3)) = _; rw [m1]; rfl
      have qB := sB htab (GB_hold hO hO1 hO2 hT0 hT1) eB9_0_2
      rcases k2 with m2 | m2 | m2
      · have hT2 : XT2.den (vv a0 a1 a2 a3) = .ofNat 1 := by show IntKind.wrap .i64 (1 + IntKind.wrap .i64 (Int.tmod a3 3)) = _; rw [m2]; rfl
        have qC := sC htab (GC_hold hT0 hT1 hT2) eC0_2_0
        exact fin htab (GM_hold hU hO hT0 hT1 hT2) qU qB qC r9_0_2_0
      · have hT2 : XT2.den (vv a0 a1 a2 a3) = .ofNat 2 := by show IntKind.wrap .i64 (1 + IntKind.wrap .i64 (Int.tmod a3 3)) = _; rw [m2]; rfl
        have qC := sC htab (GC_hold hT0 hT1 hT2) eC0_2_1
        exact fin htab (GM_hold hU hO hT0 hT1 hT2) qU qB qC r9_0_2_1
      · have hT2 : XT2.den (vv a0 a1 a2 a3) = .ofNat 3 := by show IntKind.wrap .i64 (1 + IntKind.wrap .i64 (Int.tmod a3 3)) = _; rw [m2]; rfl
        have qC := sC htab (GC_hold hT0 hT1 hT2) eC0_2_2
        exact fin htab (GM_hold hU hO hT0 hT1 hT2) qU qB qC r9_0_2_2
  · have hT0 : XT0.den (vv a0 a1 a2 a3) = .ofNat 2 := by show IntKind.wrap .i64 (1 + IntKind.wrap .i64 (Int.tmod a1 3)) = _; rw [m0]; rfl
    have qU := sU htab (GU_hold hU hU1 hT0) eU4_1
    rcases k1 with m1 | m1 | m1
    · have hT1 : XT1.den (vv a0 a1 a2 a3) = .ofNat 1 := by show IntKind.wrap .i64 (1 + IntKind.wrap .i64 (Int.tmod a2 3)) = _; rw [m1]; rfl
      have qB := sB htab (GB_hold hO hO1 hO2 hT0 hT1) eB9_1_0
      rcases k2 with m2 | m2 | m2
      · have hT2 : XT2.den (vv a0 a1 a2 a3) = .ofNat 1 := by show IntKind.wrap .i64 (1 + IntKind.wrap .i64 (Int.tmod a3 3)) = _; rw [m2]; rfl
        have qC := sC htab (GC_hold hT0 hT1 hT2) eC1_0_0
        exact fin htab (GM_hold hU hO hT0 hT1 hT2) qU qB qC r9_1_0_0
      · have hT2 : XT2.den (vv a0 a1 a2 a3) = .ofNat 2 := by show IntKind.wrap .i64 (1 + IntKind.wrap .i64 (Int.tmod a3 3)) = _; rw [m2]; rfl
        have qC := sC htab (GC_hold hT0 hT1 hT2) eC1_0_1
        exact fin htab (GM_hold hU hO hT0 hT1 hT2) qU qB qC r9_1_0_1
      · have hT2 : XT2.den (vv a0 a1 a2 a3) = .ofNat 3 := by show IntKind.wrap .i64 (1 + IntKind.wrap .i64 (Int.tmod a3 3)) = _; rw [m2]; rfl
        have qC := sC htab (GC_hold hT0 hT1 hT2) eC1_0_2
        exact fin htab (GM_hold hU hO hT0 hT1 hT2) qU qB qC r9_1_0_2
    · have hT1 : XT1.den (vv a0 a1 a2 a3) = .ofNat 2 := by show IntKind.wrap .i64 (1 + IntKind.wrap .i64 (Int.tmod a2 3)) = _; rw [m1]; rfl
      have qB := sB htab (GB_hold hO hO1 hO2 hT0 hT1) eB9_1_1
      rcases k2 with m2 | m2 | m2
      · have hT2 : XT2.den (vv a0 a1 a2 a3) = .ofNat 1 := by show IntKind.wrap .i64 (1 + IntKind.wrap .i64 (Int.tmod a3 3)) = _; rw [m2]; rfl
        have qC := sC htab (GC_hold hT0 hT1 hT2) eC1_1_0
        exact fin htab (GM_hold hU hO hT0 hT1 hT2) qU qB qC r9_1_1_0
      · have hT2 : XT2.den (vv a0 a1 a2 a3) = .ofNat 2 := by show IntKind.wrap .i64 (1 + IntKind.wrap .i64 (Int.tmod a3 3)) = _; rw [m2]; rfl
        have qC := sC htab (GC_hold hT0 hT1 hT2) eC1_1_1
        exact fin htab (GM_hold hU hO hT0 hT1 hT2) qU qB qC r9_1_1_1
      · have hT2 : XT2.den (vv a0 a1 a2 a3) = .ofNat 3 := by show IntKind.wrap .i64 (1 + IntKind.wrap .i64 (Int.tmod a3 3)) = _; rw [m2]; rfl
        have qC := sC htab (GC_hold hT0 hT1 hT2) eC1_1_2
        exact fin htab (GM_hold hU hO hT0 hT1 hT2) qU qB qC r9_1_1_2
    · have hT1 : XT1.den (vv a0 a1 a2 a3) = .ofNat 3 := by show IntKind.wrap .i64 (1 + IntKind.wrap .i64 (Int.tmod a2 3)) = _; rw [m1]; rfl
      have qB := sB htab (GB_hold hO hO1 hO2 hT0 hT1) eB9_1_2
      rcases k2 with m2 | m2 | m2
      · have hT2 : XT2.den (vv a0 a1 a2 a3) = .ofNat 1 := by show IntKind.wrap .i64 (1 + IntKind.wrap .i64 (Int.tmod a3 3)) = _; rw [m2]; rfl
        have qC := sC htab (GC_hold hT0 hT1 hT2) eC1_2_0
        exact fin htab (GM_hold hU hO hT0 hT1 hT2) qU qB qC r9_1_2_0
      · have hT2 : XT2.den (vv a0 a1 a2 a3) = .ofNat 2 := by show IntKind.wrap .i64 (1 + IntKind.wrap .i64 (Int.tmod a3 3)) = _; rw [m2]; rfl
        have qC := sC htab (GC_hold hT0 hT1 hT2) eC1_2_1
        exact fin htab (GM_hold hU hO hT0 hT1 hT2) qU qB qC r9_1_2_1
      · have hT2 : XT2.den (vv a0 a1 a2 a3) = .ofNat 3 := by show IntKind.wrap .i64 (1 + IntKind.wrap .i64 (Int.tmod a3 3)) = _; rw [m2]; rfl
        have qC := sC htab (GC_hold hT0 hT1 hT2) eC1_2_2
        exact fin htab (GM_hold hU hO hT0 hT1 hT2) qU qB qC r9_1_2_2
  · have hT0 : XT0.den (vv a0 a1 a2 a3) = .ofNat 3 := by show IntKind.wrap .i64 (1 + IntKind.wrap .i64 (Int.tmod a1 3)) = _; rw [m0]; rfl
    have qU := sU htab (GU_hold hU hU1 hT0) eU4_2
    rcases k1 with m1 | m1 | m1
    · have hT1 : XT1.den (vv a0 a1 a2 a3) = .ofNat 1 := by show IntKind.wrap .i64 (1 + IntKind.wrap .i64 (Int.tmod a2 3)) = _; rw [m1]; rfl
      have qB := sB htab (GB_hold hO hO1 hO2 hT0 hT1) eB9_2_0
      rcases k2 with m2 | m2 | m2
      · have hT2 : XT2.den (vv a0 a1 a2 a3) = .ofNat 1 := by show IntKind.wrap .i64 (1 + IntKind.wrap .i64 (Int.tmod a3 3)) = _; rw [m2]; rfl
        have qC := sC htab (GC_hold hT0 hT1 hT2) eC2_0_0
        exact fin htab (GM_hold hU hO hT0 hT1 hT2) qU qB qC r9_2_0_0
      · have hT2 : XT2.den (vv a0 a1 a2 a3) = .ofNat 2 := by show IntKind.wrap .i64 (1 + IntKind.wrap .i64 (Int.tmod a3 3)) = _; rw [m2]; rfl
        have qC := sC htab (GC_hold hT0 hT1 hT2) eC2_0_1
        exact fin htab (GM_hold hU hO hT0 hT1 hT2) qU qB qC r9_2_0_1
      · have hT2 : XT2.den (vv a0 a1 a2 a3) = .ofNat 3 := by show IntKind.wrap .i64 (1 + IntKind.wrap .i64 (Int.tmod a3 3)) = _; rw [m2]; rfl
        have qC := sC htab (GC_hold hT0 hT1 hT2) eC2_0_2
        exact fin htab (GM_hold hU hO hT0 hT1 hT2) qU qB qC r9_2_0_2
    · have hT1 : XT1.den (vv a0 a1 a2 a3) = .ofNat 2 := by show IntKind.wrap .i64 (1 + IntKind.wrap .i64 (Int.tmod a2 3)) = _; rw [m1]; rfl
      have qB := sB htab (GB_hold hO hO1 hO2 hT0 hT1) eB9_2_1
      rcases k2 with m2 | m2 | m2
      · have hT2 : XT2.den (vv a0 a1 a2 a3) = .ofNat 1 := by show IntKind.wrap .i64 (1 + IntKind.wrap .i64 (Int.tmod a3 3)) = _; rw [m2]; rfl
        have qC := sC htab (GC_hold hT0 hT1 hT2) eC2_1_0
        exact fin htab (GM_hold hU hO hT0 hT1 hT2) qU qB qC r9_2_1_0
      · have hT2 : XT2.den (vv a0 a1 a2 a3) = .ofNat 2 := by show IntKind.wrap .i64 (1 + IntKind.wrap .i64 (Int.tmod a3 3)) = _; rw [m2]; rfl
        have qC := sC htab (GC_hold hT0 hT1 hT2) eC2_1_1
        exact fin htab (GM_hold hU hO hT0 hT1 hT2) qU qB qC r9_2_1_1
      · have hT2 : XT2.den (vv a0 a1 a2 a3) = .ofNat 3 := by show IntKind.wrap .i64 (1 + IntKind.wrap .i64 (Int.tmod a3 3)) = _; rw [m2]; rfl
        have qC := sC htab (GC_hold hT0 hT1 hT2) eC2_1_2
        exact fin htab (GM_hold hU hO hT0 hT1 hT2) qU qB qC r9_2_1_2
    · have hT1 : XT1.den (vv a0 a1 a2 a3) = .ofNat 3 := by show IntKind.wrap .i64 (1 + IntKind.wrap .i64 (Int.tmod a2 3)) = _; rw [m1]; rfl
      have qB := sB htab (GB_hold hO hO1 hO2 hT0 hT1) eB9_2_2
      rcases k2 with m2 | m2 | m2
      · have hT2 : XT2.den (vv a0 a1 a2 a3) = .ofNat 1 := by show IntKind.wrap .i64 (1 + IntKind.wrap .i64 (Int.tmod a3 3)) = _; rw [m2]; rfl
        have qC := sC htab (GC_hold hT0 hT1 hT2) eC2_2_0
        exact fin htab (GM_hold hU hO hT0 hT1 hT2) qU qB qC r9_2_2_0
      · have hT2 : XT2.den (vv a0 a1 a2 a3) = .ofNat 2 := by show IntKind.wrap .i64 (1 + IntKind.wrap .i64 (Int.tmod a3 3)) = _; rw [m2]; rfl
        have qC := sC htab (GC_hold hT0 hT1 hT2) eC2_2_1
        exact fin htab (GM_hold hU hO hT0 hT1 hT2) qU qB qC r9_2_2_1
      · have hT2 : XT2.den (vv a0 a1 a2 a3) = .ofNat 3 := by show IntKind.wrap .i64 (1 + IntKind.wrap .i64 (Int.tmod a3 3)) = _; rw [m2]; rfl
        have qC := sC htab (GC_hold hT0 hT1 hT2) eC2_2_2
        exact fin htab (GM_hold hU hO hT0 hT1 hT2) qU qB qC r9_2_2_2
theorem c10 (a0 a1 a2 a3 : Int) (b0 : (0 : Int) ≤ a0 ∧ a0 ≤ 255) (b1 : (0 : Int) ≤ a1 ∧ a1 ≤ 255) (b2 : (0 : Int) ≤ a2 ∧ a2 ≤ 255) (b3 : (0 : Int) ≤ a3 ∧ a3 ≤ 255) (ho : Int.tmod a0 20 = 10) (w : World) (htab : Lib.TabIs Tryz.prog w "internal/strconv.uint64pow10" .u64 Lib.pow10Tab) : Calls Tryz.prog 4 #[.int .u8 a0, .agg #[.int .u8 a1, .int .u8 a2, .int .u8 a3]] w fun e w' => e = .returned (.bool true) ∧ Kept w w' := by
  have hw : IntKind.wrap .i64 a0 = a0 := wrap_in .i64 a0 (show (-9223372036854775808 : Int) ≤ a0 ∧ a0 ≤ (9223372036854775807 : Int) by omega)
  have h5 : Int.tmod a0 5 = 0 := by
    rw [Int.tmod_eq_emod_of_nonneg b0.1] at ho ⊢
    omega
  have hU : XU.den (vv a0 a1 a2 a3) = .ofNat 1 := by show IntKind.wrap .i64 (1 + Int.tmod (IntKind.wrap .i64 a0) 5) = _; rw [hw, h5]; rfl
  have hU1 : XU1.den (vv a0 a1 a2 a3) = .ofNat 0 := by show IntKind.wrap .i64 (XU.den (vv a0 a1 a2 a3) - 1) = _; rw [hU]; rfl
  have hO : XO.den (vv a0 a1 a2 a3) = .ofNat 20 := by show IntKind.wrap .i64 (10 + Int.tmod (IntKind.wrap .i64 a0) 20) = _; rw [hw, ho]; rfl
  have hO1 : XO1.den (vv a0 a1 a2 a3) = .ofNat 10 := by show IntKind.wrap .i64 (XO.den (vv a0 a1 a2 a3) - 10) = _; rw [hO]; rfl
  have hO2 : XO2.den (vv a0 a1 a2 a3) = .negSucc 1 := by show IntKind.wrap .i64 (XO.den (vv a0 a1 a2 a3) - 22) = _; rw [hO]; rfl
  have k0 : Int.tmod a1 3 = 0 ∨ Int.tmod a1 3 = 1 ∨ Int.tmod a1 3 = 2 := by
    rw [Int.tmod_eq_emod_of_nonneg b1.1]
    omega
  have k1 : Int.tmod a2 3 = 0 ∨ Int.tmod a2 3 = 1 ∨ Int.tmod a2 3 = 2 := by
    rw [Int.tmod_eq_emod_of_nonneg b2.1]
    omega
  have k2 : Int.tmod a3 3 = 0 ∨ Int.tmod a3 3 = 1 ∨ Int.tmod a3 3 = 2 := by
    rw [Int.tmod_eq_emod_of_nonneg b3.1]
    omega
  rcases k0 with m0 | m0 | m0
  · have hT0 : XT0.den (vv a0 a1 a2 a3) = .ofNat 1 := by show IntKind.wrap .i64 (1 + IntKind.wrap .i64 (Int.tmod a1 3)) = _; rw [m0]; rfl
    have qU := sU htab (GU_hold hU hU1 hT0) eU0_0
    rcases k1 with m1 | m1 | m1
    · have hT1 : XT1.den (vv a0 a1 a2 a3) = .ofNat 1 := by show IntKind.wrap .i64 (1 + IntKind.wrap .i64 (Int.tmod a2 3)) = _; rw [m1]; rfl
      have qB := sB htab (GB_hold hO hO1 hO2 hT0 hT1) eB10_0_0
      rcases k2 with m2 | m2 | m2
      · have hT2 : XT2.den (vv a0 a1 a2 a3) = .ofNat 1 := by show IntKind.wrap .i64 (1 + IntKind.wrap .i64 (Int.tmod a3 3)) = _; rw [m2]; rfl
        have qC := sC htab (GC_hold hT0 hT1 hT2) eC0_0_0
        exact fin htab (GM_hold hU hO hT0 hT1 hT2) qU qB qC r10_0_0_0
      · have hT2 : XT2.den (vv a0 a1 a2 a3) = .ofNat 2 := by show IntKind.wrap .i64 (1 + IntKind.wrap .i64 (Int.tmod a3 3)) = _; rw [m2]; rfl
        have qC := sC htab (GC_hold hT0 hT1 hT2) eC0_0_1
        exact fin htab (GM_hold hU hO hT0 hT1 hT2) qU qB qC r10_0_0_1
      · have hT2 : XT2.den (vv a0 a1 a2 a3) = .ofNat 3 := by show IntKind.wrap .i64 (1 + IntKind.wrap .i64 (Int.tmod a3 3)) = _; rw [m2]; rfl
        have qC := sC htab (GC_hold hT0 hT1 hT2) eC0_0_2
        exact fin htab (GM_hold hU hO hT0 hT1 hT2) qU qB qC r10_0_0_2
    · have hT1 : XT1.den (vv a0 a1 a2 a3) = .ofNat 2 := by show IntKind.wrap .i64 (1 + IntKind.wrap .i64 (Int.tmod a2 3)) = _; rw [m1]; rfl
      have qB := sB htab (GB_hold hO hO1 hO2 hT0 hT1) eB10_0_1
      rcases k2 with m2 | m2 | m2
      · have hT2 : XT2.den (vv a0 a1 a2 a3) = .ofNat 1 := by show IntKind.wrap .i64 (1 + IntKind.wrap .i64 (Int.tmod a3 3)) = _; rw [m2]; rfl
        have qC := sC htab (GC_hold hT0 hT1 hT2) eC0_1_0
        exact fin htab (GM_hold hU hO hT0 hT1 hT2) qU qB qC r10_0_1_0
      · have hT2 : XT2.den (vv a0 a1 a2 a3) = .ofNat 2 := by show IntKind.wrap .i64 (1 + IntKind.wrap .i64 (Int.tmod a3 3)) = _; rw [m2]; rfl
        have qC := sC htab (GC_hold hT0 hT1 hT2) eC0_1_1
        exact fin htab (GM_hold hU hO hT0 hT1 hT2) qU qB qC r10_0_1_1
      · have hT2 : XT2.den (vv a0 a1 a2 a3) = .ofNat 3 := by show IntKind.wrap .i64 (1 + IntKind.wrap .i64 (Int.tmod a3 3)) = _; rw [m2]; rfl
        have qC := sC htab (GC_hold hT0 hT1 hT2) eC0_1_2
        exact fin htab (GM_hold hU hO hT0 hT1 hT2) qU qB qC r10_0_1_2
    · have hT1 : XT1.den (vv a0 a1 a2 a3) = .ofNat 3 := by show IntKind.wrap .i64 (1 + IntKind.wrap .i64 (Int.tmod a2 3)) = _; rw [m1]; rfl
      have qB := sB htab (GB_hold hO hO1 hO2 hT0 hT1) eB10_0_2
      rcases k2 with m2 | m2 | m2
      · have hT2 : XT2.den (vv a0 a1 a2 a3) = .ofNat 1 := by show IntKind.wrap .i64 (1 + IntKind.wrap .i64 (Int.tmod a3 3)) = _; rw [m2]; rfl
        have qC := sC htab (GC_hold hT0 hT1 hT2) eC0_2_0
        exact fin htab (GM_hold hU hO hT0 hT1 hT2) qU qB qC r10_0_2_0
      · have hT2 : XT2.den (vv a0 a1 a2 a3) = .ofNat 2 := by show IntKind.wrap .i64 (1 + IntKind.wrap .i64 (Int.tmod a3 3)) = _; rw [m2]; rfl
        have qC := sC htab (GC_hold hT0 hT1 hT2) eC0_2_1
        exact fin htab (GM_hold hU hO hT0 hT1 hT2) qU qB qC r10_0_2_1
      · have hT2 : XT2.den (vv a0 a1 a2 a3) = .ofNat 3 := by show IntKind.wrap .i64 (1 + IntKind.wrap .i64 (Int.tmod a3 3)) = _; rw [m2]; rfl
        have qC := sC htab (GC_hold hT0 hT1 hT2) eC0_2_2
        exact fin htab (GM_hold hU hO hT0 hT1 hT2) qU qB qC r10_0_2_2
  · have hT0 : XT0.den (vv a0 a1 a2 a3) = .ofNat 2 := by show IntKind.wrap .i64 (1 + IntKind.wrap .i64 (Int.tmod a1 3)) = _; rw [m0]; rfl
    have qU := sU htab (GU_hold hU hU1 hT0) eU0_1
    rcases k1 with m1 | m1 | m1
    · have hT1 : XT1.den (vv a0 a1 a2 a3) = .ofNat 1 := by show IntKind.wrap .i64 (1 + IntKind.wrap .i64 (Int.tmod a2 3)) = _; rw [m1]; rfl
      have qB := sB htab (GB_hold hO hO1 hO2 hT0 hT1) eB10_1_0
      rcases k2 with m2 | m2 | m2
      · have hT2 : XT2.den (vv a0 a1 a2 a3) = .ofNat 1 := by show IntKind.wrap .i64 (1 + IntKind.wrap .i64 (Int.tmod a3 3)) = _; rw [m2]; rfl
        have qC := sC htab (GC_hold hT0 hT1 hT2) eC1_0_0
        exact fin htab (GM_hold hU hO hT0 hT1 hT2) qU qB qC r10_1_0_0
      · have hT2 : XT2.den (vv a0 a1 a2 a3) = .ofNat 2 := by show IntKind.wrap .i64 (1 + IntKind.wrap .i64 (Int.tmod a3 3)) = _; rw [m2]; rfl
        have qC := sC htab (GC_hold hT0 hT1 hT2) eC1_0_1
        exact fin htab (GM_hold hU hO hT0 hT1 hT2) qU qB qC r10_1_0_1
      · have hT2 : XT2.den (vv a0 a1 a2 a3) = .ofNat 3 := by show IntKind.wrap .i64 (1 + IntKind.wrap .i64 (Int.tmod a3 3)) = _; rw [m2]; rfl
        have qC := sC htab (GC_hold hT0 hT1 hT2) eC1_0_2
        exact fin htab (GM_hold hU hO hT0 hT1 hT2) qU qB qC r10_1_0_2
    · have hT1 : XT1.den (vv a0 a1 a2 a3) = .ofNat 2 := by show IntKind.wrap .i64 (1 + IntKind.wrap .i64 (Int.tmod a2 3)) = _; rw [m1]; rfl
      have qB := sB htab (GB_hold hO hO1 hO2 hT0 hT1) eB10_1_1
      rcases k2 with m2 | m2 | m2
      · have hT2 : XT2.den (vv a0 a1 a2 a3) = .ofNat 1 := by show IntKind.wrap .i64 (1 + IntKind.wrap .i64 (Int.tmod a3 3)) = _; rw [m2]; rfl
        have qC := sC htab (GC_hold hT0 hT1 hT2) eC1_1_0
        exact fin htab (GM_hold hU hO hT0 hT1 hT2) qU qB qC r10_1_1_0
      · have hT2 : XT2.den (vv a0 a1 a2 a3) = .ofNat 2 := by show IntKind.wrap .i64 (1 + IntKind.wrap .i64 (Int.tmod a3 3)) = _; rw [m2]; rfl
        have qC := sC htab (GC_hold hT0 hT1 hT2) eC1_1_1
        exact fin htab (GM_hold hU hO hT0 hT1 hT2) qU qB qC r10_1_1_1
      · have hT2 : XT2.den (vv a0 a1 a2 a3) = .ofNat 3 := by show IntKind.wrap .i64 (1 + IntKind.wrap .i64 (Int.tmod a3 3)) = _; rw [m2]; rfl
        have qC := sC htab (GC_hold hT0 hT1 hT2) eC1_1_2
        exact fin htab (GM_hold hU hO hT0 hT1 hT2) qU qB qC r10_1_1_2
    · have hT1 : XT1.den (vv a0 a1 a2 a3) = .ofNat 3 := by show IntKind.wrap .i64 (1 + IntKind.wrap .i64 (Int.tmod a2 3)) = _; rw [m1]; rfl
      have qB := sB htab (GB_hold hO hO1 hO2 hT0 hT1) eB10_1_2
      rcases k2 with m2 | m2 | m2
      · have hT2 : XT2.den (vv a0 a1 a2 a3) = .ofNat 1 := by show IntKind.wrap .i64 (1 + IntKind.wrap .i64 (Int.tmod a3 3)) = _; rw [m2]; rfl
        have qC := sC htab (GC_hold hT0 hT1 hT2) eC1_2_0
        exact fin htab (GM_hold hU hO hT0 hT1 hT2) qU qB qC r10_1_2_0
      · have hT2 : XT2.den (vv a0 a1 a2 a3) = .ofNat 2 := by show IntKind.wrap .i64 (1 + IntKind.wrap .i64 (Int.tmod a3 3)) = _; rw [m2]; rfl
        have qC := sC htab (GC_hold hT0 hT1 hT2) eC1_2_1
        exact fin htab (GM_hold hU hO hT0 hT1 hT2) qU qB qC r10_1_2_1
      · have hT2 : XT2.den (vv a0 a1 a2 a3) = .ofNat 3 := by show IntKind.wrap .i64 (1 + IntKind.wrap .i64 (Int.tmod a3 3)) = _; rw [m2]; rfl
        have qC := sC htab (GC_hold hT0 hT1 hT2) eC1_2_2
        exact fin htab (GM_hold hU hO hT0 hT1 hT2) qU qB qC r10_1_2_2
  · have hT0 : XT0.den (vv a0 a1 a2 a3) = .ofNat 3 := by show IntKind.wrap .i64 (1 + IntKind.wrap .i64 (Int.tmod a1 3)) = _; rw [m0]; rfl
    have qU := sU htab (GU_hold hU hU1 hT0) eU0_2
    rcases k1 with m1 | m1 | m1
    · have hT1 : XT1.den (vv a0 a1 a2 a3) = .ofNat 1 := by show IntKind.wrap .i64 (1 + IntKind.wrap .i64 (Int.tmod a2 3)) = _; rw [m1]; rfl
      have qB := sB htab (GB_hold hO hO1 hO2 hT0 hT1) eB10_2_0
      rcases k2 with m2 | m2 | m2
      · have hT2 : XT2.den (vv a0 a1 a2 a3) = .ofNat 1 := by show IntKind.wrap .i64 (1 + IntKind.wrap .i64 (Int.tmod a3 3)) = _; rw [m2]; rfl
        have qC := sC htab (GC_hold hT0 hT1 hT2) eC2_0_0
        exact fin htab (GM_hold hU hO hT0 hT1 hT2) qU qB qC r10_2_0_0
      · have hT2 : XT2.den (vv a0 a1 a2 a3) = .ofNat 2 := by show IntKind.wrap .i64 (1 + IntKind.wrap .i64 (Int.tmod a3 3)) = _; rw [m2]; rfl
        have qC := sC htab (GC_hold hT0 hT1 hT2) eC2_0_1
        exact fin htab (GM_hold hU hO hT0 hT1 hT2) qU qB qC r10_2_0_1
      · have hT2 : XT2.den (vv a0 a1 a2 a3) = .ofNat 3 := by show IntKind.wrap .i64 (1 + IntKind.wrap .i64 (Int.tmod a3 3)) = _; rw [m2]; rfl
        have qC := sC htab (GC_hold hT0 hT1 hT2) eC2_0_2
        exact fin htab (GM_hold hU hO hT0 hT1 hT2) qU qB qC r10_2_0_2
    · have hT1 : XT1.den (vv a0 a1 a2 a3) = .ofNat 2 := by show IntKind.wrap .i64 (1 + IntKind.wrap .i64 (Int.tmod a2 3)) = _; rw [m1]; rfl
      have qB := sB htab (GB_hold hO hO1 hO2 hT0 hT1) eB10_2_1
      rcases k2 with m2 | m2 | m2
      · have hT2 : XT2.den (vv a0 a1 a2 a3) = .ofNat 1 := by show IntKind.wrap .i64 (1 + IntKind.wrap .i64 (Int.tmod a3 3)) = _; rw [m2]; rfl
        have qC := sC htab (GC_hold hT0 hT1 hT2) eC2_1_0
        exact fin htab (GM_hold hU hO hT0 hT1 hT2) qU qB qC r10_2_1_0
      · have hT2 : XT2.den (vv a0 a1 a2 a3) = .ofNat 2 := by show IntKind.wrap .i64 (1 + IntKind.wrap .i64 (Int.tmod a3 3)) = _; rw [m2]; rfl
        have qC := sC htab (GC_hold hT0 hT1 hT2) eC2_1_1
        exact fin htab (GM_hold hU hO hT0 hT1 hT2) qU qB qC r10_2_1_1
      · have hT2 : XT2.den (vv a0 a1 a2 a3) = .ofNat 3 := by show IntKind.wrap .i64 (1 + IntKind.wrap .i64 (Int.tmod a3 3)) = _; rw [m2]; rfl
        have qC := sC htab (GC_hold hT0 hT1 hT2) eC2_1_2
        exact fin htab (GM_hold hU hO hT0 hT1 hT2) qU qB qC r10_2_1_2
    · have hT1 : XT1.den (vv a0 a1 a2 a3) = .ofNat 3 := by show IntKind.wrap .i64 (1 + IntKind.wrap .i64 (Int.tmod a2 3)) = _; rw [m1]; rfl
      have qB := sB htab (GB_hold hO hO1 hO2 hT0 hT1) eB10_2_2
      rcases k2 with m2 | m2 | m2
      · have hT2 : XT2.den (vv a0 a1 a2 a3) = .ofNat 1 := by show IntKind.wrap .i64 (1 + IntKind.wrap .i64 (Int.tmod a3 3)) = _; rw [m2]; rfl
        have qC := sC htab (GC_hold hT0 hT1 hT2) eC2_2_0
        exact fin htab (GM_hold hU hO hT0 hT1 hT2) qU qB qC r10_2_2_0
      · have hT2 : XT2.den (vv a0 a1 a2 a3) = .ofNat 2 := by show IntKind.wrap .i64 (1 + IntKind.wrap .i64 (Int.tmod a3 3)) = _; rw [m2]; rfl
        have qC := sC htab (GC_hold hT0 hT1 hT2) eC2_2_1
        exact fin htab (GM_hold hU hO hT0 hT1 hT2) qU qB qC r10_2_2_1
      · have hT2 : XT2.den (vv a0 a1 a2 a3) = .ofNat 3 := by show IntKind.wrap .i64 (1 + IntKind.wrap .i64 (Int.tmod a3 3)) = _; rw [m2]; rfl
        have qC := sC htab (GC_hold hT0 hT1 hT2) eC2_2_2
        exact fin htab (GM_hold hU hO hT0 hT1 hT2) qU qB qC r10_2_2_2
theorem c11 (a0 a1 a2 a3 : Int) (b0 : (0 : Int) ≤ a0 ∧ a0 ≤ 255) (b1 : (0 : Int) ≤ a1 ∧ a1 ≤ 255) (b2 : (0 : Int) ≤ a2 ∧ a2 ≤ 255) (b3 : (0 : Int) ≤ a3 ∧ a3 ≤ 255) (ho : Int.tmod a0 20 = 11) (w : World) (htab : Lib.TabIs Tryz.prog w "internal/strconv.uint64pow10" .u64 Lib.pow10Tab) : Calls Tryz.prog 4 #[.int .u8 a0, .agg #[.int .u8 a1, .int .u8 a2, .int .u8 a3]] w fun e w' => e = .returned (.bool true) ∧ Kept w w' := by
  have hw : IntKind.wrap .i64 a0 = a0 := wrap_in .i64 a0 (show (-9223372036854775808 : Int) ≤ a0 ∧ a0 ≤ (9223372036854775807 : Int) by omega)
  have h5 : Int.tmod a0 5 = 1 := by
    rw [Int.tmod_eq_emod_of_nonneg b0.1] at ho ⊢
    omega
  have hU : XU.den (vv a0 a1 a2 a3) = .ofNat 2 := by show IntKind.wrap .i64 (1 + Int.tmod (IntKind.wrap .i64 a0) 5) = _; rw [hw, h5]; rfl
  have hU1 : XU1.den (vv a0 a1 a2 a3) = .ofNat 1 := by show IntKind.wrap .i64 (XU.den (vv a0 a1 a2 a3) - 1) = _; rw [hU]; rfl
  have hO : XO.den (vv a0 a1 a2 a3) = .ofNat 21 := by show IntKind.wrap .i64 (10 + Int.tmod (IntKind.wrap .i64 a0) 20) = _; rw [hw, ho]; rfl
  have hO1 : XO1.den (vv a0 a1 a2 a3) = .ofNat 11 := by show IntKind.wrap .i64 (XO.den (vv a0 a1 a2 a3) - 10) = _; rw [hO]; rfl
  have hO2 : XO2.den (vv a0 a1 a2 a3) = .negSucc 0 := by show IntKind.wrap .i64 (XO.den (vv a0 a1 a2 a3) - 22) = _; rw [hO]; rfl
  have k0 : Int.tmod a1 3 = 0 ∨ Int.tmod a1 3 = 1 ∨ Int.tmod a1 3 = 2 := by
    rw [Int.tmod_eq_emod_of_nonneg b1.1]
    omega
  have k1 : Int.tmod a2 3 = 0 ∨ Int.tmod a2 3 = 1 ∨ Int.tmod a2 3 = 2 := by
    rw [Int.tmod_eq_emod_of_nonneg b2.1]
    omega
  have k2 : Int.tmod a3 3 = 0 ∨ Int.tmod a3 3 = 1 ∨ Int.tmod a3 3 = 2 := by
    rw [Int.tmod_eq_emod_of_nonneg b3.1]
    omega
  rcases k0 with m0 | m0 | m0
  · have hT0 : XT0.den (vv a0 a1 a2 a3) = .ofNat 1 := by show IntKind.wrap .i64 (1 + IntKind.wrap .i64 (Int.tmod a1 3)) = _; rw [m0]; rfl
    have qU := sU htab (GU_hold hU hU1 hT0) eU1_0
    rcases k1 with m1 | m1 | m1
    · have hT1 : XT1.den (vv a0 a1 a2 a3) = .ofNat 1 := by show IntKind.wrap .i64 (1 + IntKind.wrap .i64 (Int.tmod a2 3)) = _; rw [m1]; rfl
      have qB := sB htab (GB_hold hO hO1 hO2 hT0 hT1) eB11_0_0
      rcases k2 with m2 | m2 | m2
      · have hT2 : XT2.den (vv a0 a1 a2 a3) = .ofNat 1 := by show IntKind.wrap .i64 (1 + IntKind.wrap .i64 (Int.tmod a3 3)) = _; rw [m2]; rfl
        have qC := sC htab (GC_hold hT0 hT1 hT2) eC0_0_0
        exact fin htab (GM_hold hU hO hT0 hT1 hT2) qU qB qC r11_0_0_0
      · have hT2 : XT2.den (vv a0 a1 a2 a3) = .ofNat 2 := by show IntKind.wrap .i64 (1 + IntKind.wrap .i64 (Int.tmod a3 3)) = _; rw [m2]; rfl
        have qC := sC htab (GC_hold hT0 hT1 hT2) eC0_0_1
        exact fin htab (GM_hold hU hO hT0 hT1 hT2) qU qB qC r11_0_0_1
      · have hT2 : XT2.den (vv a0 a1 a2 a3) = .ofNat 3 := by show IntKind.wrap .i64 (1 + IntKind.wrap .i64 (Int.tmod a3 3)) = _; rw [m2]; rfl
        have qC := sC htab (GC_hold hT0 hT1 hT2) eC0_0_2
        exact fin htab (GM_hold hU hO hT0 hT1 hT2) qU qB qC r11_0_0_2
    · have hT1 : XT1.den (vv a0 a1 a2 a3) = .ofNat 2 := by show IntKind.wrap .i64 (1 + IntKind.wrap .i64 (Int.tmod a2 3)) = _; rw [m1]; rfl
      have qB := sB htab (GB_hold hO hO1 hO2 hT0 hT1) eB11_0_1
      rcases k2 with m2 | m2 | m2
      · have hT2 : XT2.den (vv a0 a1 a2 a3) = .ofNat 1 := by show IntKind.wrap .i64 (1 + IntKind.wrap .i64 (Int.tmod a3 3)) = _; rw [m2]; rfl
        have qC := sC htab (GC_hold hT0 hT1 hT2) eC0_1_0
        exact fin htab (GM_hold hU hO hT0 hT1 hT2) qU qB qC r11_0_1_0
      · have hT2 : XT2.den (vv a0 a1 a2 a3) = .ofNat 2 := by show IntKind.wrap .i64 (1 + IntKind.wrap .i64 (Int.tmod a3 3)) = _; rw [m2]; rfl
        have qC := sC htab (GC_hold hT0 hT1 hT2) eC0_1_1
        exact fin htab (GM_hold hU hO hT0 hT1 hT2) qU qB qC r11_0_1_1
      · have hT2 : XT2.den (vv a0 a1 a2 a3) = .ofNat 3 := by show IntKind.wrap .i64 (1 + IntKind.wrap .i64 (Int.tmod a3 3)) = _; rw [m2]; rfl
        have qC := sC htab (GC_hold hT0 hT1 hT2) eC0_1_2
        exact fin htab (GM_hold hU hO hT0 hT1 hT2) qU qB qC r11_0_1_2
    · have hT1 : XT1.den (vv a0 a1 a2 a3) = .ofNat 3 := by show IntKind.wrap .i64 (1 + IntKind.wrap .i64 (Int.tmod a2 3)) = _; rw [m1]; rfl
      have qB := sB htab (GB_hold hO hO1 hO2 hT0 hT1) eB11_0_2
      rcases k2 with m2 | m2 | m2
      · have hT2 : XT2.den (vv a0 a1 a2 a3) = .ofNat 1 := by show IntKind.wrap .i64 (1 + IntKind.wrap .i64 (Int.tmod a3 3)) = _; rw [m2]; rfl
        have qC := sC htab (GC_hold hT0 hT1 hT2) eC0_2_0
        exact fin htab (GM_hold hU hO hT0 hT1 hT2) qU qB qC r11_0_2_0
      · have hT2 : XT2.den (vv a0 a1 a2 a3) = .ofNat 2 := by show IntKind.wrap .i64 (1 + IntKind.wrap .i64 (Int.tmod a3 3)) = _; rw [m2]; rfl
        have qC := sC htab (GC_hold hT0 hT1 hT2) eC0_2_1
        exact fin htab (GM_hold hU hO hT0 hT1 hT2) qU qB qC r11_0_2_1
      · have hT2 : XT2.den (vv a0 a1 a2 a3) = .ofNat 3 := by show IntKind.wrap .i64 (1 + IntKind.wrap .i64 (Int.tmod a3 3)) = _; rw [m2]; rfl
        have qC := sC htab (GC_hold hT0 hT1 hT2) eC0_2_2
        exact fin htab (GM_hold hU hO hT0 hT1 hT2) qU qB qC r11_0_2_2
  · have hT0 : XT0.den (vv a0 a1 a2 a3) = .ofNat 2 := by show IntKind.wrap .i64 (1 + IntKind.wrap .i64 (Int.tmod a1 3)) = _; rw [m0]; rfl
    have qU := sU htab (GU_hold hU hU1 hT0) eU1_1
    rcases k1 with m1 | m1 | m1
    · have hT1 : XT1.den (vv a0 a1 a2 a3) = .ofNat 1 := by show IntKind.wrap .i64 (1 + IntKind.wrap .i64 (Int.tmod a2 3)) = _; rw [m1]; rfl
      have qB := sB htab (GB_hold hO hO1 hO2 hT0 hT1) eB11_1_0
      rcases k2 with m2 | m2 | m2
      · have hT2 : XT2.den (vv a0 a1 a2 a3) = .ofNat 1 := by show IntKind.wrap .i64 (1 + IntKind.wrap .i64 (Int.tmod a3 3)) = _; rw [m2]; rfl
        have qC := sC htab (GC_hold hT0 hT1 hT2) eC1_0_0
        exact fin htab (GM_hold hU hO hT0 hT1 hT2) qU qB qC r11_1_0_0
      · have hT2 : XT2.den (vv a0 a1 a2 a3) = .ofNat 2 := by show IntKind.wrap .i64 (1 + IntKind.wrap .i64 (Int.tmod a3 3)) = _; rw [m2]; rfl
        have qC := sC htab (GC_hold hT0 hT1 hT2) eC1_0_1
        exact fin htab (GM_hold hU hO hT0 hT1 hT2) qU qB qC r11_1_0_1
      · have hT2 : XT2.den (vv a0 a1 a2 a3) = .ofNat 3 := by show IntKind.wrap .i64 (1 + IntKind.wrap .i64 (Int.tmod a3 3)) = _; rw [m2]; rfl
        have qC := sC htab (GC_hold hT0 hT1 hT2) eC1_0_2
        exact fin htab (GM_hold hU hO hT0 hT1 hT2) qU qB qC r11_1_0_2
    · have hT1 : XT1.den (vv a0 a1 a2 a3) = .ofNat 2 := by show IntKind.wrap .i64 (1 + IntKind.wrap .i64 (Int.tmod a2 3)) = _; rw [m1]; rfl
      have qB := sB htab (GB_hold hO hO1 hO2 hT0 hT1) eB11_1_1
      rcases k2 with m2 | m2 | m2
      · have hT2 : XT2.den (vv a0 a1 a2 a3) = .ofNat 1 := by show IntKind.wrap .i64 (1 + IntKind.wrap .i64 (Int.tmod a3 3)) = _; rw [m2]; rfl
        have qC := sC htab (GC_hold hT0 hT1 hT2) eC1_1_0
        exact fin htab (GM_hold hU hO hT0 hT1 hT2) qU qB qC r11_1_1_0
      · have hT2 : XT2.den (vv a0 a1 a2 a3) = .ofNat 2 := by show IntKind.wrap .i64 (1 + IntKind.wrap .i64 (Int.tmod a3 3)) = _; rw [m2]; rfl
        have qC := sC htab (GC_hold hT0 hT1 hT2) eC1_1_1
        exact fin htab (GM_hold hU hO hT0 hT1 hT2) qU qB qC r11_1_1_1
      · have hT2 : XT2.den (vv a0 a1 a2 a3) = .ofNat 3 := by show IntKind.wrap .i64 (1 + IntKind.wrap .i64 (Int.tmod a3 3)) = _; rw [m2]; rfl
        have qC := sC htab (GC_hold hT0 hT1 hT2) eC1_1_2
        exact fin htab (GM_hold hU hO hT0 hT1 hT2) qU qB qC r11_1_1_2
    · have hT1 : XT1.den (vv a0 a1 a2 a3) = .ofNat 3 := by show IntKind.wrap .i64 (1 + IntKind.wrap .i64 (Int.tmod a2 3)) = _; rw [m1]; rfl
      have qB := sB htab (GB_hold hO hO1 hO2 hT0 hT1) eB11_1_2
      rcases k2 with m2 | m2 | m2
      · have hT2 : XT2.den (vv a0 a1 a2 a3) = .ofNat 1 := by show IntKind.wrap .i64 (1 + IntKind.wrap .i64 (Int.tmod a3 3)) = _; rw [m2]; rfl
        have qC := sC htab (GC_hold hT0 hT1 hT2) eC1_2_0
        exact fin htab (GM_hold hU hO hT0 hT1 hT2) qU qB qC r11_1_2_0
      · have hT2 : XT2.den (vv a0 a1 a2 a3) = .ofNat 2 := by show IntKind.wrap .i64 (1 + IntKind.wrap .i64 (Int.tmod a3 3)) = _; rw [m2]; rfl
        have qC := sC htab (GC_hold hT0 hT1 hT2) eC1_2_1
        exact fin htab (GM_hold hU hO hT0 hT1 hT2) qU qB qC r11_1_2_1
      · have hT2 : XT2.den (vv a0 a1 a2 a3) = .ofNat 3 := by show IntKind.wrap .i64 (1 + IntKind.wrap .i64 (Int.tmod a3 3)) = _; rw [m2]; rfl
        have qC := sC htab (GC_hold hT0 hT1 hT2) eC1_2_2
        exact fin htab (GM_hold hU hO hT0 hT1 hT2) qU qB qC r11_1_2_2
  · have hT0 : XT0.den (vv a0 a1 a2 a3) = .ofNat 3 := by show IntKind.wrap .i64 (1 + IntKind.wrap .i64 (Int.tmod a1 3)) = _; rw [m0]; rfl
    have qU := sU htab (GU_hold hU hU1 hT0) eU1_2
    rcases k1 with m1 | m1 | m1
    · have hT1 : XT1.den (vv a0 a1 a2 a3) = .ofNat 1 := by show IntKind.wrap .i64 (1 + IntKind.wrap .i64 (Int.tmod a2 3)) = _; rw [m1]; rfl
      have qB := sB htab (GB_hold hO hO1 hO2 hT0 hT1) eB11_2_0
      rcases k2 with m2 | m2 | m2
      · have hT2 : XT2.den (vv a0 a1 a2 a3) = .ofNat 1 := by show IntKind.wrap .i64 (1 + IntKind.wrap .i64 (Int.tmod a3 3)) = _; rw [m2]; rfl
        have qC := sC htab (GC_hold hT0 hT1 hT2) eC2_0_0
        exact fin htab (GM_hold hU hO hT0 hT1 hT2) qU qB qC r11_2_0_0
      · have hT2 : XT2.den (vv a0 a1 a2 a3) = .ofNat 2 := by show IntKind.wrap .i64 (1 + IntKind.wrap .i64 (Int.tmod a3 3)) = _; rw [m2]; rfl
        have qC := sC htab (GC_hold hT0 hT1 hT2) eC2_0_1
        exact fin htab (GM_hold hU hO hT0 hT1 hT2) qU qB qC r11_2_0_1
      · have hT2 : XT2.den (vv a0 a1 a2 a3) = .ofNat 3 := by show IntKind.wrap .i64 (1 + IntKind.wrap .i64 (Int.tmod a3 3)) = _; rw [m2]; rfl
        have qC := sC htab (GC_hold hT0 hT1 hT2) eC2_0_2
        exact fin htab (GM_hold hU hO hT0 hT1 hT2) qU qB qC r11_2_0_2
    · have hT1 : XT1.den (vv a0 a1 a2 a3) = .ofNat 2 := by show IntKind.wrap .i64 (1 + IntKind.wrap .i64 (Int.tmod a2 3)) = _; rw [m1]; rfl
      have qB := sB htab (GB_hold hO hO1 hO2 hT0 hT1) eB11_2_1
      rcases k2 with m2 | m2 | m2
      · have hT2 : XT2.den (vv a0 a1 a2 a3) = .ofNat 1 := by show IntKind.wrap .i64 (1 + IntKind.wrap .i64 (Int.tmod a3 3)) = _; rw [m2]; rfl
        have qC := sC htab (GC_hold hT0 hT1 hT2) eC2_1_0
        exact fin htab (GM_hold hU hO hT0 hT1 hT2) qU qB qC r11_2_1_0
      · have hT2 : XT2.den (vv a0 a1 a2 a3) = .ofNat 2 := by show IntKind.wrap .i64 (1 + IntKind.wrap .i64 (Int.tmod a3 3)) = _; rw [m2]; rfl
        have qC := sC htab (GC_hold hT0 hT1 hT2) eC2_1_1
        exact fin htab (GM_hold hU hO hT0 hT1 hT2) qU qB qC r11_2_1_1
      · have hT2 : XT2.den (vv a0 a1 a2 a3) = .ofNat 3 := by show IntKind.wrap .i64 (1 + IntKind.wrap .i64 (Int.tmod a3 3)) = _; rw [m2]; rfl
        have qC := sC htab (GC_hold hT0 hT1 hT2) eC2_1_2
        exact fin htab (GM_hold hU hO hT0 hT1 hT2) qU qB qC r11_2_1_2
    · have hT1 : XT1.den (vv a0 a1 a2 a3) = .ofNat 3 := by show IntKind.wrap .i64 (1 + IntKind.wrap .i64 (Int.tmod a2 3)) = _; rw [m1]; rfl
      have qB := sB htab (GB_hold hO hO1 hO2 hT0 hT1) eB11_2_2
      rcases k2 with m2 | m2 | m2
      · have hT2 : XT2.den (vv a0 a1 a2 a3) = .ofNat 1 := by show IntKind.wrap .i64 (1 + IntKind.wrap .i64 (Int.tmod a3 3)) = _; rw [m2]; rfl
        have qC := sC htab (GC_hold hT0 hT1 hT2) eC2_2_0
        exact fin htab (GM_hold hU hO hT0 hT1 hT2) qU qB qC r11_2_2_0
      · have hT2 : XT2.den (vv a0 a1 a2 a3) = .ofNat 2 := by show IntKind.wrap .i64 (1 + IntKind.wrap .i64 (Int.tmod a3 3)) = _; rw [m2]; rfl
        have qC := sC htab (GC_hold hT0 hT1 hT2) eC2_2_1
        exact fin htab (GM_hold hU hO hT0 hT1 hT2) qU qB qC r11_2_2_1
      · have hT2 : XT2.den (vv a0 a1 a2 a3) = .ofNat 3 := by show IntKind.wrap .i64 (1 + IntKind.wrap .i64 (Int.tmod a3 3)) = _; rw [m2]; rfl
        have qC := sC htab (GC_hold hT0 hT1 hT2) eC2_2_2
        exact fin htab (GM_hold hU hO hT0 hT1 hT2) qU qB qC r11_2_2_2
theorem c12 (a0 a1 a2 a3 : Int) (b0 : (0 : Int) ≤ a0 ∧ a0 ≤ 255) (b1 : (0 : Int) ≤ a1 ∧ a1 ≤ 255) (b2 : (0 : Int) ≤ a2 ∧ a2 ≤ 255) (b3 : (0 : Int) ≤ a3 ∧ a3 ≤ 255) (ho : Int.tmod a0 20 = 12) (w : World) (htab : Lib.TabIs Tryz.prog w "internal/strconv.uint64pow10" .u64 Lib.pow10Tab) : Calls Tryz.prog 4 #[.int .u8 a0, .agg #[.int .u8 a1, .int .u8 a2, .int .u8 a3]] w fun e w' => e = .returned (.bool true) ∧ Kept w w' := by
  have hw : IntKind.wrap .i64 a0 = a0 := wrap_in .i64 a0 (show (-9223372036854775808 : Int) ≤ a0 ∧ a0 ≤ (9223372036854775807 : Int) by omega)
  have h5 : Int.tmod a0 5 = 2 := by
    rw [Int.tmod_eq_emod_of_nonneg b0.1] at ho ⊢
    omega
  have hU : XU.den (vv a0 a1 a2 a3) = .ofNat 3 := by show IntKind.wrap .i64 (1 + Int.tmod (IntKind.wrap .i64 a0) 5) = _; rw [hw, h5]; rfl
  have hU1 : XU1.den (vv a0 a1 a2 a3) = .ofNat 2 := by show IntKind.wrap .i64 (XU.den (vv a0 a1 a2 a3) - 1) = _; rw [hU]; rfl
  have hO : XO.den (vv a0 a1 a2 a3) = .ofNat 22 := by show IntKind.wrap .i64 (10 + Int.tmod (IntKind.wrap .i64 a0) 20) = _; rw [hw, ho]; rfl
  have hO1 : XO1.den (vv a0 a1 a2 a3) = .ofNat 12 := by show IntKind.wrap .i64 (XO.den (vv a0 a1 a2 a3) - 10) = _; rw [hO]; rfl
  have hO2 : XO2.den (vv a0 a1 a2 a3) = .ofNat 0 := by show IntKind.wrap .i64 (XO.den (vv a0 a1 a2 a3) - 22) = _; rw [hO]; rfl
  have k0 : Int.tmod a1 3 = 0 ∨ Int.tmod a1 3 = 1 ∨ Int.tmod a1 3 = 2 := by
    rw [Int.tmod_eq_emod_of_nonneg b1.1]
    omega
  have k1 : Int.tmod a2 3 = 0 ∨ Int.tmod a2 3 = 1 ∨ Int.tmod a2 3 = 2 := by
    rw [Int.tmod_eq_emod_of_nonneg b2.1]
    omega
  have k2 : Int.tmod a3 3 = 0 ∨ Int.tmod a3 3 = 1 ∨ Int.tmod a3 3 = 2 := by
    rw [Int.tmod_eq_emod_of_nonneg b3.1]
    omega
  rcases k0 with m0 | m0 | m0
  · have hT0 : XT0.den (vv a0 a1 a2 a3) = .ofNat 1 := by show IntKind.wrap .i64 (1 + IntKind.wrap .i64 (Int.tmod a1 3)) = _; rw [m0]; rfl
    have qU := sU htab (GU_hold hU hU1 hT0) eU2_0
    rcases k1 with m1 | m1 | m1
    · have hT1 : XT1.den (vv a0 a1 a2 a3) = .ofNat 1 := by show IntKind.wrap .i64 (1 + IntKind.wrap .i64 (Int.tmod a2 3)) = _; rw [m1]; rfl
      have qB := sB htab (GB_hold hO hO1 hO2 hT0 hT1) eB12_0_0
      rcases k2 with m2 | m2 | m2
      · have hT2 : XT2.den (vv a0 a1 a2 a3) = .ofNat 1 := by show IntKind.wrap .i64 (1 + IntKind.wrap .i64 (Int.tmod a3 3)) = _; rw [m2]; rfl
        have qC := sC htab (GC_hold hT0 hT1 hT2) eC0_0_0
        exact fin htab (GM_hold hU hO hT0 hT1 hT2) qU qB qC r12_0_0_0
      · have hT2 : XT2.den (vv a0 a1 a2 a3) = .ofNat 2 := by show IntKind.wrap .i64 (1 + IntKind.wrap .i64 (Int.tmod a3 3)) = _; rw [m2]; rfl
        have qC := sC htab (GC_hold hT0 hT1 hT2) eC0_0_1
        exact fin htab (GM_hold hU hO hT0 hT1 hT2) qU qB qC r12_0_0_1
      · have hT2 : XT2.den (vv a0 a1 a2 a3) = .ofNat 3 := by show IntKind.wrap .i64 (1 + IntKind.wrap .i64 (Int.tmod a3 3)) = _; rw [m2]; rfl
        have qC := sC htab (GC_hold hT0 hT1 hT2) eC0_0_2
        exact fin htab (GM_hold hU hO hT0 hT1 hT2) qU qB qC r12_0_0_2
    · have hT1 : XT1.den (vv a0 a1 a2 a3) = .ofNat 2 := by show IntKind.wrap .i64 (1 + IntKind.wrap .i64 (Int.tmod a2 3)) = _; rw [m1]; rfl
      have qB := sB htab (GB_hold hO hO1 hO2 hT0 hT1) eB12_0_1
      rcases k2 with m2 | m2 | m2
      · have hT2 : XT2.den (vv a0 a1 a2 a3) = .ofNat 1 := by show IntKind.wrap .i64 (1 + IntKind.wrap .i64 (Int.tmod a3 3)) = _; rw [m2]; rfl
        have qC := sC htab (GC_hold hT0 hT1 hT2) eC0_1_0
        exact fin htab (GM_hold hU hO hT0 hT1 hT2) qU qB qC r12_0_1_0
      · have hT2 : XT2.den (vv a0 a1 a2 a3) = .ofNat 2 := by show IntKind.wrap .i64 (1 + IntKind.wrap .i64 (Int.tmod a3 3)) = _; rw [m2]; rfl
        have qC := sC htab (GC_hold hT0 hT1 hT2) eC0_1_1
        exact fin htab (GM_hold hU hO hT0 hT1 hT2) qU qB qC r12_0_1_1
      · have hT2 : XT2.den (vv a0 a1 a2 a3) = .ofNat 3 := by show IntKind.wrap .i64 (1 + IntKind.wrap .i64 (Int.tmod a3 3)) = _; rw [m2]; rfl
        have qC := sC htab (GC_hold hT0 hT1 hT2) eC0_1_2
        exact fin htab (GM_hold hU hO hT0 hT1 hT2) qU qB qC r12_0_1_2
    · have hT1 : XT1.den (vv a0 a1 a2 a3) = .ofNat 3 := by show IntKind.wrap .i64 (1 + IntKind.wrap .i64 (Int.tmod a2 3)) = _; rw [m1]; rfl
      have qB := sB htab (GB_hold hO hO1 hO2 hT0 hT1) eB12_0_2
      rcases k2 with m2 | m2 | m2
      · have hT2 : XT2.den (vv a0 a1 a2 a3) = .ofNat 1 := by show IntKind.wrap .i64 (1 + IntKind.wrap .i64 (Int.tmod a3 3)) = _; rw [m2]; rfl
        have qC := sC htab (GC_hold hT0 hT1 hT2) eC0_2_0
        exact fin htab (GM_hold hU hO hT0 hT1 hT2) qU qB qC r12_0_2_0
      · have hT2 : XT2.den (vv a0 a1 a2 a3) = .ofNat 2 := by show IntKind.wrap .i64 (1 + IntKind.wrap .i64 (Int.tmod a3 3)) = _; rw [m2]; rfl
        have qC := sC htab (GC_hold hT0 hT1 hT2) eC0_2_1
        exact fin htab (GM_hold hU hO hT0 hT1 hT2) qU qB qC r12_0_2_1
      · have hT2 : XT2.den (vv a0 a1 a2 a3) = .ofNat 3 := by show IntKind.wrap .i64 (1 + IntKind.wrap .i64 (Int.tmod a3 3)) = _; rw [m2]; rfl
        have qC := sC htab (GC_hold hT0 hT1 hT2) eC0_2_2
        exact fin htab (GM_hold hU hO hT0 hT1 hT2) qU qB qC r12_0_2_2
  · have hT0 : XT0.den (vv a0 a1 a2 a3) = .ofNat 2 := by show IntKind.wrap .i64 (1 + IntKind.wrap .i64 (Int.tmod a1 3)) = _; rw [m0]; rfl
    have qU := sU htab (GU_hold hU hU1 hT0) eU2_1
    rcases k1 with m1 | m1 | m1
    · have hT1 : XT1.den (vv a0 a1 a2 a3) = .ofNat 1 := by show IntKind.wrap .i64 (1 + IntKind.wrap .i64 (Int.tmod a2 3)) = _; rw [m1]; rfl
      have qB := sB htab (GB_hold hO hO1 hO2 hT0 hT1) eB12_1_0
      rcases k2 with m2 | m2 | m2
      · have hT2 : XT2.den (vv a0 a1 a2 a3) = .ofNat 1 := by show IntKind.wrap .i64 (1 + IntKind.wrap .i64 (Int.tmod a3 3)) = _; rw [m2]; rfl
        have qC := sC htab (GC_hold hT0 hT1 hT2) eC1_0_0
        exact fin htab (GM_hold hU hO hT0 hT1 hT2) qU qB qC r12_1_0_0
      · have hT2 : XT2.den (vv a0 a1 a2 a3) = .ofNat 2 := by show IntKind.wrap .i64 (1 + IntKind.wrap .i64 (Int.tmod a3 3)) = _; rw [m2]; rfl
        have qC := sC htab (GC_hold hT0 hT1 hT2) eC1_0_1
        exact fin htab (GM_hold hU hO hT0 hT1 hT2) qU qB qC r12_1_0_1
      · have hT2 : XT2.den (vv a0 a1 a2 a3) = .ofNat 3 := by show IntKind.wrap .i64 (1 + IntKind.wrap .i64 (Int.tmod a3 3)) = _; rw [m2]; rfl
        have qC := sC htab (GC_hold hT0 hT1 hT2) eC1_0_2
        exact fin htab (GM_hold hU hO hT0 hT1 hT2) qU qB qC r12_1_0_2
    · have hT1 : XT1.den (vv a0 a1 a2 a3) = .ofNat 2 := by show IntKind.wrap .i64 (1 + IntKind.wrap .i64 (Int.tmod a2 3)) = _; rw [m1]; rfl
      have qB := sB htab (GB_hold hO hO1 hO2 hT0 hT1) eB12_1_1
      rcases k2 with m2 | m2 | m2
      · have hT2 : XT2.den (vv a0 a1 a2 a3) = .ofNat 1 := by show IntKind.wrap .i64 (1 + IntKind.wrap .i64 (Int.tmod a3 3)) = _; rw [m2]; rfl
        have qC := sC htab (GC_hold hT0 hT1 hT2) eC1_1_0
        exact fin htab (GM_hold hU hO hT0 hT1 hT2) qU qB qC r12_1_1_0
      · have hT2 : XT2.den (vv a0 a1 a2 a3) = .ofNat 2 := by show IntKind.wrap .i64 (1 + IntKind.wrap .i64 (Int.tmod a3 3)) = _; rw [m2]; rfl
        have qC := sC htab (GC_hold hT0 hT1 hT2) eC1_1_1
        exact fin htab (GM_hold hU hO hT0 hT1 hT2) qU qB qC r12_1_1_1
      · have hT2 : XT2.den (vv a0 a1 a2 a3) = .ofNat 3 := by show IntKind.wrap .i64 (1 + IntKind.wrap .i64 (Int.tmod a3 3)) = _; rw [m2]; rfl
        have qC := sC htab (GC_hold hT0 hT1 hT2) eC1_1_2
        exact fin htab (GM_hold hU hO hT0 hT1 hT2) qU qB qC r12_1_1_2
    · have hT1 : XT1.den (vv a0 a1 a2 a3) = .ofNat 3 := by show IntKind.wrap .i64 (1 + IntKind.wrap .i64 (Int.tmod a2 3)) = _; rw [m1]; rfl
      have qB := sB htab (GB_hold hO hO1 hO2 hT0 hT1) eB12_1_2
      rcases k2 with m2 | m2 | m2
      · have hT2 : XT2.den (vv a0 a1 a2 a3) = .ofNat 1 := by show IntKind.wrap .i64 (1 + IntKind.wrap .i64 (Int.tmod a3 3)) = _; rw [m2]; rfl
        have qC := sC htab (GC_hold hT0 hT1 hT2) eC1_2_0
        exact fin htab (GM_hold hU hO hT0 hT1 hT2) qU qB qC r12_1_2_0
      · have hT2 : XT2.den (vv a0 a1 a2 a3) = .ofNat 2 := by show IntKind.wrap .i64 (1 + IntKind.wrap .i64 (Int.tmod a3 3)) = _; rw [m2]; rfl
        have qC := sC htab (GC_hold hT0 hT1 hT2) eC1_2_1
        exact fin htab (GM_hold hU hO hT0 hT1 hT2) qU qB qC r12_1_2_1
      · have hT2 : XT2.den (vv a0 a1 a2 a3) = .ofNat 3 := by show IntKind.wrap .i64 (1 + IntKind.wrap .i64 (Int.tmod a3 3)) = _; rw [m2]; rfl
        have qC := sC htab (GC_hold hT0 hT1 hT2) eC1_2_2
        exact fin htab (GM_hold hU hO hT0 hT1 hT2) qU qB qC r12_1_2_2
  · have hT0 : XT0.den (vv a0 a1 a2 a3) = .ofNat 3 := by show IntKind.wrap .i64 (1 + IntKind.wrap .i64 (Int.tmod a1 3)) = _; rw [m0]; rfl
    have qU := sU htab (GU_hold hU hU1 hT0) eU2_2
    rcases k1 with m1 | m1 | m1
    · have hT1 : XT1.den (vv a0 a1 a2 a3) = .ofNat 1 := by show IntKind.wrap .i64 (1 + IntKind.wrap .i64 (Int.tmod a2 3)) = _; rw [m1]; rfl
      have qB := sB htab (GB_hold hO hO1 hO2 hT0 hT1) eB12_2_0
      rcases k2 with m2 | m2 | m2
      · have hT2 : XT2.den (vv a0 a1 a2 a3) = .ofNat 1 := by show IntKind.wrap .i64 (1 + IntKind.wrap .i64 (Int.tmod a3 3)) = _; rw [m2]; rfl
        have qC := sC htab (GC_hold hT0 hT1 hT2) eC2_0_0
        exact fin htab (GM_hold hU hO hT0 hT1 hT2) qU qB qC r12_2_0_0
      · have hT2 : XT2.den (vv a0 a1 a2 a3) = .ofNat 2 := by show IntKind.wrap .i64 (1 + IntKind.wrap .i64 (Int.tmod a3 3)) = _; rw [m2]; rfl
        have qC := sC htab (GC_hold hT0 hT1 hT2) eC2_0_1
        exact fin htab (GM_hold hU hO hT0 hT1 hT2) qU qB qC r12_2_0_1
      · have hT2 : XT2.den (vv a0 a1 a2 a3) = .ofNat 3 := by show IntKind.wrap .i64 (1 + IntKind.wrap .i64 (Int.tmod a3 3)) = _; rw [m2]; rfl
        have qC := sC htab (GC_hold hT0 hT1 hT2) eC2_0_2
        exact fin htab (GM_hold hU hO hT0 hT1 hT2) qU qB qC r12_2_0_2
    · have hT1 : XT1.den (vv a0 a1 a2 a3) = .ofNat 2 := by show IntKind.wrap .i64 (1 + IntKind.wrap .i64 (Int.tmod a2 3)) = _; rw [m1]; rfl
      have qB := sB htab (GB_hold hO hO1 hO2 hT0 hT1) eB12_2_1
      rcases k2 with m2 | m2 | m2
      · have hT2 : XT2.den (vv a0 a1 a2 a3) = .ofNat 1 := by show IntKind.wrap .i64 (1 + IntKind.wrap .i64 (Int.tmod a3 3)) = _; rw [m2]; rfl
        have qC := sC htab (GC_hold hT0 hT1 hT2) eC2_1_0
        exact fin htab (GM_hold hU hO hT0 hT1 hT2) qU qB qC r12_2_1_0
      · have hT2 : XT2.den (vv a0 a1 a2 a3) = .ofNat 2 := by show IntKind.wrap .i64 (1 + IntKind.wrap .i64 (Int.tmod a3 3)) = _; rw [m2]; rfl
        have qC := sC htab (GC_hold hT0 hT1 hT2) eC2_1_1
        exact fin htab (GM_hold hU hO hT0 hT1 hT2) qU qB qC r12_2_1_1
      · have hT2 : XT2.den (vv a0 a1 a2 a3) = .ofNat 3 := by show IntKind.wrap .i64 (1 + IntKind.wrap .i64 (Int.tmod a3 3)) = _; rw [m2]; rfl
        have qC := sC htab (GC_hold hT0 hT1 hT2) eC2_1_2
        exact fin htab (GM_hold hU hO hT0 hT1 hT2) qU qB qC r12_2_1_2
    · have hT1 : XT1.den (vv a0 a1 a2 a3) = .ofNat 3 := by show IntKind.wrap .i64 (1 + IntKind.wrap .i64 (Int.tmod a2 3)) = _; rw [m1]; rfl
      have qB := sB htab (GB_hold hO hO1 hO2 hT0 hT1) eB12_2_2
      rcases k2 with m2 | m2 | m2
      · have hT2 : XT2.den (vv a0 a1 a2 a3) = .ofNat 1 := by show IntKind.wrap .i64 (1 + IntKind.wrap .i64 (Int.tmod a3 3)) = _; rw [m2]; rfl
        have qC := sC htab (GC_hold hT0 hT1 hT2) eC2_2_0
        exact fin htab (GM_hold hU hO hT0 hT1 hT2) qU qB qC r12_2_2_0
      · have hT2 : XT2.den (vv a0 a1 a2 a3) = .ofNat 2 := by show IntKind.wrap .i64 (1 + IntKind.wrap .i64 (Int.tmod a3 3)) = _; rw [m2]; rfl
        have qC := sC htab (GC_hold hT0 hT1 hT2) eC2_2_1
        exact fin htab (GM_hold hU hO hT0 hT1 hT2) qU qB qC r12_2_2_1
      · have hT2 : XT2.den (vv a0 a1 a2 a3) = .ofNat 3 := by show IntKind.wrap .i64 (1 + IntKind.wrap .i64 (Int.tmod a3 3)) = _; rw [m2]; rfl
        have qC := sC htab (GC_hold hT0 hT1 hT2) eC2_2_2
        exact fin htab (GM_hold hU hO hT0 hT1 hT2) qU qB qC r12_2_2_2
theorem c13 (a0 a1 a2 a3 : Int) (b0 : (0 : Int) ≤ a0 ∧ a0 ≤ 255) (b1 : (0 : Int) ≤ a1 ∧ a1 ≤ 255) (b2 : (0 : Int) ≤ a2 ∧ a2 ≤ 255) (b3 : (0 : Int) ≤ a3 ∧ a3 ≤ 255) (ho : Int.tmod a0 20 = 13) (w : World) (htab : Lib.TabIs Tryz.prog w "internal/strconv.uint64pow10" .u64 Lib.pow10Tab) : Calls Tryz.prog 4 #[.int .u8 a0, .agg #[.int .u8 a1, .int .u8 a2, .int .u8 a3]] w fun e w' => e = .returned (.bool true) ∧ Kept w w' := by
  have hw : IntKind.wrap .i64 a0 = a0 := wrap_in .i64 a0 (show (-9223372036854775808 : Int) ≤ a0 ∧ a0 ≤ (9223372036854775807 : Int) by omega)
  have h5 : Int.tmod a0 5 = 3 := by
    rw [Int.tmod_eq_emod_of_nonneg b0.1] at ho ⊢
    omega
  have hU : XU.den (vv a0 a1 a2 a3) = .ofNat 4 := by show IntKind.wrap .i64 (1 + Int.tmod (IntKind.wrap .i64 a0) 5) = _; rw [hw, h5]; rfl
  have hU1 : XU1.den (vv a0 a1 a2 a3) = .ofNat 3 := by show IntKind.wrap .i64 (XU.den (vv a0 a1 a2 a3) - 1) = _; rw [hU]; rfl
  have hO : XO.den (vv a0 a1 a2 a3) = .ofNat 23 := by show IntKind.wrap .i64 (10 + Int.tmod (IntKind.wrap .i64 a0) 20) = _; rw [hw, ho]; rfl
  have hO1 : XO1.den (vv a0 a1 a2 a3) = .ofNat 13 := by show IntKind.wrap .i64 (XO.den (vv a0 a1 a2 a3) - 10) = _; rw [hO]; rfl
  have hO2 : XO2.den (vv a0 a1 a2 a3) = .ofNat 1 := by show IntKind.wrap .i64 (XO.den (vv a0 a1 a2 a3) - 22) = _; rw [hO]; rfl
  have k0 : Int.tmod a1 3 = 0 ∨ Int.tmod a1 3 = 1 ∨ Int.tmod a1 3 = 2 := by
    rw [Int.tmod_eq_emod_of_nonneg b1.1]
    omega
  have k1 : Int.tmod a2 3 = 0 ∨ Int.tmod a2 3 = 1 ∨ Int.tmod a2 3 = 2 := by
    rw [Int.tmod_eq_emod_of_nonneg b2.1]
    omega
  have k2 : Int.tmod a3 3 = 0 ∨ Int.tmod a3 3 = 1 ∨ Int.tmod a3 3 = 2 := by
    rw [Int.tmod_eq_emod_of_nonneg b3.1]
    omega
  rcases k0 with m0 | m0 | m0
  · have hT0 : XT0.den (vv a0 a1 a2 a3) = .ofNat 1 := by show IntKind.wrap .i64 (1 + IntKind.wrap .i64 (Int.tmod a1 3)) = _; rw [m0]; rfl
    have qU := sU htab (GU_hold hU hU1 hT0) eU3_0
    rcases k1 with m1 | m1 | m1
    · have hT1 : XT1.den (vv a0 a1 a2 a3) = .ofNat 1 := by show IntKind.wrap .i64 (1 + IntKind.wrap .i64 (Int.tmod a2 3)) = _; rw [m1]; rfl
      have qB := sB htab (GB_hold hO hO1 hO2 hT0 hT1) eB13_0_0
      rcases k2 with m2 | m2 | m2
      · have hT2 : XT2.den (vv a0 a1 a2 a3) = .ofNat 1 := by show IntKind.wrap .i64 (1 + IntKind.wrap .i64 (Int.tmod a3 3)) = _; rw [m2]; rfl
        have qC := sC htab (GC_hold hT0 hT1 hT2) eC0_0_0
        exact fin htab (GM_hold hU hO hT0 hT1 hT2) qU qB qC r13_0_0_0
      · have hT2 : XT2.den (vv a0 a1 a2 a3) = .ofNat 2 := by show IntKind.wrap .i64 (1 + IntKind.wrap .i64 (Int.tmod a3 3)) = _; rw [m2]; rfl
        have qC := sC htab (GC_hold hT0 hT1 hT2) eC0_0_1
        exact fin htab (GM_hold hU hO hT0 hT1 hT2) qU qB qC r13_0_0_1
      · have hT2 : XT2.den (vv a0 a1 a2 a3) = .ofNat 3 := by show IntKind.wrap .i64 (1 + IntKind.wrap .i64 (Int.tmod a3 3)) = _; rw [m2]; rfl
        have qC := sC htab (GC_hold hT0 hT1 hT2) eC0_0_2
        exact fin htab (GM_hold hU hO hT0 hT1 hT2) qU qB qC r13_0_0_2
    · have hT1 : XT1.den (vv a0 a1 a2 a3) = .ofNat 2 := by show IntKind.wrap .i64 (1 + IntKind.wrap .i64 (Int.tmod a2 3)) = _; rw [m1]; rfl
      have qB := sB htab (GB_hold hO hO1 hO2 hT0 hT1) eB13_0_1
      rcases k2 with m2 | m2 | m2
      · have hT2 : XT2.den (vv a0 a1 a2 a3) = .ofNat 1 := by show IntKind.wrap .i64 (1 + IntKind.wrap .i64 (Int.tmod a3 3)) = _; rw [m2]; rfl
        have qC := sC htab (GC_hold hT0 hT1 hT2) eC0_1_0
        exact fin htab (GM_hold hU hO hT0 hT1 hT2) qU qB qC r13_0_1_0
      · have hT2 : XT2.den (vv a0 a1 a2 a3) = .ofNat 2 := by show IntKind.wrap .i64 (1 + IntKind.wrap .i64 (Int.tmod a3 3)) = _; rw [m2]; rfl
        have qC := sC htab (GC_hold hT0 hT1 hT2) eC0_1_1
        exact fin htab (GM_hold hU hO hT0 hT1 hT2) qU qB qC r13_0_1_1
      · have hT2 : XT2.den (vv a0 a1 a2 a3) = .ofNat 3 := by show IntKind.wrap .i64 (1 + IntKind.wrap .i64 (Int.tmod a3 3)) = _; rw [m2]; rfl
        have qC := sC htab (GC_hold hT0 hT1 hT2) eC0_1_2
        exact fin htab (GM_hold hU hO hT0 hT1 hT2) qU qB qC r13_0_1_2
    · have hT1 : XT1.den (vv a0 a1 a2 a3) = .ofNat 3 := by show IntKind.wrap .i64 (1 + IntKind.wrap .i64 (Int.tmod a2 3)) = _; rw [m1]; rfl
      have qB := sB htab (GB_hold hO hO1 hO2 hT0 hT1) eB13_0_2
      rcases k2 with m2 | m2 | m2
      · have hT2 : XT2.den (vv a0 a1 a2 a3) = .ofNat 1 := by show IntKind.wrap .i64 (1 + IntKind.wrap .i64 (Int.tmod a3 3)) = _; rw [m2]; rfl
        have qC := sC htab (GC_hold hT0 hT1 hT2) eC0_2_0
        exact fin htab (GM_hold hU hO hT0 hT1 hT2) qU qB qC r13_0_2_0
      · have hT2 : XT2.den (vv a0 a1 a2 a3) = .ofNat 2 := by show IntKind.wrap .i64 (1 + IntKind.wrap .i64 (Int.tmod a3 3)) = _; rw [m2]; rfl
        have qC := sC htab (GC_hold hT0 hT1 hT2) eC0_2_1
        exact fin htab (GM_hold hU hO hT0 hT1 hT2) qU qB qC r13_0_2_1
      · have hT2 : XT2.den (vv a0 a1 a2 a3) = .ofNat 3 := by show IntKind.wrap .i64 (1 + IntKind.wrap .i64 (Int.tmod a3 3)) = _; rw [m2]; rfl
        have qC := sC htab (GC_hold hT0 hT1 hT2) eC0_2_2
        exact fin htab (GM_hold hU hO hT0 hT1 hT2) qU qB qC r13_0_2_2
  · have hT0 : XT0.den (vv a0 a1 a2 a3) = .ofNat 2 := by show IntKind.wrap .i64 (1 + IntKind.wrap .i64 (Int.tmod a1 3)) = _; rw [m0]; rfl
    have qU := sU htab (GU_hold hU hU1 hT0) eU3_1
    rcases k1 with m1 | m1 | m1
    · have hT1 : XT1.den (vv a0 a1 a2 a3) = .ofNat 1 := by show IntKind.wrap .i64 (1 + IntKind.wrap .i64 (Int.tmod a2 3)) = _; rw [m1]; rfl
      have qB := sB htab (GB_hold hO hO1 hO2 hT0 hT1) eB13_1_0
      rcases k2 with m2 | m2 | m2
      · have hT2 : XT2.den (vv a0 a1 a2 a3) = .ofNat 1 := by show IntKind.wrap .i64 (1 + IntKind.wrap .i64 (Int.tmod a3 3)) = _; rw [m2]; rfl
        have qC := sC htab (GC_hold hT0 hT1 hT2) eC1_0_0
        exact fin htab (GM_hold hU hO hT0 hT1 hT2) qU qB qC r13_1_0_0
      · have hT2 : XT2.den (vv a0 a1 a2 a3) = .ofNat 2 := by show IntKind.wrap .i64 (1 + IntKind.wrap .i64 (Int.tmod a3 3)) = _; rw [m2]; rfl
        have qC := sC htab (GC_hold hT0 hT1 hT2) eC1_0_1
        exact fin htab (GM_hold hU hO hT0 hT1 hT2) qU qB qC r13_1_0_1
      · have hT2 : XT2.den (vv a0 a1 a2 a3) = .ofNat 3 := by show IntKind.wrap .i64 (1 + IntKind.wrap .i64 (Int.tmod a3 3)) = _; rw [m2]; rfl
        have qC := sC htab (GC_hold hT0 hT1 hT2) eC1_0_2
        exact fin htab (GM_hold hU hO hT0 hT1 hT2) qU qB qC r13_1_0_2
    · have hT1 : XT1.den (vv a0 a1 a2 a3) = .ofNat 2 := by show IntKind.wrap .i64 (1 + IntKind.wrap .i64 (Int.tmod a2 3)) = _; rw [m1]; rfl
      have qB := sB htab (GB_hold hO hO1 hO2 hT0 hT1) eB13_1_1
      rcases k2 with m2 | m2 | m2
      · have hT2 : XT2.den (vv a0 a1 a2 a3) = .ofNat 1 := by show IntKind.wrap .i64 (1 + IntKind.wrap .i64 (Int.tmod a3 3)) = _; rw [m2]; rfl
        have qC := sC htab (GC_hold hT0 hT1 hT2) eC1_1_0
        exact fin htab (GM_hold hU hO hT0 hT1 hT2) qU qB qC r13_1_1_0
      · have hT2 : XT2.den (vv a0 a1 a2 a3) = .ofNat 2 := by show IntKind.wrap .i64 (1 + IntKind.wrap .i64 (Int.tmod a3 3)) = _; rw [m2]; rfl
        have qC := sC htab (GC_hold hT0 hT1 hT2) eC1_1_1
        exact fin htab (GM_hold hU hO hT0 hT1 hT2) qU qB qC r13_1_1_1
      · have hT2 : XT2.den (vv a0 a1 a2 a3) = .ofNat 3 := by show IntKind.wrap .i64 (1 + IntKind.wrap .i64 (Int.tmod a3 3)) = _; rw [m2]; rfl
        have qC := sC htab (GC_hold hT0 hT1 hT2) eC1_1_2
        exact fin htab (GM_hold hU hO hT0 hT1 hT2) qU qB qC r13_1_1_2
    · have hT1 : XT1.den (vv a0 a1 a2 a3) = .ofNat 3 := by show IntKind.wrap .i64 (1 + IntKind.wrap .i64 (Int.tmod a2 3)) = _; rw [m1]; rfl
      have qB := sB htab (GB_hold hO hO1 hO2 hT0 hT1) eB13_1_2
      rcases k2 with m2 | m2 | m2
      · have hT2 : XT2.den (vv a0 a1 a2 a3) = .ofNat 1 := by show IntKind.wrap .i64 (1 + IntKind.wrap .i64 (Int.tmod a3 3)) = _; rw [m2]; rfl
        have qC := sC htab (GC_hold hT0 hT1 hT2) eC1_2_0
        exact fin htab (GM_hold hU hO hT0 hT1 hT2) qU qB qC r13_1_2_0
      · have hT2 : XT2.den (vv a0 a1 a2 a3) = .ofNat 2 := by show IntKind.wrap .i64 (1 + IntKind.wrap .i64 (Int.tmod a3 3)) = _; rw [m2]; rfl
        have qC := sC htab (GC_hold hT0 hT1 hT2) eC1_2_1
        exact fin htab (GM_hold hU hO hT0 hT1 hT2) qU qB qC r13_1_2_1
      · have hT2 : XT2.den (vv a0 a1 a2 a3) = .ofNat 3 := by show IntKind.wrap .i64 (1 + IntKind.wrap .i64 (Int.tmod a3 3)) = _; rw [m2]; rfl
        have qC := sC htab (GC_hold hT0 hT1 hT2) eC1_2_2
        exact fin htab (GM_hold hU hO hT0 hT1 hT2) qU qB qC r13_1_2_2
  · have hT0 : XT0.den (vv a0 a1 a2 a3) = .ofNat 3 := by show IntKind.wrap .i64 (1 + IntKind.wrap .i64 (Int.tmod a1 3)) = _; rw [m0]; rfl
    have qU := sU htab (GU_hold hU hU1 hT0) eU3_2
    rcases k1 with m1 | m1 | m1
    · have hT1 : XT1.den (vv a0 a1 a2 a3) = .ofNat 1 := by show IntKind.wrap .i64 (1 + IntKind.wrap .i64 (Int.tmod a2 3)) = _; rw [m1]; rfl
      have qB := sB htab (GB_hold hO hO1 hO2 hT0 hT1) eB13_2_0
      rcases k2 with m2 | m2 | m2
      · have hT2 : XT2.den (vv a0 a1 a2 a3) = .ofNat 1 := by show IntKind.wrap .i64 (1 + IntKind.wrap .i64 (Int.tmod a3 3)) = _; rw [m2]; rfl
        have qC := sC htab (GC_hold hT0 hT1 hT2) eC2_0_0
        exact fin htab (GM_hold hU hO hT0 hT1 hT2) qU qB qC r13_2_0_0
      · have hT2 : XT2.den (vv a0 a1 a2 a3) = .ofNat 2 := by show IntKind.wrap .i64 (1 + IntKind.wrap .i64 (Int.tmod a3 3)) = _; rw [m2]; rfl
        have qC := sC htab (GC_hold hT0 hT1 hT2) eC2_0_1
        exact fin htab (GM_hold hU hO hT0 hT1 hT2) qU qB qC r13_2_0_1
      · have hT2 : XT2.den (vv a0 a1 a2 a3) = .ofNat 3 := by show IntKind.wrap .i64 (1 + IntKind.wrap .i64 (Int.tmod a3 3)) = _; rw [m2]; rfl
        have qC := sC htab (GC_hold hT0 hT1 hT2) eC2_0_2
        exact fin htab (GM_hold hU hO hT0 hT1 hT2) qU qB qC r13_2_0_2
    · have hT1 : XT1.den (vv a0 a1 a2 a3) = .ofNat 2 := by show IntKind.wrap .i64 (1 + IntKind.wrap .i64 (Int.tmod a2 3)) = _; rw [m1]; rfl
      have qB := sB htab (GB_hold hO hO1 hO2 hT0 hT1) eB13_2_1
      rcases k2 with m2 | m2 | m2
      · have hT2 : XT2.den (vv a0 a1 a2 a3) = .ofNat 1 := by show IntKind.wrap .i64 (1 + IntKind.wrap .i64 (Int.tmod a3 3)) = _; rw [m2]; rfl
        have qC := sC htab (GC_hold hT0 hT1 hT2) eC2_1_0
        exact fin htab (GM_hold hU hO hT0 hT1 hT2) qU qB qC r13_2_1_0
      · have hT2 : XT2.den (vv a0 a1 a2 a3) = .ofNat 2 := by show IntKind.wrap .i64 (1 + IntKind.wrap .i64 (Int.tmod a3 3)) = _; rw [m2]; rfl
        have qC := sC htab (GC_hold hT0 hT1 hT2) eC2_1_1
        exact fin htab (GM_hold hU hO hT0 hT1 hT2) qU qB qC r13_2_1_1
      · have hT2 : XT2.den (vv a0 a1 a2 a3) = .ofNat 3 := by show IntKind.wrap .i64 (1 + IntKind.wrap .i64 (Int.tmod a3 3)) = _; rw [m2]; rfl
        have qC := sC htab (GC_hold hT0 hT1 hT2) eC2_1_2
        exact fin htab (GM_hold hU hO hT0 hT1 hT2) qU qB qC r13_2_1_2
    · have hT1 : XT1.den (vv a0 a1 a2 a3) = .ofNat 3 := by show IntKind.wrap .i64 (1 + IntKind.wrap .i64 (Int.tmod a2 3)) = _; rw [m1]; rfl
      have qB := sB htab (GB_hold hO hO1 hO2 hT0 hT1) eB13_2_2
      rcases k2 with m2 | m2 | m2
      · have hT2 : XT2.den (vv a0 a1 a2 a3) = .ofNat 1 := by show IntKind.wrap .i64 (1 + IntKind.wrap .i64 (Int.tmod a3 3)) = _; rw [m2]; rfl
        have qC := sC htab (GC_hold hT0 hT1 hT2) eC2_2_0
        exact fin htab (GM_hold hU hO hT0 hT1 hT2) qU qB qC r13_2_2_0
      · have hT2 : XT2.den (vv a0 a1 a2 a3) = .ofNat 2 := by show IntKind.wrap .i64 (1 + IntKind.wrap .i64 (Int.tmod a3 3)) = _; rw [m2]; rfl
        have qC := sC htab (GC_hold hT0 hT1 hT2) eC2_2_1
        exact fin htab (GM_hold hU hO hT0 hT1 hT2) qU qB qC r13_2_2_1
      · have hT2 : XT2.den (vv a0 a1 a2 a3) = .ofNat 3 := by show IntKind.wrap .i64 (1 + IntKind.wrap .i64 (Int.tmod a3 3)) = _; rw [m2]; rfl
        have qC := sC htab (GC_hold hT0 hT1 hT2) eC2_2_2
        exact fin htab (GM_hold hU hO hT0 hT1 hT2) qU qB qC r13_2_2_2
theorem c14 (a0 a1 a2 a3 : Int) (b0 : (0 : Int) ≤ a0 ∧ a0 ≤ 255) (b1 : (0 : Int) ≤ a1 ∧ a1 ≤ 255) (b2 : (0 : Int) ≤ a2 ∧ a2 ≤ 255) (b3 : (0 : Int) ≤ a3 ∧ a3 ≤ 255) (ho : Int.tmod a0 20 = 14) (w : World) (htab : Lib.TabIs Tryz.prog w "internal/strconv.uint64pow10" .u64 Lib.pow10Tab) : Calls Tryz.prog 4 #[.int .u8 a0, .agg #[.int .u8 a1, .int .u8 a2, .int .u8 a3]] w fun e w' => e = .returned (.bool true) ∧ Kept w w' := by
  have hw : IntKind.wrap .i64 a0 = a0 := wrap_in .i64 a0 (show (-9223372036854775808 : Int) ≤ a0 ∧ a0 ≤ (9223372036854775807 : Int) by omega)
  have h5 : Int.tmod a0 5 = 4 := by
    rw [Int.tmod_eq_emod_of_nonneg b0.1] at ho ⊢
    omega
  have hU : XU.den (vv a0 a1 a2 a3) = .ofNat 5 := by show IntKind.wrap .i64 (1 + Int.tmod (IntKind.wrap .i64 a0) 5) = _; rw [hw, h5]; rfl
  have hU1 : XU1.den (vv a0 a1 a2 a3) = .ofNat 4 := by show IntKind.wrap .i64 (XU.den (vv a0 a1 a2 a3) - 1) = _; rw [hU]; rfl
  have hO : XO.den (vv a0 a1 a2 a3) = .ofNat 24 := by show IntKind.wrap .i64 (10 + Int.tmod (IntKind.wrap .i64 a0) 20) = _; rw [hw, ho]; rfl
  have hO1 : XO1.den (vv a0 a1 a2 a3) = .ofNat 14 := by show IntKind.wrap .i64 (XO.den (vv a0 a1 a2 a3) - 10) = _; rw [hO]; rfl
  have hO2 : XO2.den (vv a0 a1 a2 a3) = .ofNat 2 := by show IntKind.wrap .i64 (XO.den (vv a0 a1 a2 a3) - 22) = _; rw [hO]; rfl
  have k0 : Int.tmod a1 3 = 0 ∨ Int.tmod a1 3 = 1 ∨ Int.tmod a1 3 = 2 := by
    rw [Int.tmod_eq_emod_of_nonneg b1.1]
    omega
  have k1 : Int.tmod a2 3 = 0 ∨ Int.tmod a2 3 = 1 ∨ Int.tmod a2 3 = 2 := by
    rw [Int.tmod_eq_emod_of_nonneg b2.1]
    omega
  have k2 : Int.tmod a3 3 = 0 ∨ Int.tmod a3 3 = 1 ∨ Int.tmod a3 3 = 2 := by
    rw [Int.tmod_eq_emod_of_nonneg b3.1]
    omega
  rcases k0 with m0 | m0 | m0
  · have hT0 : XT0.den (vv a0 a1 a2 a3) = .ofNat 1 := by show IntKind.wrap .i64 (1 + IntKind.wrap .i64 (Int.tmod a1 3)) = _; rw [m0]; rfl
    have qU := sU htab (GU_hold hU hU1 hT0) eU4_0
    rcases k1 with m1 | m1 | m1
    · have hT1 : XT1.den (vv a0 a1 a2 a3) = .ofNat 1 := by show IntKind.wrap .i64 (1 + IntKind.wrap .i64 (Int.tmod a2 3)) = _; rw [m1]; rfl
      have qB := sB htab (GB_hold hO hO1 hO2 hT0 hT1) eB14_0_0
      rcases k2 with m2 | m2 | m2
      · have hT2 : XT2.den (vv a0 a1 a2 a3) = .ofNat 1 := by show IntKind.wrap .i64 (1 + IntKind.wrap .i64 (Int.tmod a3 3)) = _; rw [m2]; rfl
        have qC := sC htab (GC_hold hT0 hT1 hT2) eC0_0_0
        exact fin htab (GM_hold hU hO hT0 hT1 hT2) qU qB qC r14_0_0_0
      · have hT2 : XT2.den (vv a0 a1 a2 a3) = .ofNat 2 := by show IntKind.wrap .i64 (1 + IntKind.wrap .i64 (Int.tmod a3 3)) = _; rw [m2]; rfl
        have qC := sC htab (GC_hold hT0 hT1 hT2) eC0_0_1
        exact fin htab (GM_hold hU hO hT0 hT1 hT2) qU qB qC r14_0_0_1
      · have hT2 : XT2.den (vv a0 a1 a2 a3) = .ofNat 3 := by show IntKind.wrap .i64 (1 + IntKind.wrap .i64 (Int.tmod a3 3)) = _; rw [m2]; rfl
        have qC := sC htab (GC_hold hT0 hT1 hT2) eC0_0_2
        exact fin htab (GM_hold hU hO hT0 hT1 hT2) qU qB qC r14_0_0_2
    · have hT1 : XT1.den (vv a0 a1 a2 a3) = .ofNat 2 := by show IntKind.wrap .i64 (1 + IntKind.wrap .i64 (Int.tmod a2 3)) = _; rw [m1]; rfl
      have qB := sB htab (GB_hold hO hO1 hO2 hT0 hT1) eB14_0_1
      rcases k2 with m2 | m2 | m2
      · have hT2 : XT2.den (vv a0 a1 a2 a3) = .ofNat 1 := by show IntKind.wrap .i64 (1 + IntKind.wrap .i64 (Int.tmod a3 3)) = _; rw [m2]; rfl
        have qC := sC htab (GC_hold hT0 hT1 hT2) eC0_1_0
        exact fin htab (GM_hold hU hO hT0 hT1 hT2) qU qB qC r14_0_1_0
      · have hT2 : XT2.den (vv a0 a1 a2 a3) = .ofNat 2 := by show IntKind.wrap .i64 (1 + IntKind.wrap .i64 (Int.tmod a3 3)) = _; rw [m2]; rfl
        have qC := sC htab (GC_hold hT0 hT1 hT2) eC0_1_1
        exact fin htab (GM_hold hU hO hT0 hT1 hT2) qU qB qC r14_0_1_1
      · have hT2 : XT2.den (vv a0 a1 a2 a3) = .ofNat 3 := by show IntKind.wrap .i64 (1 + IntKind.wrap .i64 (Int.tmod a3 3)) = _; rw [m2]; rfl
        have qC := sC htab (GC_hold hT0 hT1 hT2) eC0_1_2
        exact fin htab (GM_hold hU hO hT0 hT1 hT2) qU qB qC r14_0_1_2
    · have hT1 : XT1.den (vv a0 a1 a2 a3) = .ofNat 3 := by show IntKind.wrap .i64 (1 + IntKind.wrap .i64 (Int.tmod a2 3)) = _; rw [m1]; rfl
      have qB := sB htab (GB_hold hO hO1 hO2 hT0 hT1) eB14_0_2
      rcases k2 with m2 | m2 | m2
      · have hT2 : XT2.den (vv a0 a1 a2 a3) = .ofNat 1 := by show IntKind.wrap .i64 (1 + IntKind.wrap .i64 (Int.tmod a3 3)) = _; rw [m2]; rfl
        have qC := sC htab (GC_hold hT0 hT1 hT2) eC0_2_0
        exact fin htab (GM_hold hU hO hT0 hT1 hT2) qU qB qC r14_0_2_0
      · have hT2 : XT2.den (vv a0 a1 a2 a3) = .ofNat 2 := by show IntKind.wrap .i64 (1 + IntKind.wrap .i64 (Int.tmod a3 3)) = _; rw [m2]; rfl
        have qC := sC htab (GC_hold hT0 hT1 hT2) eC0_2_1
        exact fin htab (GM_hold hU hO hT0 hT1 hT2) qU qB qC r14_0_2_1
      · have hT2 : XT2.den (vv a0 a1 a2 a3) = .ofNat 3 := by show IntKind.wrap .i64 (1 + IntKind.wrap .i64 (Int.tmod a3 3)) = _; rw [m2]; rfl
        have qC := sC htab (GC_hold hT0 hT1 hT2) eC0_2_2
        exact fin htab (GM_hold hU hO hT0 hT1 hT2) qU qB qC r14_0_2_2
  · have hT0 : XT0.den (vv a0 a1 a2 a3) = .ofNat 2 := by show IntKind.wrap .i64 (1 + IntKind.wrap .i64 (Int.tmod a1 3)) = _; rw [m0]; rfl
    have qU := sU htab (GU_hold hU hU1 hT0) eU4_1
    rcases k1 with m1 | m1 | m1
    · have hT1 : XT1.den (vv a0 a1 a2 a3) = .ofNat 1 := by show IntKind.wrap .i64 (1 + IntKind.wrap .i64 (Int.tmod a2 3)) = _; rw [m1]; rfl
      have qB := sB htab (GB_hold hO hO1 hO2 hT0 hT1) eB14_1_0
      rcases k2 with m2 | m2 | m2
      · have hT2 : XT2.den (vv a0 a1 a2 a3) = .ofNat 1 := by show IntKind.wrap .i64 (1 + IntKind.wrap .i64 (Int.tmod a3 3)) = _; rw [m2]; rfl
        have qC := sC htab (GC_hold hT0 hT1 hT2) eC1_0_0
        exact fin htab (GM_hold hU hO hT0 hT1 hT2) qU qB qC r14_1_0_0
      · have hT2 : XT2.den (vv a0 a1 a2 a3) = .ofNat 2 := by show IntKind.wrap .i64 (1 + IntKind.wrap .i64 (Int.tmod a3 3)) = _; rw [m2]; rfl
        have qC := sC htab (GC_hold hT0 hT1 hT2) eC1_0_1
        exact fin htab (GM_hold hU hO hT0 hT1 hT2) qU qB qC r14_1_0_1
      · have hT2 : XT2.den (vv a0 a1 a2 a3) = .ofNat 3 := by show IntKind.wrap .i64 (1 + IntKind.wrap .i64 (Int.tmod a3 3)) = _; rw [m2]; rfl
        have qC := sC htab (GC_hold hT0 hT1 hT2) eC1_0_2
        exact fin htab (GM_hold hU hO hT0 hT1 hT2) qU qB qC r14_1_0_2
    · have hT1 : XT1.den (vv a0 a1 a2 a3) = .ofNat 2 := by show IntKind.wrap .i64 (1 + IntKind.wrap .i64 (Int.tmod a2 3)) = _; rw [m1]; rfl
      have qB := sB htab (GB_hold hO hO1 hO2 hT0 hT1) eB14_1_1
      rcases k2 with m2 | m2 | m2
      · have hT2 : XT2.den (vv a0 a1 a2 a3) = .ofNat 1 := by show IntKind.wrap .i64 (1 + IntKind.wrap .i64 (Int.tmod a3 3)) = _; rw [m2]; rfl
        have qC := sC htab (GC_hold hT0 hT1 hT2) eC1_1_0
        exact fin htab (GM_hold hU hO hT0 hT1 hT2) qU qB qC r14_1_1_0
      · have hT2 : XT2.den (vv a0 a1 a2 a3) = .ofNat 2 := by show IntKind.wrap .i64 (1 + IntKind.wrap .i64 (Int.tmod a3 3)) = _; rw [m2]; rfl
        have qC := sC htab (GC_hold hT0 hT1 hT2) eC1_1_1
        exact fin htab (GM_hold hU hO hT0 hT1 hT2) qU qB qC r14_1_1_1
      · have hT2 : XT2.den (vv a0 a1 a2 a3) = .ofNat 3 := by show IntKind.wrap .i64 (1 + IntKind.wrap .i64 (Int.tmod a3 3)) = _; rw [m2]; rfl
        have qC := sC htab (GC_hold hT0 hT1 hT2) eC1_1_2
        exact fin htab (GM_hold hU hO hT0 hT1 hT2) qU qB qC r14_1_1_2
    · have hT1 : XT1.den (vv a0 a1 a2 a3) = .ofNat 3 := by show IntKind.wrap .i64 (1 + IntKind.wrap .i64 (Int.tmod a2 3)) = _; rw [m1]; rfl
      have qB := sB htab (GB_hold hO hO1 hO2 hT0 hT1) eB14_1_2
      rcases k2 with m2 | m2 | m2
      · have hT2 : XT2.den (vv a0 a1 a2 a3) = .ofNat 1 := by show IntKind.wrap .i64 (1 + IntKind.wrap .i64 (Int.tmod a3 3)) = _; rw [m2]; rfl
        have qC := sC htab (GC_hold hT0 hT1 hT2) eC1_2_0
        exact fin htab (GM_hold hU hO hT0 hT1 hT2) qU qB qC r14_1_2_0
      · have hT2 : XT2.den (vv a0 a1 a2 a3) = .ofNat 2 := by show IntKind.wrap .i64 (1 + IntKind.wrap .i64 (Int.tmod a3 3)) = _; rw [m2]; rfl
        have qC := sC htab (GC_hold hT0 hT1 hT2) eC1_2_1
        exact fin htab (GM_hold hU hO hT0 hT1 hT2) qU qB qC r14_1_2_1
      · have hT2 : XT2.den (vv a0 a1 a2 a3) = .ofNat 3 := by show IntKind.wrap .i64 (1 + IntKind.wrap .i64 (Int.tmod a3 3)) = _; rw [m2]; rfl
        have qC := sC htab (GC_hold hT0 hT1 hT2) eC1_2_2
        exact fin htab (GM_hold hU hO hT0 hT1 hT2) qU qB qC r14_1_2_2
  · have hT0 : XT0.den (vv a0 a1 a2 a3) = .ofNat 3 := by show IntKind.wrap .i64 (1 + IntKind.wrap .i64 (Int.tmod a1 3)) = _; rw [m0]; rfl
    have qU := sU htab (GU_hold hU hU1 hT0) eU4_2
    rcases k1 with m1 | m1 | m1
    · have hT1 : XT1.den (vv a0 a1 a2 a3) = .ofNat 1 := by show IntKind.wrap .i64 (1 + IntKind.wrap .i64 (Int.tmod a2 3)) = _; rw [m1]; rfl
      have qB := sB htab (GB_hold hO hO1 hO2 hT0 hT1) eB14_2_0
      rcases k2 with m2 | m2 | m2
      · have hT2 : XT2.den (vv a0 a1 a2 a3) = .ofNat 1 := by show IntKind.wrap .i64 (1 + IntKind.wrap .i64 (Int.tmod a3 3)) = _; rw [m2]; rfl
        have qC := sC htab (GC_hold hT0 hT1 hT2) eC2_0_0
        exact fin htab (GM_hold hU hO hT0 hT1 hT2) qU qB qC r14_2_0_0
      · have hT2 : XT2.den (vv a0 a1 a2 a3) = .ofNat 2 := by show IntKind.wrap .i64 (1 + IntKind.wrap .i64 (Int.tmod a3 3)) = _; rw [m2]; rfl
        have qC := sC htab (GC_hold hT0 hT1 hT2) eC2_0_1
        exact fin htab (GM_hold hU hO hT0 hT1 hT2) qU qB qC r14_2_0_1
      · have hT2 : XT2.den (vv a0 a1 a2 a3) = .ofNat 3 := by show IntKind.wrap .i64 (1 + IntKind.wrap .i64 (Int.tmod a3 3)) = _; rw [m2]; rfl
        have qC := sC htab (GC_hold hT0 hT1 hT2) eC2_0_2
        exact fin htab (GM_hold hU hO hT0 hT1 hT2) qU qB qC r14_2_0_2
    · have hT1 : XT1.den (vv a0 a1 a2 a3) = .ofNat 2 := by show IntKind.wrap .i64 (1 + IntKind.wrap .i64 (Int.tmod a2 3)) = _; rw [m1]; rfl
      have qB := sB htab (GB_hold hO hO1 hO2 hT0 hT1) eB14_2_1
      rcases k2 with m2 | m2 | m2
      · have hT2 : XT2.den (vv a0 a1 a2 a3) = .ofNat 1 := by show IntKind.wrap .i64 (1 + IntKind.wrap .i64 (Int.tmod a3 3)) = _; rw [m2]; rfl
        have qC := sC htab (GC_hold hT0 hT1 hT2) eC2_1_0
        exact fin htab (GM_hold hU hO hT0 hT1 hT2) qU qB qC r14_2_1_0
      · have hT2 : XT2.den (vv a0 a1 a2 a3) = .ofNat 2 := by show IntKind.wrap .i64 (1 + IntKind.wrap .i64 (Int.tmod a3 3)) = _; rw [m2]; rfl
        have qC := sC htab (GC_hold hT0 hT1 hT2) eC2_1_1
        exact fin htab (GM_hold hU hO hT0 hT1 hT2) qU qB qC r14_2_1_1
      · have hT2 : XT2.den (vv a0 a1 a2 a3) = .ofNat 3 := by show IntKind.wrap .i64 (1 + IntKind.wrap .i64 (Int.tmod a3 3)) = _; rw [m2]; rfl
        have qC := sC htab (GC_hold hT0 hT1 hT2) eC2_1_2
        exact fin htab (GM_hold hU hO hT0 hT1 hT2) qU qB qC r14_2_1_2
    · have hT1 : XT1.den (vv a0 a1 a2 a3) = .ofNat 3 := by show IntKind.wrap .i64 (1 + IntKind.wrap .i64 (Int.tmod a2 3)) = _; rw [m1]; rfl
      have qB := sB htab (GB_hold hO hO1 hO2 hT0 hT1) eB14_2_2
      rcases k2 with m2 | m2 | m2
      · have hT2 : XT2.den (vv a0 a1 a2 a3) = .ofNat 1 := by show IntKind.wrap .i64 (1 + IntKind.wrap .i64 (Int.tmod a3 3)) = _; rw [m2]; rfl
        have qC := sC htab (GC_hold hT0 hT1 hT2) eC2_2_0
        exact fin htab (GM_hold hU hO hT0 hT1 hT2) qU qB qC r14_2_2_0
      · have hT2 : XT2.den (vv a0 a1 a2 a3) = .ofNat 2 := by show IntKind.wrap .i64 (1 + IntKind.wrap .i64 (Int.tmod a3 3)) = _; rw [m2]; rfl
        have qC := sC htab (GC_hold hT0 hT1 hT2) eC2_2_1
        exact fin htab (GM_hold hU hO hT0 hT1 hT2) qU qB qC r14_2_2_1
      · have hT2 : XT2.den (vv a0 a1 a2 a3) = .ofNat 3 := by show IntKind.wrap .i64 (1 + IntKind.wrap .i64 (Int.tmod a3 3)) = _; rw [m2]; rfl
        have qC := sC htab (GC_hold hT0 hT1 hT2) eC2_2_2
        exact fin htab (GM_hold hU hO hT0 hT1 hT2) qU qB qC r14_2_2_2
theorem c15 (a0 a1 a2 a3 : Int) (b0 : (0 : Int) ≤ a0 ∧ a0 ≤ 255) (b1 : (0 : Int) ≤ a1 ∧ a1 ≤ 255) (b2 : (0 : Int) ≤ a2 ∧ a2 ≤ 255) (b3 : (0 : Int) ≤ a3 ∧ a3 ≤ 255) (ho : Int.tmod a0 20 = 15) (w : World) (htab : Lib.TabIs Tryz.prog w "internal/strconv.uint64pow10" .u64 Lib.pow10Tab) : Calls Tryz.prog 4 #[.int .u8 a0, .agg #[.int .u8 a1, .int .u8 a2, .int .u8 a3]] w fun e w' => e = .returned (.bool true) ∧ Kept w w' := by
  have hw : IntKind.wrap .i64 a0 = a0 := wrap_in .i64 a0 (show (-9223372036854775808 : Int) ≤ a0 ∧ a0 ≤ (9223372036854775807 : Int) by omega)
  have h5 : Int.tmod a0 5 = 0 := by
    rw [Int.tmod_eq_emod_of_nonneg b0.1] at ho ⊢
    omega
  have hU : XU.den (vv a0 a1 a2 a3) = .ofNat 1 := by show IntKind.wrap .i64 (1 + Int.tmod (IntKind.wrap .i64 a0) 5) = _; rw [hw, h5]; rfl
  have hU1 : XU1.den (vv a0 a1 a2 a3) = .ofNat 0 := by show IntKind.wrap .i64 (XU.den (vv a0 a1 a2 a3) - 1) = _; rw [hU]; rfl
  have hO : XO.den (vv a0 a1 a2 a3) = .ofNat 25 := by show IntKind.wrap .i64 (10 + Int.tmod (IntKind.wrap .i64 a0) 20) = _; rw [hw, ho]; rfl
  have hO1 : XO1.den (vv a0 a1 a2 a3) = .ofNat 15 := by show IntKind.wrap .i64 (XO.den (vv a0 a1 a2 a3) - 10) = _; rw [hO]; rfl
  have hO2 : XO2.den (vv a0 a1 a2 a3) = .ofNat 3 := by show IntKind.wrap .i64 (XO.den (vv a0 a1 a2 a3) - 22) = _; rw [hO]; rfl
  have k0 : Int.tmod a1 3 = 0 ∨ Int.tmod a1 3 = 1 ∨ Int.tmod a1 3 = 2 := by
    rw [Int.tmod_eq_emod_of_nonneg b1.1]
    omega
  have k1 : Int.tmod a2 3 = 0 ∨ Int.tmod a2 3 = 1 ∨ Int.tmod a2 3 = 2 := by
    rw [Int.tmod_eq_emod_of_nonneg b2.1]
    omega
  have k2 : Int.tmod a3 3 = 0 ∨ Int.tmod a3 3 = 1 ∨ Int.tmod a3 3 = 2 := by
    rw [Int.tmod_eq_emod_of_nonneg b3.1]
    omega
  rcases k0 with m0 | m0 | m0
  · have hT0 : XT0.den (vv a0 a1 a2 a3) = .ofNat 1 := by show IntKind.wrap .i64 (1 + IntKind.wrap .i64 (Int.tmod a1 3)) = _; rw [m0]; rfl
    have qU := sU htab (GU_hold hU hU1 hT0) eU0_0
    rcases k1 with m1 | m1 | m1
    · have hT1 : XT1.den (vv a0 a1 a2 a3) = .ofNat 1 := by show IntKind.wrap .i64 (1 + IntKind.wrap .i64 (Int.tmod a2 3)) = _; rw [m1]; rfl
      have qB := sB htab (GB_hold hO hO1 hO2 hT0 hT1) eB15_0_0
      rcases k2 with m2 | m2 | m2
      · have hT2 : XT2.den (vv a0 a1 a2 a3) = .ofNat 1 := by show IntKind.wrap .i64 (1 + IntKind.wrap .i64 (Int.tmod a3 3)) = _; rw [m2]; rfl
        have qC := sC htab (GC_hold hT0 hT1 hT2) eC0_0_0
        exact fin htab (GM_hold hU hO hT0 hT1 hT2) qU qB qC r15_0_0_0
      · have hT2 : XT2.den (vv a0 a1 a2 a3) = .ofNat 2 := by show IntKind.wrap .i64 (1 + IntKind.wrap .i64 (Int.tmod a3 3)) = _; rw [m2]; rfl
        have qC := sC htab (GC_hold hT0 hT1 hT2) eC0_0_1
        exact fin htab (GM_hold hU hO hT0 hT1 hT2) qU qB qC r15_0_0_1
      · have hT2 : XT2.den (vv a0 a1 a2 a3) = .ofNat 3 := by show IntKind.wrap .i64 (1 + IntKind.wrap .i64 (Int.tmod a3 3)) = _; rw [m2]; rfl
        have qC := sC htab (GC_hold hT0 hT1 hT2) eC0_0_2
        exact fin htab (GM_hold hU hO hT0 hT1 hT2) qU qB qC r15_0_0_2
    · have hT1 : XT1.den (vv a0 a1 a2 a3) = .ofNat 2 := by show IntKind.wrap .i64 (1 + IntKind.wrap .i64 (Int.tmod a2 3)) = _; rw [m1]; rfl
      have qB := sB htab (GB_hold hO hO1 hO2 hT0 hT1) eB15_0_1
      rcases k2 with m2 | m2 | m2
      · have hT2 : XT2.den (vv a0 a1 a2 a3) = .ofNat 1 := by show IntKind.wrap .i64 (1 + IntKind.wrap .i64 (Int.tmod a3 3)) = _; rw [m2]; rfl
        have qC := sC htab (GC_hold hT0 hT1 hT2) eC0_1_0
        exact fin htab (GM_hold hU hO hT0 hT1 hT2) qU qB qC r15_0_1_0
      · have hT2 : XT2.den (vv a0 a1 a2 a3) = .ofNat 2 := by show IntKind.wrap .i64 (1 + IntKind.wrap .i64 (Int.tmod a3 3)) = _; rw [m2]; rfl
        have qC := sC htab (GC_hold hT0 hT1 hT2) eC0_1_1
        exact fin htab (GM_hold hU hO hT0 hT1 hT2) qU qB qC r15_0_1_1
      · have hT2 : XT2.den (vv a0 a1 a2 a3) = .ofNat 3 := by show IntKind.wrap .i64 (1 + IntKind.wrap .i64 (Int.tmod a3 3)) = _; rw [m2]; rfl
        have qC := sC htab (GC_hold hT0 hT1 hT2) eC0_1_2
        exact fin htab (GM_hold hU hO hT0 hT1 hT2) qU qB qC r15_0_1_2
    · have hT1 : XT1.den (vv a0 a1 a2 a3) = .ofNat 3 := by show IntKind.wrap .i64 (1 + IntKind.wrap .i64 (Int.tmod a2 3)) = _; rw [m1]; rfl
      have qB := sB htab (GB_hold hO hO1 hO2 hT0 hT1) eB15_0_2
      rcases k2 with m2 | m2 | m2
      · have hT2 : XT2.den (vv a0 a1 a2 a3) = .ofNat 1 := by show IntKind.wrap .i64 (1 + IntKind.wrap .i64 (Int.tmod a3 3)) = _; rw [m2]; rfl
        have qC := sC htab (GC_hold hT0 hT1 hT2) eC0_2_0
        exact fin htab (GM_hold hU hO hT0 hT1 hT2) qU qB qC r15_0_2_0
      · have hT2 : XT2.den (vv a0 a1 a2 a3) = .ofNat 2 := by show IntKind.wrap .i64 (1 + IntKind.wrap .i64 (Int.tmod a3 3)) = _; rw [m2]; rfl
        have qC := sC htab (GC_hold hT0 hT1 hT2) eC0_2_1
        exact fin htab (GM_hold hU hO hT0 hT1 hT2) qU qB qC r15_0_2_1
      · have hT2 : XT2.den (vv a0 a1 a2 a3) = .ofNat 3 := by show IntKind.wrap .i64 (1 + IntKind.wrap .i64 (Int.tmod a3 3)) = _; rw [m2]; rfl
        have qC := sC htab (GC_hold hT0 hT1 hT2) eC0_2_2
        exact fin htab (GM_hold hU hO hT0 hT1 hT2) qU qB qC r15_0_2_2
  · have hT0 : XT0.den (vv a0 a1 a2 a3) = .ofNat 2 := by show IntKind.wrap .i64 (1 + IntKind.wrap .i64 (Int.tmod a1 3)) = _; rw [m0]; rfl
    have qU := sU htab (GU_hold hU hU1 hT0) eU0_1
    rcases k1 with m1 | m1 | m1
    · have hT1 : XT1.den (vv a0 a1 a2 a3) = .ofNat 1 := by show IntKind.wrap .i64 (1 + IntKind.wrap .i64 (Int.tmod a2 3)) = _; rw [m1]; rfl
      have qB := sB htab (GB_hold hO hO1 hO2 hT0 hT1) eB15_1_0
      rcases k2 with m2 | m2 | m2
      · have hT2 : XT2.den (vv a0 a1 a2 a3) = .ofNat 1 := by show IntKind.wrap .i64 (1 + IntKind.wrap .i64 (Int.tmod a3 3)) = _; rw [m2]; rfl
        have qC := sC htab (GC_hold hT0 hT1 hT2) eC1_0_0
        exact fin htab (GM_hold hU hO hT0 hT1 hT2) qU qB qC r15_1_0_0
      · have hT2 : XT2.den (vv a0 a1 a2 a3) = .ofNat 2 := by show IntKind.wrap .i64 (1 + IntKind.wrap .i64 (Int.tmod a3 3)) = _; rw [m2]; rfl
        have qC := sC htab (GC_hold hT0 hT1 hT2) eC1_0_1
        exact fin htab (GM_hold hU hO hT0 hT1 hT2) qU qB qC r15_1_0_1
      · have hT2 : XT2.den (vv a0 a1 a2 a3) = .ofNat 3 := by show IntKind.wrap .i64 (1 + IntKind.wrap .i64 (Int.tmod a3 3)) = _; rw [m2]; rfl
        have qC := sC htab (GC_hold hT0 hT1 hT2) eC1_0_2
        exact fin htab (GM_hold hU hO hT0 hT1 hT2) qU qB qC r15_1_0_2
    · have hT1 : XT1.den (vv a0 a1 a2 a3) = .ofNat 2 := by show IntKind.wrap .i64 (1 + IntKind.wrap .i64 (Int.tmod a2 3)) = _; rw [m1]; rfl
      have qB := sB htab (GB_hold hO hO1 hO2 hT0 hT1) eB15_1_1
      rcases k2 with m2 | m2 | m2
      · have hT2 : XT2.den (vv a0 a1 a2 a3) = .ofNat 1 := by show IntKind.wrap .i64 (1 + IntKind.wrap .i64 (Int.tmod a3 3)) = _; rw [m2]; rfl
        have qC := sC htab (GC_hold hT0 hT1 hT2) eC1_1_0
        exact fin htab (GM_hold hU hO hT0 hT1 hT2) qU qB qC r15_1_1_0
      · have hT2 : XT2.den (vv a0 a1 a2 a3) = .ofNat 2 := by show IntKind.wrap .i64 (1 + IntKind.wrap .i64 (Int.tmod a3 3)) = _; rw [m2]; rfl
        have qC := sC htab (GC_hold hT0 hT1 hT2) eC1_1_1
        exact fin htab (GM_hold hU hO hT0 hT1 hT2) qU qB qC r15_1_1_1
      · have hT2 : XT2.den (vv a0 a1 a2 a3) = .ofNat 3 := by show IntKind.wrap .i64 (1 + IntKind.wrap .i64 (Int.tmod a3 3)) = _; rw [m2]; rfl
        have qC := sC htab (GC_hold hT0 hT1 hT2) eC1_1_2
        exact fin htab (GM_hold hU hO hT0 hT1 hT2) qU qB qC r15_1_1_2
    · have hT1 : XT1.den (vv a0 a1 a2 a3) = .ofNat 3 := by show IntKind.wrap .i64 (1 + IntKind.wrap .i64 (Int.tmod a2 3)) = _; rw [m1]; rfl
      have qB := sB htab (GB_hold hO hO1 hO2 hT0 hT1) eB15_1_2
      rcases k2 with m2 | m2 | m2
      · have hT2 : XT2.den (vv a0 a1 a2 a3) = .ofNat 1 := by show IntKind.wrap .i64 (1 + IntKind.wrap .i64 (Int.tmod a3 3)) = _; rw [m2]; rfl
        have qC := sC htab (GC_hold hT0 hT1 hT2) eC1_2_0
        exact fin htab (GM_hold hU hO hT0 hT1 hT2) qU qB qC r15_1_2_0
      · have hT2 : XT2.den (vv a0 a1 a2 a3) = .ofNat 2 := by show IntKind.wrap .i64 (1 + IntKind.wrap .i64 (Int.tmod a3 3)) = _; rw [m2]; rfl
        have qC := sC htab (GC_hold hT0 hT1 hT2) eC1_2_1
        exact fin htab (GM_hold hU hO hT0 hT1 hT2) qU qB qC r15_1_2_1
      · have hT2 : XT2.den (vv a0 a1 a2 a3) = .ofNat 3 := by show IntKind.wrap .i64 (1 + IntKind.wrap .i64 (Int.tmod a3 3)) = _; rw [m2]; rfl
        have qC := sC htab (GC_hold hT0 hT1 hT2) eC1_2_2
        exact fin htab (GM_hold hU hO hT0 hT1 hT2) qU qB qC r15_1_2_2
  · have hT0 : XT0.den (vv a0 a1 a2 a3) = .ofNat 3 := by show IntKind.wrap .i64 (1 + IntKind.wrap .i64 (Int.tmod a1 3)) = _; rw [m0]; rfl
    have qU := sU htab (GU_hold hU hU1 hT0) eU0_2
    rcases k1 with m1 | m1 | m1
    · have hT1 : XT1.den (vv a0 a1 a2 a3) = .ofNat 1 := by show IntKind.wrap .i64 (1 + IntKind.wrap .i64 (Int.tmod a2 3)) = _; rw [m1]; rfl
      have qB := sB htab (GB_hold hO hO1 hO2 hT0 hT1) eB15_2_0
      rcases k2 with m2 | m2 | m2
      · have hT2 : XT2.den (vv a0 a1 a2 a3) = .ofNat 1 := by show IntKind.wrap .i64 (1 + IntKind.wrap .i64 (Int.tmod a3 3)) = _; rw [m2]; rfl
        have qC := sC htab (GC_hold hT0 hT1 hT2) eC2_0_0
        exact fin htab (GM_hold hU hO hT0 hT1 hT2) qU qB qC r15_2_0_0
      · have hT2 : XT2.den (vv a0 a1 a2 a3) = .ofNat 2 := by show IntKind.wrap .i64 (1 + IntKind.wrap .i64 (Int.tmod a3 3)) = _; rw [m2]; rfl
        have qC := sC htab (GC_hold hT0 hT1 hT2) eC2_0_1
        exact fin htab (GM_hold hU hO hT0 hT1 hT2) qU qB qC r15_2_0_1
      · have hT2 : XT2.den (vv a0 a1 a2 a3) = .ofNat 3 := by show IntKind.wrap .i64 (1 + IntKind.wrap .i64 (Int.tmod a3 3)) = _; rw [m2]; rfl
        have qC := sC htab (GC_hold hT0 hT1 hT2) eC2_0_2
        exact fin htab (GM_hold hU hO hT0 hT1 hT2) qU qB qC r15_2_0_2
    · have hT1 : XT1.den (vv a0 a1 a2 a3) = .ofNat 2 := by show IntKind.wrap .i64 (1 + IntKind.wrap .i64 (Int.tmod a2 3)) = _; rw [m1]; rfl
      have qB := sB htab (GB_hold hO hO1 hO2 hT0 hT1) eB15_2_1
      rcases k2 with m2 | m2 | m2
      · have hT2 : XT2.den (vv a0 a1 a2 a3) = .ofNat 1 := by show IntKind.wrap .i64 (1 + IntKind.wrap .i64 (Int.tmod a3 3)) = _; rw [m2]; rfl
        have qC := sC htab (GC_hold hT0 hT1 hT2) eC2_1_0
        exact fin htab (GM_hold hU hO hT0 hT1 hT2) qU qB qC r15_2_1_0
      · have hT2 : XT2.den (vv a0 a1 a2 a3) = .ofNat 2 := by show IntKind.wrap .i64 (1 + IntKind.wrap .i64 (Int.tmod a3 3)) = _; rw [m2]; rfl
        have qC := sC htab (GC_hold hT0 hT1 hT2) eC2_1_1
        exact fin htab (GM_hold hU hO hT0 hT1 hT2) qU qB qC r15_2_1_1
      · have hT2 : XT2.den (vv a0 a1 a2 a3) = .ofNat 3 := by show IntKind.wrap .i64 (1 + IntKind.wrap .i64 (Int.tmod a3 3)) = _; rw [m2]; rfl
        have qC := sC htab (GC_hold hT0 hT1 hT2) eC2_1_2
        exact fin htab (GM_hold hU hO hT0 hT1 hT2) qU qB qC r15_2_1_2
    · have hT1 : XT1.den (vv a0 a1 a2 a3) = .ofNat 3 := by show IntKind.wrap .i64 (1 + IntKind.wrap .i64 (Int.tmod a2 3)) = _; rw [m1]; rfl
      have qB := sB htab (GB_hold hO hO1 hO2 hT0 hT1) eB15_2_2
      rcases k2 with m2 | m2 | m2
      · have hT2 : XT2.den (vv a0 a1 a2 a3) = .ofNat 1 := by show IntKind.wrap .i64 (1 + IntKind.wrap .i64 (Int.tmod a3 3)) = _; rw [m2]; rfl
        have qC := sC htab (GC_hold hT0 hT1 hT2) eC2_2_0
        exact fin htab (GM_hold hU hO hT0 hT1 hT2) qU qB qC r15_2_2_0
      · have hT2 : XT2.den (vv a0 a1 a2 a3) = .ofNat 2 := by show IntKind.wrap .i64 (1 + IntKind.wrap .i64 (Int.tmod a3 3)) = _; rw [m2]; rfl
        have qC := sC htab (GC_hold hT0 hT1 hT2) eC2_2_1
        exact fin htab (GM_hold hU hO hT0 hT1 hT2) qU qB qC r15_2_2_1
      · have hT2 : XT2.den (vv a0 a1 a2 a3) = .ofNat 3 := by show IntKind.wrap .i64 (1 + IntKind.wrap .i64 (Int.tmod a3 3)) = _; rw [m2]; rfl
        have qC := sC htab (GC_hold hT0 hT1 hT2) eC2_2_2
        exact fin htab (GM_hold hU hO hT0 hT1 hT2) qU qB qC r15_2_2_2
theorem c16 (a0 a1 a2 a3 : Int) (b0 : (0 : Int) ≤ a0 ∧ a0 ≤ 255) (b1 : (0 : Int) ≤ a1 ∧ a1 ≤ 255) (b2 : (0 : Int) ≤ a2 ∧ a2 ≤ 255) (b3 : (0 : Int) ≤ a3 ∧ a3 ≤ 255) (ho : Int.tmod a0 20 = 16) (w : World) (htab : Lib.TabIs Tryz.prog w "internal/strconv.uint64pow10" .u64 Lib.pow10Tab) : Calls Tryz.prog 4 #[.int .u8 a0, .agg #[.int .u8 a1, .int .u8 a2, .int .u8 a3]] w fun e w' => e = .returned (.bool true) ∧ Kept w w' := by
  have hw : IntKind.wrap .i64 a0 = a0 := wrap_in .i64 a0 (show (-9223372036854775808 : Int) ≤ a0 ∧ a0 ≤ (9223372036854775807 : Int) by omega)
  have h5 : Int.tmod a0 5 = 1 := by
    rw [Int.tmod_eq_emod_of_nonneg b0.1] at ho ⊢
    omega
  have hU : XU.den (vv a0 a1 a2 a3) = .ofNat 2 := by show IntKind.wrap .i64 (1 + Int.tmod (IntKind.wrap .i64 a0) 5) = _; rw [hw, h5]; rfl
  have hU1 : XU1.den (vv a0 a1 a2 a3) = .ofNat 1 := by show IntKind.wrap .i64 (XU.den (vv a0 a1 a2 a3) - 1) = _; rw [hU]; rfl
  have hO : XO.den (vv a0 a1 a2 a3) = .ofNat 26 := by show IntKind.wrap .i64 (10 + Int.tmod (IntKind.wrap .i64 a0) 20) = _; rw [hw, ho]; rfl
  have hO1 : XO1.den (vv a0 a1 a2 a3) = .ofNat 16 := by show IntKind.wrap .i64 (XO.den (vv a0 a1 a2 a3) - 10) = _; rw [hO]; rfl
  have hO2 : XO2.den (vv a0 a1 a2 a3) = .ofNat 4 := by show IntKind.wrap .i64 (XO.den (vv a0 a1 a2 a3) - 22) = _; rw [hO]; rfl
  have k0 : Int.tmod a1 3 = 0 ∨ Int.tmod a1 3 = 1 ∨ Int.tmod a1 3 = 2 := by
    rw [Int.tmod_eq_emod_of_nonneg b1.1]
    omega
  have k1 : Int.tmod a2 3 = 0 ∨ Int.tmod a2 3 = 1 ∨ Int.tmod a2 3 = 2 := by
    rw [Int.tmod_eq_emod_of_nonneg b2.1]
    omega
  have k2 : Int.tmod a3 3 = 0 ∨ Int.tmod a3 3 = 1 ∨ Int.tmod a3 3 = 2 := by
    rw [Int.tmod_eq_emod_of_nonneg b3.1]
    omega
  rcases k0 with m0 | m0 | m0
  · have hT0 : XT0.den (vv a0 a1 a2 a3) = .ofNat 1 := by show IntKind.wrap .i64 (1 + IntKind.wrap .i64 (Int.tmod a1 3)) = _; rw [m0]; rfl
    have qU := sU htab (GU_hold hU hU1 hT0) eU1_0
    rcases k1 with m1 | m1 | m1
    · have hT1 : XT1.den (vv a0 a1 a2 a3) = .ofNat 1 := by show IntKind.wrap .i64 (1 + IntKind.wrap .i64 (Int.tmod a2 3)) = _; rw [m1]; rfl
      have qB := sB htab (GB_hold hO hO1 hO2 hT0 hT1) eB16_0_0
      rcases k2 with m2 | m2 | m2
      · have hT2 : XT2.den (vv a0 a1 a2 a3) = .ofNat 1 := by show IntKind.wrap .i64 (1 + IntKind.wrap .i64 (Int.tmod a3 3)) = _; rw [m2]; rfl
        have qC := sC htab (GC_hold hT0 hT1 hT2) eC0_0_0
        exact fin htab (GM_hold hU hO hT0 hT1 hT2) qU qB qC r16_0_0_0
      · have hT2 : XT2.den (vv a0 a1 a2 a3) = .ofNat 2 := by show IntKind.wrap .i64 (1 + IntKind.wrap .i64 (Int.tmod a3 3)) = _; rw [m2]; rfl
        have qC := sC htab (GC_hold hT0 hT1 hT2) eC0_0_1
        exact fin htab (GM_hold hU hO hT0 hT1 hT2) qU qB qC r16_0_0_1
      · have hT2 : XT2.den (vv a0 a1 a2 a3) = .ofNat 3 := by show IntKind.wrap .i64 (1 + IntKind.wrap .i64 (Int.tmod a3 3)) = _; rw [m2]; rfl
        have qC := sC htab (GC_hold hT0 hT1 hT2) eC0_0_2
        exact fin htab (GM_hold hU hO hT0 hT1 hT2) qU qB qC r16_0_0_2
    · have hT1 : XT1.den (vv a0 a1 a2 a3) = .ofNat 2 := by show IntKind.wrap .i64 (1 + IntKind.wrap .i64 (Int.tmod a2 3)) = _; rw [m1]; rfl
      have qB := sB htab (GB_hold hO hO1 hO2 hT0 hT1) eB16_0_1
      rcases k2 with m2 | m2 | m2
      · have hT2 : XT2.den (vv a0 a1 a2 a3) = .ofNat 1 := by show IntKind.wrap .i64 (1 + IntKind.wrap .i64 (Int.tmod a3 3)) = _; rw [m2]; rfl
        have qC := sC htab (GC_hold hT0 hT1 hT2) eC0_1_0
        exact fin htab (GM_hold hU hO hT0 hT1 hT2) qU qB qC r16_0_1_0
      · have hT2 : XT2.den (vv a0 a1 a2 a3) = .ofNat 2 := by show IntKind.wrap .i64 (1 + IntKind.wrap .i64 (Int.tmod a3 3)) = _; rw [m2]; rfl
        have qC := sC htab (GC_hold hT0 hT1 hT2) eC0_1_1
        exact fin htab (GM_hold hU hO hT0 hT1 hT2) qU qB qC r16_0_1_1
      · have hT2 : XT2.den (vv a0 a1 a2 a3) = .ofNat 3 := by show IntKind.wrap .i64 (1 + IntKind.wrap .i64 (Int.tmod a3 3)) = _; rw [m2]; rfl
        have qC := sC htab (GC_hold hT0 hT1 hT2) eC0_1_2
        exact fin htab (GM_hold hU hO hT0 hT1 hT2) qU qB qC r16_0_1_2
    · have hT1 : XT1.den (vv a0 a1 a2 a3) = .ofNat 3 := by show IntKind.wrap .i64 (1 + IntKind.wrap .i64 (Int.tmod a2 3)) = _; rw [m1]; rfl
      have qB := sB htab (GB_hold hO hO1 hO2 hT0 hT1) eB16_0_2
      rcases k2 with m2 | m2 | m2
      · have hT2 : XT2.den (vv a0 a1 a2 a3) = .ofNat 1 := by show IntKind.wrap .i64 (1 + IntKind.wrap .i64 (Int.tmod a3 3)) = _; rw [m2]; rfl
        have qC := sC htab (GC_hold hT0 hT1 hT2) eC0_2_0
        exact fin htab (GM_hold hU hO hT0 hT1 hT2) qU qB qC r16_0_2_0
      · have hT2 : XT2.den (vv a0 a1 a2 a3) = .ofNat 2 := by show IntKind.wrap .i64 (1 + IntKind.wrap .i64 (Int.tmod a3 3)) = _; rw [m2]; rfl
        have qC := sC htab (GC_hold hT0 hT1 hT2) eC0_2_1
        exact fin htab (GM_hold hU hO hT0 hT1 hT2) qU qB qC r16_0_2_1
      · have hT2 : XT2.den (vv a0 a1 a2 a3) = .ofNat 3 := by show IntKind.wrap .i64 (1 + IntKind.wrap .i64 (Int.tmod a3 3)) = _; rw [m2]; rfl
        have qC := sC htab (GC_hold hT0 hT1 hT2) eC0_2_2
        exact fin htab (GM_hold hU hO hT0 hT1 hT2) qU qB qC r16_0_2_2
  · have hT0 : XT0.den (vv a0 a1 a2 a3) = .ofNat 2 := by show IntKind.wrap .i64 (1 + IntKind.wrap .i64 (Int.tmod a1 3)) = _; rw [m0]; rfl
    have qU := sU htab (GU_hold hU hU1 hT0) eU1_1
    rcases k1 with m1 | m1 | m1
    · have hT1 : XT1.den (vv a0 a1 a2 a3) = .ofNat 1 := by show IntKind.wrap .i64 (1 + IntKind.wrap .i64 (Int.tmod a2 3)) = _; rw [m1]; rfl
      have qB := sB htab (GB_hold hO hO1 hO2 hT0 hT1) eB16_1_0
      rcases k2 with m2 | m2 | m2
      · have hT2 : XT2.den (vv a0 a1 a2 a3) = .ofNat 1 := by show IntKind.wrap .i64 (1 + IntKind.wrap .i64 (Int.tmod a3 3)) = _; rw [m2]; rfl
        have qC := sC htab (GC_hold hT0 hT1 hT2) eC1_0_0
        exact fin htab (GM_hold hU hO hT0 hT1 hT2) qU qB qC r16_1_0_0
      · have hT2 : XT2.den (vv a0 a1 a2 a3) = .ofNat 2 := by show IntKind.wrap .i64 (1 + IntKind.wrap .i64 (Int.tmod a3 3)) = _; rw [m2]; rfl
        have qC := sC htab (GC_hold hT0 hT1 hT2) eC1_0_1
        exact fin htab (GM_hold hU hO hT0 hT1 hT2) qU qB qC r16_1_0_1
      · have hT2 : XT2.den (vv a0 a1 a2 a3) = .ofNat 3 := by show IntKind.wrap .i64 (1 + IntKind.wrap .i64 (Int.tmod a3 3)) = _; rw [m2]; rfl
        have qC := sC htab (GC_hold hT0 hT1 hT2) eC1_0_2
        exact fin htab (GM_hold hU hO hT0 hT1 hT2) qU qB qC r16_1_0_2
    · have hT1 : XT1.den (vv a0 a1 a2 a3) = .ofNat 2 := by show IntKind.wrap .i64 (1 + IntKind.wrap .i64 (Int.tmod a2 3)) = _; rw [m1]; rfl
      have qB := sB htab (GB_hold hO hO1 hO2 hT0 hT1) eB16_1_1
      rcases k2 with m2 | m2 | m2
      · have hT2 : XT2.den (vv a0 a1 a2 a3) = .ofNat 1 := by show IntKind.wrap .i64 (1 + IntKind.wrap .i64 (Int.tmod a3 3)) = _; rw [m2]; rfl
        have qC := sC htab (GC_hold hT0 hT1 hT2) eC1_1_0
        exact fin htab (GM_hold hU hO hT0 hT1 hT2) qU qB qC r16_1_1_0
      · have hT2 : XT2.den (vv a0 a1 a2 a3) = .ofNat 2 := by show IntKind.wrap .i64 (1 + IntKind.wrap .i64 (Int.tmod a3 3)) = _; rw [m2]; rfl
        have qC := sC htab (GC_hold hT0 hT1 hT2) eC1_1_1
        exact fin htab (GM_hold hU hO hT0 hT1 hT2) qU qB qC r16_1_1_1
      · have hT2 : XT2.den (vv a0 a1 a2 a3) = .ofNat 3 := by show IntKind.wrap .i64 (1 + IntKind.wrap .i64 (Int.tmod a3 3)) = _; rw [m2]; rfl
        have qC := sC htab (GC_hold hT0 hT1 hT2) eC1_1_2
        exact fin htab (GM_hold hU hO hT0 hT1 hT2) qU qB qC r16_1_1_2
    · have hT1 : XT1.den (vv a0 a1 a2 a3) = .ofNat 3 := by show IntKind.wrap .i64 (1 + IntKind.wrap .i64 (Int.tmod a2 3)) = _; rw [m1]; rfl
      have qB := sB htab (GB_hold hO hO1 hO2 hT0 hT1) eB16_1_2
      rcases k2 with m2 | m2 | m2
      · have hT2 : XT2.den (vv a0 a1 a2 a3) = .ofNat 1 := by show IntKind.wrap .i64 (1 + IntKind.wrap .i64 (Int.tmod a3 3)) = _; rw [m2]; rfl
        have qC := sC htab (GC_hold hT0 hT1 hT2) eC1_2_0
        exact fin htab (GM_hold hU hO hT0 hT1 hT2) qU qB qC r16_1_2_0
      · have hT2 : XT2.den (vv a0 a1 a2 a3) = .ofNat 2 := by show IntKind.wrap .i64 (1 + IntKind.wrap .i64 (Int.tmod a3 3)) = _; rw [m2]; rfl
        have qC := sC htab (GC_hold hT0 hT1 hT2) eC1_2_1
        exact fin htab (GM_hold hU hO hT0 hT1 hT2) qU qB qC r16_1_2_1
      · have hT2 : XT2.den (vv a0 a1 a2 a3) = .ofNat 3 := by show IntKind.wrap .i64 (1 + IntKind.wrap .i64 (Int.tmod a3 3)) = _; rw [m2]; rfl
        have qC := sC htab (GC_hold hT0 hT1 hT2) eC1_2_2
        exact fin htab (GM_hold hU hO hT0 hT1 hT2) qU qB qC r16_1_2_2
  · have hT0 : XT0.den (vv a0 a1 a2 a3) = .ofNat 3 := by show IntKind.wrap .i64 (1 + IntKind.wrap .i64 (Int.tmod a1 3)) = _; rw [m0]; rfl
    have qU := sU htab (GU_hold hU hU1 hT0) eU1_2
    rcases k1 with m1 | m1 | m1
    · have hT1 : XT1.den (vv a0 a1 a2 a3) = .ofNat 1 := by show IntKind.wrap .i64 (1 + IntKind.wrap .i64 (Int.tmod a2 3)) = _; rw [m1]; rfl
      have qB := sB htab (GB_hold hO hO1 hO2 hT0 hT1) eB16_2_0
      rcases k2 with m2 | m2 | m2
      · have hT2 : XT2.den (vv a0 a1 a2 a3) = .ofNat 1 := by show IntKind.wrap .i64 (1 + IntKind.wrap .i64 (Int.tmod a3 3)) = _; rw [m2]; rfl
        have qC := sC htab (GC_hold hT0 hT1 hT2) eC2_0_0
        exact fin htab (GM_hold hU hO hT0 hT1 hT2) qU qB qC r16_2_0_0
      · have hT2 : XT2.den (vv a0 a1 a2 a3) = .ofNat 2 := by show IntKind.wrap .i64 (1 + IntKind.wrap .i64 (Int.tmod a3 3)) = _; rw [m2]; rfl
        have qC := sC htab (GC_hold hT0 hT1 hT2) eC2_0_1
        exact fin htab (GM_hold hU hO hT0 hT1 hT2) qU qB qC r16_2_0_1
      · have hT2 : XT2.den (vv a0 a1 a2 a3) = .ofNat 3 := by show IntKind.wrap .i64 (1 + IntKind.wrap .i64 (Int.tmod a3 3)) = _; rw [m2]; rfl
        have qC := sC htab (GC_hold hT0 hT1 hT2) eC2_0_2
        exact fin htab (GM_hold hU hO hT0 hT1 hT2) qU qB qC r16_2_0_2
    · have hT1 : XT1.den (vv a0 a1 a2 a3) = .ofNat 2 := by show IntKind.wrap .i64 (1 + IntKind.wrap .i64 (Int.tmod a2 3)) = _; rw [m1]; rfl
      have qB := sB htab (GB_hold hO hO1 hO2 hT0 hT1) eB16_2_1
      rcases k2 with m2 | m2 | m2
      · have hT2 : XT2.den (vv a0 a1 a2 a3) = .ofNat 1 := by show IntKind.wrap .i64 (1 + IntKind.wrap .i64 (Int.tmod a3 3)) = _; rw [m2]; rfl
        have qC := sC htab (GC_hold hT0 hT1 hT2) eC2_1_0
        exact fin htab (GM_hold hU hO hT0 hT1 hT2) qU qB qC r16_2_1_0
      · have hT2 : XT2.den (vv a0 a1 a2 a3) = .ofNat 2 := by show IntKind.wrap .i64 (1 + IntKind.wrap .i64 (Int.tmod a3 3)) = _; rw [m2]; rfl
        have qC := sC htab (GC_hold hT0 hT1 hT2) eC2_1_1
        exact fin htab (GM_hold hU hO hT0 hT1 hT2) qU qB qC r16_2_1_1
      · have hT2 : XT2.den (vv a0 a1 a2 a3) = .ofNat 3 := by show IntKind.wrap .i64 (1 + IntKind.wrap .i64 (Int.tmod a3 3)) = _; rw [m2]; rfl
        have qC := sC htab (GC_hold hT0 hT1 hT2) eC2_1_2
        exact fin htab (GM_hold hU hO hT0 hT1 hT2) qU qB qC r16_2_1_2
    · have hT1 : XT1.den (vv a0 a1 a2 a3) = .ofNat 3 := by show IntKind.wrap .i64 (1 + IntKind.wrap .i64 (Int.tmod a2 3)) = _; rw [m1]; rfl
      have qB := sB htab (GB_hold hO hO1 hO2 hT0 hT1) eB16_2_2
      rcases k2 with m2 | m2 | m2
      · have hT2 : XT2.den (vv a0 a1 a2 a3) = .ofNat 1 := by show IntKind.wrap .i64 (1 + IntKind.wrap .i64 (Int.tmod a3 3)) = _; rw [m2]; rfl
        have qC := sC htab (GC_hold hT0 hT1 hT2) eC2_2_0
        exact fin htab (GM_hold hU hO hT0 hT1 hT2) qU qB qC r16_2_2_0
      · have hT2 : XT2.den (vv a0 a1 a2 a3) = .ofNat 2 := by show IntKind.wrap .i64 (1 + IntKind.wrap .i64 (Int.tmod a3 3)) = _; rw [m2]; rfl
        have qC := sC htab (GC_hold hT0 hT1 hT2) eC2_2_1
        exact fin htab (GM_hold hU hO hT0 hT1 hT2) qU qB qC r16_2_2_1
      · have hT2 : XT2.den (vv a0 a1 a2 a3) = .ofNat 3 := by show IntKind.wrap .i64 (1 + IntKind.wrap .i64 (Int.tmod a3 3)) = _; rw [m2]; rfl
        have qC := sC htab (GC_hold hT0 hT1 hT2) eC2_2_2
        exact fin htab (GM_hold hU hO hT0 hT1 hT2) qU qB qC r16_2_2_2
theorem c17 (a0 a1 a2 a3 : Int) (b0 : (0 : Int) ≤ a0 ∧ a0 ≤ 255) (b1 : (0 : Int) ≤ a1 ∧ a1 ≤ 255) (b2 : (0 : Int) ≤ a2 ∧ a2 ≤ 255) (b3 : (0 : Int) ≤ a3 ∧ a3 ≤ 255) (ho : Int.tmod a0 20 = 17) (w : World) (htab : Lib.TabIs Tryz.prog w "internal/strconv.uint64pow10" .u64 Lib.pow10Tab) : Calls Tryz.prog 4 #[.int .u8 a0, .agg #[.int .u8 a1, .int .u8 a2, .int .u8 a3]] w fun e w' => e = .returned (.bool true) ∧ Kept w w' := by
  have hw : IntKind.wrap .i64 a0 = a0 := wrap_in .i64 a0 (show (-9223372036854775808 : Int) ≤ a0 ∧ a0 ≤ (9223372036854775807 : Int) by omega)
  have h5 : Int.tmod a0 5 = 2 := by
    rw [Int.tmod_eq_emod_of_nonneg b0.1] at ho ⊢
    omega
  have hU : XU.den (vv a0 a1 a2 a3) = .ofNat 3 := by show IntKind.wrap .i64 (1 + Int.tmod (IntKind.wrap .i64 a0) 5) = _; rw [hw, h5]; rfl
  have hU1 : XU1.den (vv a0 a1 a2 a3) = .ofNat 2 := by show IntKind.wrap .i64 (XU.den (vv a0 a1 a2 a3) - 1) = _; rw [hU]; rfl
  have hO : XO.den (vv a0 a1 a2 a3) = .ofNat 27 := by show IntKind.wrap .i64 (10 + Int.tmod (IntKind.wrap .i64 a0) 20) = _; rw [hw, ho]; rfl
  have hO1 : XO1.den (vv a0 a1 a2 a3) = .ofNat 17 := by show IntKind.wrap .i64 (XO.den (vv a0 a1 a2 a3) - 10) = _; rw [hO]; rfl
  have hO2 : XO2.den (vv a0 a1 a2 a3) = .ofNat 5 := by show IntKind.wrap .i64 (XO.den (vv a0 a1 a2 a3) - 22) = _; rw [hO]; rfl
  have k0 : Int.tmod a1 3 = 0 ∨ Int.tmod a1 3 = 1 ∨ Int.tmod a1 3 = 2 := by
    rw [Int.tmod_eq_emod_of_nonneg b1.1]
    omega
  have k1 : Int.tmod a2 3 = 0 ∨ Int.tmod a2 3 = 1 ∨ Int.tmod a2 3 = 2 := by
    rw [Int.tmod_eq_emod_of_nonneg b2.1]
    omega
  have k2 : Int.tmod a3 3 = 0 ∨ Int.tmod a3 3 = 1 ∨ Int.tmod a3 3 = 2 := by
    rw [Int.tmod_eq_emod_of_nonneg b3.1]
    omega
  rcases k0 with m0 | m0 | m0
  · have hT0 : XT0.den (vv a0 a1 a2 a3) = .ofNat 1 := by show IntKind.wrap .i64 (1 + IntKind.wrap .i64 (Int.tmod a1 3)) = _; rw [m0]; rfl
    have qU := sU htab (GU_hold hU hU1 hT0) eU2_0
    rcases k1 with m1 | m1 | m1
    · have hT1 : XT1.den (vv a0 a1 a2 a3) = .ofNat 1 := by show IntKind.wrap .i64 (1 + IntKind.wrap .i64 (Int.tmod a2 3)) = _; rw [m1]; rfl
      have qB := sB htab (GB_hold hO hO1 hO2 hT0 hT1) eB17_0_0
      rcases k2 with m2 | m2 | m2
      · have hT2 : XT2.den (vv a0 a1 a2 a3) = .ofNat 1 := by show IntKind.wrap .i64 (1 + IntKind.wrap .i64 (Int.tmod a3 3)) = _; rw [m2]; rfl
        have qC := sC htab (GC_hold hT0 hT1 hT2) eC0_0_0
        exact fin htab (GM_hold hU hO hT0 hT1 hT2) qU qB qC r17_0_0_0
      · have hT2 : XT2.den (vv a0 a1 a2 a3) = .ofNat 2 := by show IntKind.wrap .i64 (1 + IntKind.wrap .i64 (Int.tmod a3 3)) = _; rw [m2]; rfl
        have qC := sC htab (GC_hold hT0 hT1 hT2) eC0_0_1
        exact fin htab (GM_hold hU hO hT0 hT1 hT2) qU qB qC r17_0_0_1
      · have hT2 : XT2.den (vv a0 a1 a2 a3) = .ofNat 3 := by show IntKind.wrap .i64 (1 + IntKind.wrap .i64 (Int.tmod a3 3)) = _; rw [m2]; rfl
        have qC := sC htab (GC_hold hT0 hT1 hT2) eC0_0_2
        exact fin htab (GM_hold hU hO hT0 hT1 hT2) qU qB qC r17_0_0_2
    · have hT1 : XT1.den (vv a0 a1 a2 a3) = .ofNat 2 := by show IntKind.wrap .i64 (1 + IntKind.wrap .i64 (Int.tmod a2 3)) = _; rw [m1]; rfl
      have qB := sB htab (GB_hold hO hO1 hO2 hT0 hT1) eB17_0_1
      rcases k2 with m2 | m2 | m2
      · have hT2 : XT2.den (vv a0 a1 a2 a3) = .ofNat 1 := by show IntKind.wrap .i64 (1 + IntKind.wrap .i64 (Int.tmod a3 3)) = _; rw [m2]; rfl
        have qC := sC htab (GC_hold hT0 hT1 hT2) eC0_1_0
        exact fin htab (GM_hold hU hO hT0 hT1 hT2) qU qB qC r17_0_1_0
      · have hT2 : XT2.den (vv a0 a1 a2 a3) = .ofNat 2 := by show IntKind.wrap .i64 (1 + IntKind.wrap .i64 (Int.tmod a3 3)) = _; rw [m2]; rfl
        have qC := sC htab (GC_hold hT0 hT1 hT2) eC0_1_1
        exact fin htab (GM_hold hU hO hT0 hT1 hT2) qU qB qC r17_0_1_1
      · have hT2 : XT2.den (vv a0 a1 a2 a3) = .ofNat 3 := by show IntKind.wrap .i64 (1 + IntKind.wrap .i64 (Int.tmod a3 3)) = _; rw [m2]; rfl
        have qC := sC htab (GC_hold hT0 hT1 hT2) eC0_1_2
        exact fin htab (GM_hold hU hO hT0 hT1 hT2) qU qB qC r17_0_1_2
    · have hT1 : XT1.den (vv a0 a1 a2 a3) = .ofNat 3 := by show IntKind.wrap .i64 (1 + IntKind.wrap .i64 (Int.tmod a2 3)) = _; rw [m1]; rfl
      have qB := sB htab (GB_hold hO hO1 hO2 hT0 hT1) eB17_0_2
      rcases k2 with m2 | m2 | m2
      · have hT2 : XT2.den (vv a0 a1 a2 a3) = .ofNat 1 := by show IntKind.wrap .i64 (1 + IntKind.wrap .i64 (Int.tmod a3 3)) = _; rw [m2]; rfl
        have qC := sC htab (GC_hold hT0 hT1 hT2) eC0_2_0
        exact fin htab (GM_hold hU hO hT0 hT1 hT2) qU qB qC r17_0_2_0
      · have hT2 : XT2.den (vv a0 a1 a2 a3) = .ofNat 2 := by show IntKind.wrap .i64 (1 + IntKind.wrap .i64 (Int.tmod a3 3)) = _; rw [m2]; rfl
        have qC := sC htab (GC_hold hT0 hT1 hT2) eC0_2_1
        exact fin htab (GM_hold hU hO hT0 hT1 hT2) qU qB qC r17_0_2_1
      · have hT2 : XT2.den (vv a0 a1 a2 a3) = .ofNat 3 := by show IntKind.wrap .i64 (1 + IntKind.wrap .i64 (Int.tmod a3 3)) = _; rw [m2]; rfl
        have qC := sC htab (GC_hold hT0 hT1 hT2) eC0_2_2
        exact fin htab (GM_hold hU hO hT0 hT1 hT2) qU qB qC r17_0_2_2
  · have hT0 : XT0.den (vv a0 a1 a2 a3) = .ofNat 2 := by show IntKind.wrap .i64 (1 + IntKind.wrap .i64 (Int.tmod a1 3)) = _; rw [m0]; rfl
    have qU := sU htab (GU_hold hU hU1 hT0) eU2_1
    rcases k1 with m1 | m1 | m1
    · have hT1 : XT1.den (vv a0 a1 a2 a3) = .ofNat 1 := by show IntKind.wrap .i64 (1 + IntKind.wrap .i64 (Int.tmod a2 3)) = _; rw [m1]; rfl
      have qB := sB htab (GB_hold hO hO1 hO2 hT0 hT1) eB17_1_0
      rcases k2 with m2 | m2 | m2
      · have hT2 : XT2.den (vv a0 a1 a2 a3) = .ofNat 1 := by show IntKind.wrap .i64 (1 + IntKind.wrap .i64 (Int.tmod a3 3)) = _; rw [m2]; rfl
        have qC := sC htab (GC_hold hT0 hT1 hT2) eC1_0_0
        exact fin htab (GM_hold hU hO hT0 hT1 hT2) qU qB qC r17_1_0_0
      · have hT2 : XT2.den (vv a0 a1 a2 a3) = .ofNat 2 := by show IntKind.wrap .i64 (1 + IntKind.wrap .i64 (Int.tmod a3 3)) = _; rw [m2]; rfl
        have qC := sC htab (GC_hold hT0 hT1 hT2) eC1_0_1
        exact fin htab (GM_hold hU hO hT0 hT1 hT2) qU qB qC r17_1_0_1
      · have hT2 : XT2.den (vv a0 a1 a2 a3) = .ofNat 3 := by show IntKind.wrap .i64 (1 + IntKind.wrap .i64 (Int.tmod a3 3)) = _; rw [m2]; rfl
        have qC := sC htab (GC_hold hT0 hT1 hT2) eC1_0_2
        exact fin htab (GM_hold hU hO hT0 hT1 hT2) qU qB qC r17_1_0_2
    · have hT1 : XT1.den (vv a0 a1 a2 a3) = .ofNat 2 := by show IntKind.wrap .i64 (1 + IntKind.wrap .i64 (Int.tmod a2 3)) = _; rw [m1]; rfl
      have qB := sB htab (GB_hold hO hO1 hO2 hT0 hT1) eB17_1_1
      rcases k2 with m2 | m2 | m2
      · have hT2 : XT2.den (vv a0 a1 a2 a3) = .ofNat 1 := by show IntKind.wrap .i64 (1 + IntKind.wrap .i64 (Int.tmod a3 3)) = _; rw [m2]; rfl
        have qC := sC htab (GC_hold hT0 hT1 hT2) eC1_1_0
        exact fin htab (GM_hold hU hO hT0 hT1 hT2) qU qB qC r17_1_1_0
      · have hT2 : XT2.den (vv a0 a1 a2 a3) = .ofNat 2 := by show IntKind.wrap .i64 (1 + IntKind.wrap .i64 (Int.tmod a3 3)) = _; rw [m2]; rfl
        have qC := sC htab (GC_hold hT0 hT1 hT2) eC1_1_1
        exact fin htab (GM_hold hU hO hT0 hT1 hT2) qU qB qC r17_1_1_1
      · have hT2 : XT2.den (vv a0 a1 a2 a3) = .ofNat 3 := by show IntKind.wrap .i64 (1 + IntKind.wrap .i64 (Int.tmod a3 3)) = _; rw [m2]; rfl
        have qC := sC htab (GC_hold hT0 hT1 hT2) eC1_1_2
        exact fin htab (GM_hold hU hO hT0 hT1 hT2) qU qB qC r17_1_1_2
    · have hT1 : XT1.den (vv a0 a1 a2 a3) = .ofNat 3 := by show IntKind.wrap .i64 (1 + IntKind.wrap .i64 (Int.tmod a2 3)) = _; rw [m1]; rfl
      have qB := sB htab (GB_hold hO hO1 hO2 hT0 hT1) eB17_1_2
      rcases k2 with m2 | m2 | m2
      · have hT2 : XT2.den (vv a0 a1 a2 a3) = .ofNat 1 := by show IntKind.wrap .i64 (1 + IntKind.wrap .i64 (Int.tmod a3 3)) = _; rw [m2]; rfl
        have qC := sC htab (GC_hold hT0 hT1 hT2) eC1_2_0
        exact fin htab (GM_hold hU hO hT0 hT1 hT2) qU qB qC r17_1_2_0
      · have hT2 : XT2.den (vv a0 a1 a2 a3) = .ofNat 2 := by show IntKind.wrap .i64 (1 + IntKind.wrap .i64 (Int.tmod a3 3)) = _; rw [m2]; rfl
        have qC := sC htab (GC_hold hT0 hT1 hT2) eC1_2_1
        exact fin htab (GM_hold hU hO hT0 hT1 hT2) qU qB qC r17_1_2_1
      · have hT2 : XT2.den (vv a0 a1 a2 a3) = .ofNat 3 := by show IntKind.wrap .i64 (1 + IntKind.wrap .i64 (Int.tmod a3 3)) = _; rw [m2]; rfl
        have qC := sC htab (GC_hold hT0 hT1 hT2) eC1_2_2
        exact fin htab (GM_hold hU hO hT0 hT1 hT2) qU qB qC r17_1_2_2
  · have hT0 : XT0.den (vv a0 a1 a2 a3) = .ofNat 3 := by show IntKind.wrap .i64 (1 + IntKind.wrap .i64 (Int.tmod a1 3)) = _; rw [m0]; rfl
    have qU := sU htab (GU_hold hU hU1 hT0) eU2_2
    rcases k1 with m1 | m1 | m1
    · have hT1 : XT1.den (vv a0 a1 a2 a3) = .ofNat 1 := by show IntKind.wrap .i64 (1 + IntKind.wrap .i64 (Int.tmod a2 3)) = _; rw [m1]; rfl
      have qB := sB htab (GB_hold hO hO1 hO2 hT0 hT1) eB17_2_0
      rcases k2 with m2 | m2 | m2
      · have hT2 : XT2.den (vv a0 a1 a2 a3) = .ofNat 1 := by show IntKind.wrap .i64 (1 + IntKind.wrap .i64 (Int.tmod a3 3)) = _; rw [m2]; rfl
        have qC := sC htab (GC_hold hT0 hT1 hT2) eC2_0_0
        exact fin htab (GM_hold hU hO hT0 hT1 hT2) qU qB qC r17_2_0_0
      · have hT2 : XT2.den (vv a0 a1 a2 a3) = .ofNat 2 := by show IntKind.wrap .i64 (1 + IntKind.wrap .i64 (Int.tmod a3 3)) = _; rw [m2]; rfl
        have qC := sC htab (GC_hold hT0 hT1 hT2) eC2_0_1
        exact fin htab (GM_hold hU hO hT0 hT1 hT2) qU qB qC r17_2_0_1
      · have hT2 : XT2.den (vv a0 a1 a2 a3) = .ofNat 3 := by show IntKind.wrap .i64 (1 + IntKind.wrap .i64 (Int.tmod a3 3)) = _; rw [m2]; rfl
        have qC := sC htab (GC_hold hT0 hT1 hT2) eC2_0_2
        exact fin htab (GM_hold hU hO hT0 hT1 hT2) qU qB qC r17_2_0_2
    · have hT1 : XT1.den (vv a0 a1 a2 a3) = .ofNat 2 := by show IntKind.wrap .i64 (1 + IntKind.wrap .i64 (Int.tmod a2 3)) = _; rw [m1]; rfl
      have qB := sB htab (GB_hold hO hO1 hO2 hT0 hT1) eB17_2_1
      rcases k2 with m2 | m2 | m2
      · have hT2 : XT2.den (vv a0 a1 a2 a3) = .ofNat 1 := by show IntKind.wrap .i64 (1 + IntKind.wrap .i64 (Int.tmod a3 3)) = _; rw [m2]; rfl
        have qC := sC htab (GC_hold hT0 hT1 hT2) eC2_1_0
        exact fin htab (GM_hold hU hO hT0 hT1 hT2) qU qB qC r17_2_1_0
      · have hT2 : XT2.den (vv a0 a1 a2 a3) = .ofNat 2 := by show IntKind.wrap .i64 (1 + IntKind.wrap .i64 (Int.tmod a3 3)) = _; rw [m2]; rfl
        have qC := sC htab (GC_hold hT0 hT1 hT2) eC2_1_1
        exact fin htab (GM_hold hU hO hT0 hT1 hT2) qU qB qC r17_2_1_1
      · have hT2 : XT2.den (vv a0 a1 a2 a3) = .ofNat 3 := by show IntKind.wrap .i64 (1 + IntKind.wrap .i64 (Int.tmod a3 3)) = _; rw [m2]; rfl
        have qC := sC htab (GC_hold hT0 hT1 hT2) eC2_1_2
        exact fin htab (GM_hold hU hO hT0 hT1 hT2) qU qB qC r17_2_1_2
    · have hT1 : XT1.den (vv a0 a1 a2 a3) = .ofNat 3 := by show IntKind.wrap .i64 (1 + IntKind.wrap .i64 (Int.tmod a2 3)) = _; rw [m1]; rfl
      have qB := sB htab (GB_hold hO hO1 hO2 hT0 hT1) eB17_2_2
      rcases k2 with m2 | m2 | m2
      · have hT2 : XT2.den (vv a0 a1 a2 a3) = .ofNat 1 := by show IntKind.wrap .i64 (1 + IntKind.wrap .i64 (Int.tmod a3 3)) = _; rw [m2]; rfl
        have qC := sC htab (GC_hold hT0 hT1 hT2) eC2_2_0
        exact fin htab (GM_hold hU hO hT0 hT1 hT2) qU qB qC r17_2_2_0
      · have hT2 : XT2.den (vv a0 a1 a2 a3) = .ofNat 2 := by show IntKind.wrap .i64 (1 + IntKind.wrap .i64 (Int.tmod a3 3)) = _; rw [m2]; rfl
        have qC := sC htab (GC_hold hT0 hT1 hT2) eC2_2_1
        exact fin htab (GM_hold hU hO hT0 hT1 hT2) qU qB qC r17_2_2_1
      · have hT2 : XT2.den (vv a0 a1 a2 a3) = .ofNat 3 := by show IntKind.wrap .i64 (1 + IntKind.wrap .i64 (Int.tmod a3 3)) = _; rw [m2]; rfl
        have qC := sC htab (GC_hold hT0 hT1 hT2) eC2_2_2
        exact fin htab (GM_hold hU hO hT0 hT1 hT2) qU qB qC r17_2_2_2
theorem c18 (a0 a1 a2 a3 : Int) (b0 : (0 : Int) ≤ a0 ∧ a0 ≤ 255) (b1 : (0 : Int) ≤ a1 ∧ a1 ≤ 255) (b2 : (0 : Int) ≤ a2 ∧ a2 ≤ 255) (b3 : (0 : Int) ≤ a3 ∧ a3 ≤ 255) (ho : Int.tmod a0 20 = 18) (w : World) (htab : Lib.TabIs Tryz.prog w "internal/strconv.uint64pow10" .u64 Lib.pow10Tab) : Calls Tryz.prog 4 #[.int .u8 a0, .agg #[.int .u8 a1, .int .u8 a2, .int .u8 a3]] w fun e w' => e = .returned (.bool true) ∧ Kept w w' := by
  have hw : IntKind.wrap .i64 a0 = a0 := wrap_in .i64 a0 (show (-9223372036854775808 : Int) ≤ a0 ∧ a0 ≤ (9223372036854775807 : Int) by omega)
  have h5 : Int.tmod a0 5 = 3 := by
    rw [Int.tmod_eq_emod_of_nonneg b0.1] at ho ⊢
    omega
  have hU : XU.den (vv a0 a1 a2 a3) = .ofNat 4 := by show IntKind.wrap .i64 (1 + Int.tmod (IntKind.wrap .i64 a0) 5) = _; rw [hw, h5]; rfl
  have hU1 : XU1.den (vv a0 a1 a2 a3) = .ofNat 3 := by show IntKind.wrap .i64 (XU.den (vv a0 a1 a2 a3) - 1) = _; rw [hU]; rfl
  have hO : XO.den (vv a0 a1 a2 a3) = .ofNat 28 := by show IntKind.wrap .i64 (10 + Int.tmod (IntKind.wrap .i64 a0) 20) = _; rw [hw, ho]; rfl
  have hO1 : XO1.den (vv a0 a1 a2 a3) = .ofNat 18 := by show IntKind.wrap .i64 (XO.den (vv a0 a1 a2 a3) - 10) = _; rw [hO]; rfl
  have hO2 : XO2.den (vv a0 a1 a2 a3) = .ofNat 6 := by show IntKind.wrap .i64 (XO.den (vv a0 a1 a2 a3) - 22) = _; rw [hO]; rfl
  have k0 : Int.tmod a1 3 = 0 ∨ Int.tmod a1 3 = 1 ∨ Int.tmod a1 3 = 2 := by
    rw [Int.tmod_eq_emod_of_nonneg b1.1]
    omega
  have k1 : Int.tmod a2 3 = 0 ∨ Int.tmod a2 3 = 1 ∨ Int.tmod a2 3 = 2 := by
    rw [Int.tmod_eq_emod_of_nonneg b2.1]
    omega
  have k2 : Int.tmod a3 3 = 0 ∨ Int.tmod a3 3 = 1 ∨ Int.tmod a3 3 = 2 := by
    rw [Int.tmod_eq_emod_of_nonneg b3.1]
    omega
  rcases k0 with m0 | m0 | m0
  · have hT0 : XT0.den (vv a0 a1 a2 a3) = .ofNat 1 := by show IntKind.wrap .i64 (1 + IntKind.wrap .i64 (Int.tmod a1 3)) = _; rw [m0]; rfl
    have qU := sU htab (GU_hold hU hU1 hT0) eU3_0
    rcases k1 with m1 | m1 | m1
    · have hT1 : XT1.den (vv a0 a1 a2 a3) = .ofNat 1 := by show IntKind.wrap .i64 (1 + IntKind.wrap .i64 (Int.tmod a2 3)) = _; rw [m1]; rfl
      have qB := sB htab (GB_hold hO hO1 hO2 hT0 hT1) eB18_0_0
      rcases k2 with m2 | m2 | m2
      · have hT2 : XT2.den (vv a0 a1 a2 a3) = .ofNat 1 := by show IntKind.wrap .i64 (1 + IntKind.wrap .i64 (Int.tmod a3 3)) = _; rw [m2]; rfl
        have qC := sC htab (GC_hold hT0 hT1 hT2) eC0_0_0
        exact fin htab (GM_hold hU hO hT0 hT1 hT2) qU qB qC r18_0_0_0
      · have hT2 : XT2.den (vv a0 a1 a2 a3) = .ofNat 2 := by show IntKind.wrap .i64 (1 + IntKind.wrap .i64 (Int.tmod a3 3)) = _; rw [m2]; rfl
        have qC := sC htab (GC_hold hT0 hT1 hT2) eC0_0_1
        exact fin htab (GM_hold hU hO hT0 hT1 hT2) qU qB qC r18_0_0_1
      · have hT2 : XT2.den (vv a0 a1 a2 a3) = .ofNat 3 := by show IntKind.wrap .i64 (1 + IntKind.wrap .i64 (Int.tmod a3 3)) = _; rw [m2]; rfl
        have qC := sC htab (GC_hold hT0 hT1 hT2) eC0_0_2
        exact fin htab (GM_hold hU hO hT0 hT1 hT2) qU qB qC r18_0_0_2
    · have hT1 : XT1.den (vv a0 a1 a2 a3) = .ofNat 2 := by show IntKind.wrap .i64 (1 + IntKind.wrap .i64 (Int.tmod a2 3)) = _; rw [m1]; rfl
      have qB := sB htab (GB_hold hO hO1 hO2 hT0 hT1) eB18_0_1
      rcases k2 with m2 | m2 | m2
      · have hT2 : XT2.den (vv a0 a1 a2 a3) = .ofNat 1 := by show IntKind.wrap .i64 (1 + IntKind.wrap .i64 (Int.tmod a3 3)) = _; rw [m2]; rfl
        have qC := sC htab (GC_hold hT0 hT1 hT2) eC0_1_0
        exact fin htab (GM_hold hU hO hT0 hT1 hT2) qU qB qC r18_0_1_0
      · have hT2 : XT2.den (vv a0 a1 a2 a3) = .ofNat 2 := by show IntKind.wrap .i64 (1 + IntKind.wrap .i64 (Int.tmod a3 3)) = _; rw [m2]; rfl
        have qC := sC htab (GC_hold hT0 hT1 hT2) eC0_1_1
        exact fin htab (GM_hold hU hO hT0 hT1 hT2) qU qB qC r18_0_1_1
      · have hT2 : XT2.den (vv a0 a1 a2 a3) = .ofNat 3 := by show IntKind.wrap .i64 (1 + IntKind.wrap .i64 (Int.tmod a3 3)) = _; rw [m2]; rfl
        have qC := sC htab (GC_hold hT0 hT1 hT2) eC0_1_2
        exact fin htab (GM_hold hU hO hT0 hT1 hT2) qU qB qC r18_0_1_2
    · have hT1 : XT1.den (vv a0 a1 a2 a3) = .ofNat 3 := by show IntKind.wrap .i64 (1 + IntKind.wrap .i64 (Int.tmod a2 3)) = _; rw [m1]; rfl
      have qB := sB htab (GB_hold hO hO1 hO2 hT0 hT1) eB18_0_2
      rcases k2 with m2 | m2 | m2
      · have hT2 : XT2.den (vv a0 a1 a2 a3) = .ofNat 1 := by show IntKind.wrap .i64 (1 + IntKind.wrap .i64 (Int.tmod a3 3)) = _; rw [m2]; rfl
        have qC := sC htab (GC_hold hT0 hT1 hT2) eC0_2_0
        exact fin htab (GM_hold hU hO hT0 hT1 hT2) qU qB qC r18_0_2_0
      · have hT2 : XT2.den (vv a0 a1 a2 a3) = .ofNat 2 := by show IntKind.wrap .i64 (1 + IntKind.wrap .i64 (Int.tmod a3 3)) = _; rw [m2]; rfl
        have qC := sC htab (GC_hold hT0 hT1 hT2) eC0_2_1
        exact fin htab (GM_hold hU hO hT0 hT1 hT2) qU qB qC r18_0_2_1
      · have hT2 : XT2.den (vv a0 a1 a2 a3) = .ofNat 3 := by show IntKind.wrap .i64 (1 + IntKind.wrap .i64 (Int.tmod a3 3)) = _; rw [m2]; rfl
        have qC := sC htab (GC_hold hT0 hT1 hT2) eC0_2_2
        exact fin htab (GM_hold hU hO hT0 hT1 hT2) qU qB qC r18_0_2_2
  · have hT0 : XT0.den (vv a0 a1 a2 a3) = .ofNat 2 := by show IntKind.wrap .i64 (1 + IntKind.wrap .i64 (Int.tmod a1 3)) = _; rw [m0]; rfl
    have qU := sU htab (GU_hold hU hU1 hT0) eU3_1
    rcases k1 with m1 | m1 | m1
    · have hT1 : XT1.den (vv a0 a1 a2 a3) = .ofNat 1 := by show IntKind.wrap .i64 (1 + IntKind.wrap .i64 (Int.tmod a2 3)) = _; rw [m1]; rfl
      have qB := sB htab (GB_hold hO hO1 hO2 hT0 hT1) eB18_1_0
      rcases k2 with m2 | m2 | m2
      · have hT2 : XT2.den (vv a0 a1 a2 a3) = .ofNat 1 := by show IntKind.wrap .i64 (1 + IntKind.wrap .i64 (Int.tmod a3 3)) = _; rw [m2]; rfl
        have qC := sC htab (GC_hold hT0 hT1 hT2) eC1_0_0
        exact fin htab (GM_hold hU hO hT0 hT1 hT2) qU qB qC r18_1_0_0
      · have hT2 : XT2.den (vv a0 a1 a2 a3) = .ofNat 2 := by show IntKind.wrap .i64 (1 + IntKind.wrap .i64 (Int.tmod a3 3)) = _; rw [m2]; rfl
        have qC := sC htab (GC_hold hT0 hT1 hT2) eC1_0_1
        exact fin htab (GM_hold hU hO hT0 hT1 hT2) qU qB qC r18_1_0_1
      · have hT2 : XT2.den (vv a0 a1 a2 a3) = .ofNat 3 := by show IntKind.wrap .i64 (1 + IntKind.wrap .i64 (Int.tmod a3 3)) = _; rw [m2]; rfl
        have qC := sC htab (GC_hold hT0 hT1 hT2) eC1_0_2
        exact fin htab (GM_hold hU hO hT0 hT1 hT2) qU qB qC r18_1_0_2
    · have hT1 : XT1.den (vv a0 a1 a2 a3) = .ofNat 2 := by show IntKind.wrap .i64 (1 + IntKind.wrap .i64 (Int.tmod a2 3)) = _; rw [m1]; rfl
      have qB := sB htab (GB_hold hO hO1 hO2 hT0 hT1) eB18_1_1
      rcases k2 with m2 | m2 | m2
      · have hT2 : XT2.den (vv a0 a1 a2 a3) = .ofNat 1 := by show IntKind.wrap .i64 (1 + IntKind.wrap .i64 (Int.tmod a3 3)) = _; rw [m2]; rfl
        have qC := sC htab (GC_hold hT0 hT1 hT2) eC1_1_0
        exact fin htab (GM_hold hU hO hT0 hT1 hT2) qU qB qC r18_1_1_0
      · have hT2 : XT2.den (vv a0 a1 a2 a3) = .ofNat 2 := by show IntKind.wrap .i64 (1 + IntKind.wrap .i64 (Int.tmod a3 3)) = _; rw [m2]; rfl
        have qC := sC htab (GC_hold hT0 hT1 hT2) eC1_1_1
        exact fin htab (GM_hold hU hO hT0 hT1 hT2) qU qB qC r18_1_1_1
      · have hT2 : XT2.den (vv a0 a1 a2 a3) = .ofNat 3 := by show IntKind.wrap .i64 (1 + IntKind.wrap .i64 (Int.tmod a3 3)) = _; rw [m2]; rfl
        have qC := sC htab (GC_hold hT0 hT1 hT2) eC1_1_2
        exact fin htab (GM_hold hU hO hT0 hT1 hT2) qU qB qC r18_1_1_2
    · have hT1 : XT1.den (vv a0 a1 a2 a3) = .ofNat 3 := by show IntKind.wrap .i64 (1 + IntKind.wrap .i64 (Int.tmod a2 3)) = _; rw [m1]; rfl
      have qB := sB htab (GB_hold hO hO1 hO2 hT0 hT1) eB18_1_2
      rcases k2 with m2 | m2 | m2
      · have hT2 : XT2.den (vv a0 a1 a2 a3) = .ofNat 1 := by show IntKind.wrap .i64 (1 + IntKind.wrap .i64 (Int.tmod a3 3)) = _; rw [m2]; rfl
        have qC := sC htab (GC_hold hT0 hT1 hT2) eC1_2_0
        exact fin htab (GM_hold hU hO hT0 hT1 hT2) qU qB qC r18_1_2_0
      · have hT2 : XT2.den (vv a0 a1 a2 a3) = .ofNat 2 := by show IntKind.wrap .i64 (1 + IntKind.wrap .i64 (Int.tmod a3 3)) = _; rw [m2]; rfl
        have qC := sC htab (GC_hold hT0 hT1 hT2) eC1_2_1
        exact fin htab (GM_hold hU hO hT0 hT1 hT2) qU qB qC r18_1_2_1
      · have hT2 : XT2.den (vv a0 a1 a2 a3) = .ofNat 3 := by show IntKind.wrap .i64 (1 + IntKind.wrap .i64 (Int.tmod a3 3)) = _; rw [m2]; rfl
        have qC := sC htab (GC_hold hT0 hT1 hT2) eC1_2_2
        exact fin htab (GM_hold hU hO hT0 hT1 hT2) qU qB qC r18_1_2_2
  · have hT0 : XT0.den (vv a0 a1 a2 a3) = .ofNat 3 := by show IntKind.wrap .i64 (1 + IntKind.wrap .i64 (Int.tmod a1 3)) = _; rw [m0]; rfl
    have qU := sU htab (GU_hold hU hU1 hT0) eU3_2
    rcases k1 with m1 | m1 | m1
    · have hT1 : XT1.den (vv a0 a1 a2 a3) = .ofNat 1 := by show IntKind.wrap .i64 (1 + IntKind.wrap .i64 (Int.tmod a2 3)) = _; rw [m1]; rfl
      have qB := sB htab (GB_hold hO hO1 hO2 hT0 hT1) eB18_2_0
      rcases k2 with m2 | m2 | m2
      · have hT2 : XT2.den (vv a0 a1 a2 a3) = .ofNat 1 := by show IntKind.wrap .i64 (1 + IntKind.wrap .i64 (Int.tmod a3 3)) = _; rw [m2]; rfl
        have qC := sC htab (GC_hold hT0 hT1 hT2) eC2_0_0
        exact fin htab (GM_hold hU hO hT0 hT1 hT2) qU qB qC r18_2_0_0
      · have hT2 : XT2.den (vv a0 a1 a2 a3) = .ofNat 2 := by show IntKind.wrap .i64 (1 + IntKind.wrap .i64 (Int.tmod a3 3)) = _; rw [m2]; rfl
        have qC := sC htab (GC_hold hT0 hT1 hT2) eC2_0_1
        exact fin htab (GM_hold hU hO hT0 hT1 hT2) qU qB qC r18_2_0_1
      · have hT2 : XT2.den (vv a0 a1 a2 a3) = .ofNat 3 := by show IntKind.wrap .i64 (1 + IntKind.wrap .i64 (Int.tmod a3 3)) = _; rw [m2]; rfl
        have qC := sC htab (GC_hold hT0 hT1 hT2) eC2_0_2
        exact fin htab (GM_hold hU hO hT0 hT1 hT2) qU qB qC r18_2_0_2
    · have hT1 : XT1.den (vv a0 a1 a2 a3) = .ofNat 2 := by show IntKind.wrap .i64 (1 + IntKind.wrap .i64 (Int.tmod a2 3)) = _; rw [m1]; rfl
      have qB := sB htab (GB_hold hO hO1 hO2 hT0 hT1) eB18_2_1
      rcases k2 with m2 | m2 | m2
      · have hT2 : XT2.den (vv a0 a1 a2 a3) = .ofNat 1 := by show IntKind.wrap .i64 (1 + IntKind.wrap .i64 (Int.tmod a3 3)) = _; rw [m2]; rfl
        have qC := sC htab (GC_hold hT0 hT1 hT2) eC2_1_0
        exact fin htab (GM_hold hU hO hT0 hT1 hT2) qU qB qC r18_2_1_0
      · have hT2 : XT2.den (vv a0 a1 a2 a3) = .ofNat 2 := by show IntKind.wrap .i64 (1 + IntKind.wrap .i64 (Int.tmod a3 3)) = _; rw [m2]; rfl
        have qC := sC htab (GC_hold hT0 hT1 hT2) eC2_1_1
        exact fin htab (GM_hold hU hO hT0 hT1 hT2) qU qB qC r18_2_1_1
      · have hT2 : XT2.den (vv a0 a1 a2 a3) = .ofNat 3 := by show IntKind.wrap .i64 (1 + IntKind.wrap .i64 (Int.tmod a3 3)) = _; rw [m2]; rfl
        have qC := sC htab (GC_hold hT0 hT1 hT2) eC2_1_2
        exact fin htab (GM_hold hU hO hT0 hT1 hT2) qU qB qC r18_2_1_2
    · have hT1 : XT1.den (vv a0 a1 a2 a3) = .ofNat 3 := by show IntKind.wrap .i64 (1 + IntKind.wrap .i64 (Int.tmod a2 3)) = _; rw [m1]; rfl
      have qB := sB htab (GB_hold hO hO1 hO2 hT0 hT1) eB18_2_2
      rcases k2 with m2 | m2 | m2
      · have hT2 : XT2.den (vv a0 a1 a2 a3) = .ofNat 1 := by show IntKind.wrap .i64 (1 + IntKind.wrap .i64 (Int.tmod a3 3)) = _; rw [m2]; rfl
        have qC := sC htab (GC_hold hT0 hT1 hT2) eC2_2_0
        exact fin htab (GM_hold hU hO hT0 hT1 hT2) qU qB qC r18_2_2_0
      · have hT2 : XT2.den (vv a0 a1 a2 a3) = .ofNat 2 := by show IntKind.wrap .i64 (1 + IntKind.wrap .i64 (Int.tmod a3 3)) = _; rw [m2]; rfl
        have qC := sC htab (GC_hold hT0 hT1 hT2) eC2_2_1
        exact fin htab (GM_hold hU hO hT0 hT1 hT2) qU qB qC r18_2_2_1
      · have hT2 : XT2.den (vv a0 a1 a2 a3) = .ofNat 3 := by show IntKind.wrap .i64 (1 + IntKind.wrap .i64 (Int.tmod a3 3)) = _; rw [m2]; rfl
        have qC := sC htab (GC_hold hT0 hT1 hT2) eC2_2_2
        exact fin htab (GM_hold hU hO hT0 hT1 hT2) qU qB qC r18_2_2_2
theorem c19 (a0 a1 a2 a3 : Int) (b0 : (0 : Int) ≤ a0 ∧ a0 ≤ 255) (b1 : (0 : Int) ≤ a1 ∧ a1 ≤ 255) (b2 : (0 : Int) ≤ a2 ∧ a2 ≤ 255) (b3 : (0 : Int) ≤ a3 ∧ a3 ≤ 255) (ho : Int.tmod a0 20 = 19) (w : World) (htab : Lib.TabIs Tryz.prog w "internal/strconv.uint64pow10" .u64 Lib.pow10Tab) : Calls Tryz.prog 4 #[.int .u8 a0, .agg #[.int .u8 a1, .int .u8 a2, .int .u8 a3]] w fun e w' => e = .returned (.bool true) ∧ Kept w w' := by
  have hw : IntKind.wrap .i64 a0 = a0 := wrap_in .i64 a0 (show (-9223372036854775808 : Int) ≤ a0 ∧ a0 ≤ (9223372036854775807 : Int) by omega)
  have h5 : Int.tmod a0 5 = 4 := by
    rw [Int.tmod_eq_emod_of_nonneg b0.1] at ho ⊢
    omega
  have hU : XU.den (vv a0 a1 a2 a3) = .ofNat 5 := by show IntKind.wrap .i64 (1 + Int.tmod (IntKind.wrap .i64 a0) 5) = _; rw [hw, h5]; rfl
  have hU1 : XU1.den (vv a0 a1 a2 a3) = .ofNat 4 := by show IntKind.wrap .i64 (XU.den (vv a0 a1 a2 a3) - 1) = _; rw [hU]; rfl
  have hO : XO.den (vv a0 a1 a2 a3) = .ofNat 29 := by show IntKind.wrap .i64 (10 + Int.tmod (IntKind.wrap .i64 a0) 20) = _; rw [hw, ho]; rfl
  have hO1 : XO1.den (vv a0 a1 a2 a3) = .ofNat 19 := by show IntKind.wrap .i64 (XO.den (vv a0 a1 a2 a3) - 10) = _; rw [hO]; rfl
  have hO2 : XO2.den (vv a0 a1 a2 a3) = .ofNat 7 := by show IntKind.wrap .i64 (XO.den (vv a0 a1 a2 a3) - 22) = _; rw [hO]; rfl
  have k0 : Int.tmod a1 3 = 0 ∨ Int.tmod a1 3 = 1 ∨ Int.tmod a1 3 = 2 := by
    rw [Int.tmod_eq_emod_of_nonneg b1.1]
    omega
  have k1 : Int.tmod a2 3 = 0 ∨ Int.tmod a2 3 = 1 ∨ Int.tmod a2 3 = 2 := by
    rw [Int.tmod_eq_emod_of_nonneg b2.1]
    omega
  have k2 : Int.tmod a3 3 = 0 ∨ Int.tmod a3 3 = 1 ∨ Int.tmod a3 3 = 2 := by
    rw [Int.tmod_eq_emod_of_nonneg b3.1]
    omega
  rcases k0 with m0 | m0 | m0
  · have hT0 : XT0.den (vv a0 a1 a2 a3) = .ofNat 1 := by show IntKind.wrap .i64 (1 + IntKind.wrap .i64 (Int.tmod a1 3)) = _; rw [m0]; rfl
    have qU := sU htab (GU_hold hU hU1 hT0) eU4_0
    rcases k1 with m1 | m1 | m1
    · have hT1 : XT1.den (vv a0 a1 a2 a3) = .ofNat 1 := by show IntKind.wrap .i64 (1 + IntKind.wrap .i64 (Int.tmod a2 3)) = _; rw [m1]; rfl
      have qB := sB htab (GB_hold hO hO1 hO2 hT0 hT1) eB19_0_0
      rcases k2 with m2 | m2 | m2
      · have hT2 : XT2.den (vv a0 a1 a2 a3) = .ofNat 1 := by show IntKind.wrap .i64 (1 + IntKind.wrap .i64 (Int.tmod a3 3)) = _; rw [m2]; rfl
        have qC := sC htab (GC_hold hT0 hT1 hT2) eC0_0_0
        exact fin htab (GM_hold hU hO hT0 hT1 hT2) qU qB qC r19_0_0_0
      · have hT2 : XT2.den (vv a0 a1 a2 a3) = .ofNat 2 := by show IntKind.wrap .i64 (1 + IntKind.wrap .i64 (Int.tmod a3 3)) = _; rw [m2]; rfl
        have qC := sC htab (GC_hold hT0 hT1 hT2) eC0_0_1
        exact fin htab (GM_hold hU hO hT0 hT1 hT2) qU qB qC r19_0_0_1
      · have hT2 : XT2.den (vv a0 a1 a2 a3) = .ofNat 3 := by show IntKind.wrap .i64 (1 + IntKind.wrap .i64 (Int.tmod a3 3)) = _; rw [m2]; rfl
        have qC := sC htab (GC_hold hT0 hT1 hT2) eC0_0_2
        exact fin htab (GM_hold hU hO hT0 hT1 hT2) qU qB qC r19_0_0_2
    · have hT1 : XT1.den (vv a0 a1 a2 a3) = .ofNat 2 := by show IntKind.wrap .i64 (1 + IntKind.wrap .i64 (Int.tmod a2 3)) = _; rw [m1]; rfl
      have qB := sB htab (GB_hold hO hO1 hO2 hT0 hT1) eB19_0_1
      rcases k2 with m2 | m2 | m2
      · have hT2 : XT2.den (vv a0 a1 a2 a3) = .ofNat 1 := by show IntKind.wrap .i64 (1 + IntKind.wrap .i64 (Int.tmod a3 3)) = _; rw [m2]; rfl
        have qC := sC htab (GC_hold hT0 hT1 hT2) eC0_1_0
        exact fin htab (GM_hold hU hO hT0 hT1 hT2) qU qB qC r19_0_1_0
      · have hT2 : XT2.den (vv a0 a1 a2 a3) = .ofNat 2 := by show IntKind.wrap .i64 (1 + IntKind.wrap .i64 (Int.tmod a3 3)) = _; rw [m2]; rfl
        have qC := sC htab (GC_hold hT0 hT1 hT2) eC0_1_1
        exact fin htab (GM_hold hU hO hT0 hT1 hT2) qU qB qC r19_0_1_1
      · have hT2 : XT2.den (vv a0 a1 a2 a3) = .ofNat 3 := by show IntKind.wrap .i64 (1 + IntKind.wrap .i64 (Int.tmod a3 3)) = _; rw [m2]; rfl
        have qC := sC htab (GC_hold hT0 hT1 hT2) eC0_1_2
        exact fin htab (GM_hold hU hO hT0 hT1 hT2) qU qB qC r19_0_1_2
    · have hT1 : XT1.den (vv a0 a1 a2 a3) = .ofNat 3 := by show IntKind.wrap .i64 (1 + IntKind.wrap .i64 (Int.tmod a2 3)) = _; rw [m1]; rfl
      have qB := sB htab (GB_hold hO hO1 hO2 hT0 hT1) eB19_0_2
      rcases k2 with m2 | m2 | m2
      · have hT2 : XT2.den (vv a0 a1 a2 a3) = .ofNat 1 := by show IntKind.wrap .i64 (1 + IntKind.wrap .i64 (Int.tmod a3 3)) = _; rw [m2]; rfl
        have qC := sC htab (GC_hold hT0 hT1 hT2) eC0_2_0
        exact fin htab (GM_hold hU hO hT0 hT1 hT2) qU qB qC r19_0_2_0
      · have hT2 : XT2.den (vv a0 a1 a2 a3) = .ofNat 2 := by show IntKind.wrap .i64 (1 + IntKind.wrap .i64 (Int.tmod a3 3)) = _; rw [m2]; rfl
        have qC := sC htab (GC_hold hT0 hT1 hT2) eC0_2_1
        exact fin htab (GM_hold hU hO hT0 hT1 hT2) qU qB qC r19_0_2_1
      · have hT2 : XT2.den (vv a0 a1 a2 a3) = .ofNat 3 := by show IntKind.wrap .i64 (1 + IntKind.wrap .i64 (Int.tmod a3 3)) = _; rw [m2]; rfl
        have qC := sC htab (GC_hold hT0 hT1 hT2) eC0_2_2
        exact fin htab (GM_hold hU hO hT0 hT1 hT2) qU qB qC r19_0_2_2
  · have hT0 : XT0.den (vv a0 a1 a2 a3) = .ofNat 2 := by show IntKind.wrap .i64 (1 + IntKind.wrap .i64 (Int.tmod a1 3)) = _; rw [m0]; rfl
    have qU := sU htab (GU_hold hU hU1 hT0) eU4_1
    rcases k1 with m1 | m1 | m1
    · have hT1 : XT1.den (vv a0 a1 a2 a3) = .ofNat 1 := by show IntKind.wrap .i64 (1 + IntKind.wrap .i64 (Int.tmod a2 3)) = _; rw [m1]; rfl
      have qB := sB htab (GB_hold hO hO1 hO2 hT0 hT1) eB19_1_0
      rcases k2 with m2 | m2 | m2
      · have hT2 : XT2.den (vv a0 a1 a2 a3) = .ofNat 1 := by show IntKind.wrap .i64 (1 + IntKind.wrap .i64 (Int.tmod a3 3)) = _; rw [m2]; rfl
        have qC := sC htab (GC_hold hT0 hT1 hT2) eC1_0_0
        exact fin htab (GM_hold hU hO hT0 hT1 hT2) qU qB qC r19_1_0_0
      · have hT2 : XT2.den (vv a0 a1 a2 a3) = .ofNat 2 := by show IntKind.wrap .i64 (1 + IntKind.wrap .i64 (Int.tmod a3 3)) = _; rw [m2]; rfl
        have qC := sC htab (GC_hold hT0 hT1 hT2) eC1_0_1
        exact fin htab (GM_hold hU hO hT0 hT1 hT2) qU qB qC r19_1_0_1
      · have hT2 : XT2.den (vv a0 a1 a2 a3) = .ofNat 3 := by show IntKind.wrap .i64 (1 + IntKind.wrap .i64 (Int.tmod a3 3)) = _; rw [m2]; rfl
        have qC := sC htab (GC_hold hT0 hT1 hT2) eC1_0_2
        exact fin htab (GM_hold hU hO hT0 hT1 hT2) qU qB qC r19_1_0_2
    · have hT1 : XT1.den (vv a0 a1 a2 a3) = .ofNat 2 := by show IntKind.wrap .i64 (1 + IntKind.wrap .i64 (Int.tmod a2 3)) = _; rw [m1]; rfl
      have qB := sB htab (GB_hold hO hO1 hO2 hT0 hT1) eB19_1_1
      rcases k2 with m2 | m2 | m2
      · have hT2 : XT2.den (vv a0 a1 a2 a3) = .ofNat 1 := by show IntKind.wrap .i64 (1 + IntKind.wrap .i64 (Int.tmod a3 3)) = _; rw [m2]; rfl
        have qC := sC htab (GC_hold hT0 hT1 hT2) eC1_1_0
        exact fin htab (GM_hold hU hO hT0 hT1 hT2) qU qB qC r19_1_1_0
      · have hT2 : XT2.den (vv a0 a1 a2 a3) = .ofNat 2 := by show IntKind.wrap .i64 (1 + IntKind.wrap .i64 (Int.tmod a3 3)) = _; rw [m2]; rfl
        have qC := sC htab (GC_hold hT0 hT1 hT2) eC1_1_1
        exact fin htab (GM_hold hU hO hT0 hT1 hT2) qU qB qC r19_1_1_1
      · have hT2 : XT2.den (vv a0 a1 a2 a3) = .ofNat 3 := by show IntKind.wrap .i64 (1 + IntKind.wrap .i64 (Int.tmod a3 3)) = _; rw [m2]; rfl
        have qC := sC htab (GC_hold hT0 hT1 hT2) eC1_1_2
        exact fin htab (GM_hold hU hO hT0 hT1 hT2) qU qB qC r19_1_1_2
    · have hT1 : XT1.den (vv a0 a1 a2 a3) = .ofNat 3 := by show IntKind.wrap .i64 (1 + IntKind.wrap .i64 (Int.tmod a2 3)) = _; rw [m1]; rfl
      have qB := sB htab (GB_hold hO hO1 hO2 hT0 hT1) eB19_1_2
      rcases k2 with m2 | m2 | m2
      · have hT2 : XT2.den (vv a0 a1 a2 a3) = .ofNat 1 := by show IntKind.wrap .i64 (1 + IntKind.wrap .i64 (Int.tmod a3 3)) = _; rw [m2]; rfl
        have qC := sC htab (GC_hold hT0 hT1 hT2) eC1_2_0
        exact fin htab (GM_hold hU hO hT0 hT1 hT2) qU qB qC r19_1_2_0
      · have hT2 : XT2.den (vv a0 a1 a2 a3) = .ofNat 2 := by show IntKind.wrap .i64 (1 + IntKind.wrap .i64 (Int.tmod a3 3)) = _; rw [m2]; rfl
        have qC := sC htab (GC_hold hT0 hT1 hT2) eC1_2_1
        exact fin htab (GM_hold hU hO hT0 hT1 hT2) qU qB qC r19_1_2_1
      · have hT2 : XT2.den (vv a0 a1 a2 a3) = .ofNat 3 := by show IntKind.wrap .i64 (1 + IntKind.wrap .i64 (Int.tmod a3 3)) = _; rw [m2]; rfl
        have qC := sC htab (GC_hold hT0 hT1 hT2) eC1_2_2
        exact fin htab (GM_hold hU hO hT0 hT1 hT2) qU qB qC r19_1_2_2
  · have hT0 : XT0.den (vv a0 a1 a2 a3) = .ofNat 3 := by show IntKind.wrap .i64 (1 + IntKind.wrap .i64 (Int.tmod a1 3)) = _; rw [m0]; rfl
    have qU := sU htab (GU_hold hU hU1 hT0) eU4_2
    rcases k1 with m1 | m1 | m1
    · have hT1 : XT1.den (vv a0 a1 a2 a3) = .ofNat 1 := by show IntKind.wrap .i64 (1 + IntKind.wrap .i64 (Int.tmod a2 3)) = _; rw [m1]; rfl
      have qB := sB htab (GB_hold hO hO1 hO2 hT0 hT1) eB19_2_0
      rcases k2 with m2 | m2 | m2
      · have hT2 : XT2.den (vv a0 a1 a2 a3) = .ofNat 1 := by show IntKind.wrap .i64 (1 + IntKind.wrap .i64 (Int.tmod a3 3)) = _; rw [m2]; rfl
        have qC := sC htab (GC_hold hT0 hT1 hT2) eC2_0_0
        exact fin htab (GM_hold hU hO hT0 hT1 hT2) qU qB qC r19_2_0_0
      · have hT2 : XT2.den (vv a0 a1 a2 a3) = .ofNat 2 := by show IntKind.wrap .i64 (1 + IntKind.wrap .i64 (Int.tmod a3 3)) = _; rw [m2]; rfl
        have qC := sC htab (GC_hold hT0 hT1 hT2) eC2_0_1
        exact fin htab (GM_hold hU hO hT0 hT1 hT2) qU qB qC r19_2_0_1
      · have hT2 : XT2.den (vv a0 a1 a2 a3) = .ofNat 3 := by show IntKind.wrap .i64 (1 + IntKind.wrap .i64 (Int.tmod a3 3)) = _; rw [m2]; rfl
        have qC := sC htab (GC_hold hT0 hT1 hT2) eC2_0_2
        exact fin htab (GM_hold hU hO hT0 hT1 hT2) qU qB qC r19_2_0_2
    · have hT1 : XT1.den (vv a0 a1 a2 a3) = .ofNat 2 := by show IntKind.wrap .i64 (1 + IntKind.wrap .i64 (Int.tmod a2 3)) = _; rw [m1]; rfl
      have qB := sB htab (GB_hold hO hO1 hO2 hT0 hT1) eB19_2_1
      rcases k2 with m2 | m2 | m2
      · have hT2 : XT2.den (vv a0 a1 a2 a3) = .ofNat 1 := by show IntKind.wrap .i64 (1 + IntKind.wrap .i64 (Int.tmod a3 3)) = _; rw [m2]; rfl
        have qC := sC htab (GC_hold hT0 hT1 hT2) eC2_1_0
        exact fin htab (GM_hold hU hO hT0 hT1 hT2) qU qB qC r19_2_1_0
      · have hT2 : XT2.den (vv a0 a1 a2 a3) = .ofNat 2 := by show IntKind.wrap .i64 (1 + IntKind.wrap .i64 (Int.tmod a3 3)) = _; rw [m2]; rfl
        have qC := sC htab (GC_hold hT0 hT1 hT2) eC2_1_1
        exact fin htab (GM_hold hU hO hT0 hT1 hT2) qU qB qC r19_2_1_1
      · have hT2 : XT2.den (vv a0 a1 a2 a3) = .ofNat 3 := by show IntKind.wrap .i64 (1 + IntKind.wrap .i64 (Int.tmod a3 3)) = _; rw [m2]; rfl
        have qC := sC htab (GC_hold hT0 hT1 hT2) eC2_1_2
        exact fin htab (GM_hold hU hO hT0 hT1 hT2) qU qB qC r19_2_1_2
    · have hT1 : XT1.den (vv a0 a1 a2 a3) = .ofNat 3 := by show IntKind.wrap .i64 (1 + IntKind.wrap .i64 (Int.tmod a2 3)) = _; rw [m1]; rfl
      have qB := sB htab (GB_hold hO hO1 hO2 hT0 hT1) eB19_2_2
      rcases k2 with m2 | m2 | m2
      · have hT2 : XT2.den (vv a0 a1 a2 a3) = .ofNat 1 := by show IntKind.wrap .i64 (1 + IntKind.wrap .i64 (Int.tmod a3 3)) = _; rw [m2]; rfl
        have qC := sC htab (GC_hold hT0 hT1 hT2) eC2_2_0
        exact fin htab (GM_hold hU hO hT0 hT1 hT2) qU qB qC r19_2_2_0
      · have hT2 : XT2.den (vv a0 a1 a2 a3) = .ofNat 2 := by show IntKind.wrap .i64 (1 + IntKind.wrap .i64 (Int.tmod a3 3)) = _; rw [m2]; rfl
        have qC := sC htab (GC_hold hT0 hT1 hT2) eC2_2_1
        exact fin htab (GM_hold hU hO hT0 hT1 hT2) qU qB qC r19_2_2_1
      · have hT2 : XT2.den (vv a0 a1 a2 a3) = .ofNat 3 := by show IntKind.wrap .i64 (1 + IntKind.wrap .i64 (Int.tmod a3 3)) = _; rw [m2]; rfl
        have qC := sC htab (GC_hold hT0 hT1 hT2) eC2_2_2
        exact fin htab (GM_hold hU hO hT0 hT1 hT2) qU qB qC r19_2_2_2
theorem law (a0 a1 a2 a3 : Int) (b0 : (0 : Int) ≤ a0 ∧ a0 ≤ 255) (b1 : (0 : Int) ≤ a1 ∧ a1 ≤ 255) (b2 : (0 : Int) ≤ a2 ∧ a2 ≤ 255) (b3 : (0 : Int) ≤ a3 ∧ a3 ≤ 255) (w : World) (htab : Lib.TabIs Tryz.prog w "internal/strconv.uint64pow10" .u64 Lib.pow10Tab) : Calls Tryz.prog 4 #[.int .u8 a0, .agg #[.int .u8 a1, .int .u8 a2, .int .u8 a3]] w fun e w' => e = .returned (.bool true) ∧ Kept w w' := by
  have k : Int.tmod a0 20 = 0 ∨ Int.tmod a0 20 = 1 ∨ Int.tmod a0 20 = 2 ∨ Int.tmod a0 20 = 3 ∨ Int.tmod a0 20 = 4 ∨ Int.tmod a0 20 = 5 ∨ Int.tmod a0 20 = 6 ∨ Int.tmod a0 20 = 7 ∨ Int.tmod a0 20 = 8 ∨ Int.tmod a0 20 = 9 ∨ Int.tmod a0 20 = 10 ∨ Int.tmod a0 20 = 11 ∨ Int.tmod a0 20 = 12 ∨ Int.tmod a0 20 = 13 ∨ Int.tmod a0 20 = 14 ∨ Int.tmod a0 20 = 15 ∨ Int.tmod a0 20 = 16 ∨ Int.tmod a0 20 = 17 ∨ Int.tmod a0 20 = 18 ∨ Int.tmod a0 20 = 19 := by
    rw [Int.tmod_eq_emod_of_nonneg b0.1]
    omega
  rcases k with h | h | h | h | h | h | h | h | h | h | h | h | h | h | h | h | h | h | h | h
  · exact c0 a0 a1 a2 a3 b0 b1 b2 b3 h w htab
  · exact c1 a0 a1 a2 a3 b0 b1 b2 b3 h w htab
  · exact c2 a0 a1 a2 a3 b0 b1 b2 b3 h w htab
  · exact c3 a0 a1 a2 a3 b0 b1 b2 b3 h w htab
  · exact c4 a0 a1 a2 a3 b0 b1 b2 b3 h w htab
  · exact c5 a0 a1 a2 a3 b0 b1 b2 b3 h w htab
  · exact c6 a0 a1 a2 a3 b0 b1 b2 b3 h w htab
  · exact c7 a0 a1 a2 a3 b0 b1 b2 b3 h w htab
  · exact c8 a0 a1 a2 a3 b0 b1 b2 b3 h w htab
  · exact c9 a0 a1 a2 a3 b0 b1 b2 b3 h w htab
  · exact c10 a0 a1 a2 a3 b0 b1 b2 b3 h w htab
  · exact c11 a0 a1 a2 a3 b0 b1 b2 b3 h w htab
  · exact c12 a0 a1 a2 a3 b0 b1 b2 b3 h w htab
  · exact c13 a0 a1 a2 a3 b0 b1 b2 b3 h w htab
  · exact c14 a0 a1 a2 a3 b0 b1 b2 b3 h w htab
  · exact c15 a0 a1 a2 a3 b0 b1 b2 b3 h w htab
  · exact c16 a0 a1 a2 a3 b0 b1 b2 b3 h w htab
  · exact c17 a0 a1 a2 a3 b0 b1 b2 b3 h w htab
  · exact c18 a0 a1 a2 a3 b0 b1 b2 b3 h w htab
  · exact c19 a0 a1 a2 a3 b0 b1 b2 b3 h w htab
end Go.Proofs.YtphhdonkpijhhaaGreatDoor.Am.TypesOperators
