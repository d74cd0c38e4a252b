/- Runs of the law on the abstract machine, a case each. -/
import Derived.Test.YtphhdonkpijhhaaGreatDoorTypesOperatorsF
set_option linter.all false
namespace Go.Proofs.YtphhdonkpijhhaaGreatDoor.Am.TypesOperators
open Go.AM
set_option maxRecDepth 100000
theorem r4_0_0_0 : K (R (n 0) (n 31)) (R XT0 (n 0)) (R (n 0) (n 31)) (GM (.ofNat 5) (.ofNat 14) (.ofNat 1) (.ofNat 1) (.ofNat 1)) = true := by kernel_rfl
theorem r4_0_0_1 : K (R (n 0) (n 31)) (R XT0 (n 0)) (R (n 0) (n 31)) (GM (.ofNat 5) (.ofNat 14) (.ofNat 1) (.ofNat 1) (.ofNat 2)) = true := by kernel_rfl
theorem r4_0_0_2 : K (R (n 0) (n 31)) (R XT0 (n 0)) (R (n 0) (n 31)) (GM (.ofNat 5) (.ofNat 14) (.ofNat 1) (.ofNat 1) (.ofNat 3)) = true := by kernel_rfl
theorem r4_0_1_0 : K (R (n 0) (n 31)) (R (n 0) (n 31)) (R (n 0) (n 31)) (GM (.ofNat 5) (.ofNat 14) (.ofNat 1) (.ofNat 2) (.ofNat 1)) = true := by kernel_rfl
theorem r4_0_1_1 : K (R (n 0) (n 31)) (R (n 0) (n 31)) (R (n 0) (n 31)) (GM (.ofNat 5) (.ofNat 14) (.ofNat 1) (.ofNat 2) (.ofNat 2)) = true := by kernel_rfl
theorem r4_0_1_2 : K (R (n 0) (n 31)) (R (n 0) (n 31)) (R (n 0) (n 31)) (GM (.ofNat 5) (.ofNat 14) (.ofNat 1) (.ofNat 2) (.ofNat 3)) = true := by kernel_rfl
theorem r4_0_2_0 : K (R (n 0) (n 31)) (R (n 0) (n 31)) (R (n 0) (n 31)) (GM (.ofNat 5) (.ofNat 14) (.ofNat 1) (.ofNat 3) (.ofNat 1)) = true := by kernel_rfl
theorem r4_0_2_1 : K (R (n 0) (n 31)) (R (n 0) (n 31)) (R (n 0) (n 31)) (GM (.ofNat 5) (.ofNat 14) (.ofNat 1) (.ofNat 3) (.ofNat 2)) = true := by kernel_rfl
theorem r4_0_2_2 : K (R (n 0) (n 31)) (R (n 0) (n 31)) (R (n 0) (n 31)) (GM (.ofNat 5) (.ofNat 14) (.ofNat 1) (.ofNat 3) (.ofNat 3)) = true := by kernel_rfl
theorem r4_1_0_0 : K (R (n 1) (n 0)) (R (n 0) (n 31)) (R (n 0) (n 31)) (GM (.ofNat 5) (.ofNat 14) (.ofNat 2) (.ofNat 1) (.ofNat 1)) = true := by kernel_rfl
theorem r4_1_0_1 : K (R (n 1) (n 0)) (R (n 0) (n 31)) (R (n 0) (n 31)) (GM (.ofNat 5) (.ofNat 14) (.ofNat 2) (.ofNat 1) (.ofNat 2)) = true := by kernel_rfl
theorem r4_1_0_2 : K (R (n 1) (n 0)) (R (n 0) (n 31)) (R (n 0) (n 31)) (GM (.ofNat 5) (.ofNat 14) (.ofNat 2) (.ofNat 1) (.ofNat 3)) = true := by kernel_rfl
theorem r4_1_1_0 : K (R (n 1) (n 0)) (R (n 0) (n 31)) (R (n 0) (n 31)) (GM (.ofNat 5) (.ofNat 14) (.ofNat 2) (.ofNat 2) (.ofNat 1)) = true := by kernel_rfl
theorem r4_1_1_1 : K (R (n 1) (n 0)) (R (n 0) (n 31)) (R (n 0) (n 31)) (GM (.ofNat 5) (.ofNat 14) (.ofNat 2) (.ofNat 2) (.ofNat 2)) = true := by kernel_rfl
theorem r4_1_1_2 : K (R (n 1) (n 0)) (R (n 0) (n 31)) (R (n 0) (n 31)) (GM (.ofNat 5) (.ofNat 14) (.ofNat 2) (.ofNat 2) (.ofNat 3)) = true := by kernel_rfl
theorem r4_1_2_0 : K (R (n 1) (n 0)) (R (n 0) (n 31)) (R (n 0) (n 31)) (GM (.ofNat 5) (.ofNat 14) (.ofNat 2) (.ofNat 3) (.ofNat 1)) = true := by kernel_rfl
theorem r4_1_2_1 : K (R (n 1) (n 0)) (R (n 0) (n 31)) (R (n 0) (n 31)) (GM (.ofNat 5) (.ofNat 14) (.ofNat 2) (.ofNat 3) (.ofNat 2)) = true := by kernel_rfl
theorem r4_1_2_2 : K (R (n 1) (n 0)) (R (n 0) (n 31)) (R (n 0) (n 31)) (GM (.ofNat 5) (.ofNat 14) (.ofNat 2) (.ofNat 3) (.ofNat 3)) = true := by kernel_rfl
theorem r4_2_0_0 : K (R (n 0) (n 31)) (R (n 0) (n 31)) (R XT1 (n 0)) (GM (.ofNat 5) (.ofNat 14) (.ofNat 3) (.ofNat 1) (.ofNat 1)) = true := by kernel_rfl
theorem r4_2_0_1 : K (R (n 0) (n 31)) (R (n 0) (n 31)) (R (n 0) (n 31)) (GM (.ofNat 5) (.ofNat 14) (.ofNat 3) (.ofNat 1) (.ofNat 2)) = true := by kernel_rfl
theorem r4_2_0_2 : K (R (n 0) (n 31)) (R (n 0) (n 31)) (R (n 0) (n 31)) (GM (.ofNat 5) (.ofNat 14) (.ofNat 3) (.ofNat 1) (.ofNat 3)) = true := by kernel_rfl
theorem r4_2_1_0 : K (R (n 0) (n 31)) (R (n 0) (n 31)) (R (n 0) (n 31)) (GM (.ofNat 5) (.ofNat 14) (.ofNat 3) (.ofNat 2) (.ofNat 1)) = true := by kernel_rfl
theorem r4_2_1_1 : K (R (n 0) (n 31)) (R (n 0) (n 31)) (R XT1 (n 0)) (GM (.ofNat 5) (.ofNat 14) (.ofNat 3) (.ofNat 2) (.ofNat 2)) = true := by kernel_rfl
theorem r4_2_1_2 : K (R (n 0) (n 31)) (R (n 0) (n 31)) (R (n 0) (n 31)) (GM (.ofNat 5) (.ofNat 14) (.ofNat 3) (.ofNat 2) (.ofNat 3)) = true := by kernel_rfl
theorem r4_2_2_0 : K (R (n 0) (n 31)) (R (n 0) (n 31)) (R (n 0) (n 31)) (GM (.ofNat 5) (.ofNat 14) (.ofNat 3) (.ofNat 3) (.ofNat 1)) = true := by kernel_rfl
theorem r4_2_2_1 : K (R (n 0) (n 31)) (R (n 0) (n 31)) (R (n 0) (n 31)) (GM (.ofNat 5) (.ofNat 14) (.ofNat 3) (.ofNat 3) (.ofNat 2)) = true := by kernel_rfl
theorem r4_2_2_2 : K (R (n 0) (n 31)) (R (n 0) (n 31)) (R XT1 (n 0)) (GM (.ofNat 5) (.ofNat 14) (.ofNat 3) (.ofNat 3) (.ofNat 3)) = true := by kernel_rfl
theorem r5_0_0_0 : K (R XT0 (n 0)) (R (n 0) (n 31)) (R (n 0) (n 31)) (GM (.ofNat 1) (.ofNat 15) (.ofNat 1) (.ofNat 1) (.ofNat 1)) = true := by kernel_rfl
theorem r5_0_0_1 : K (R XT0 (n 0)) (R (n 0) (n 31)) (R (n 0) (n 31)) (GM (.ofNat 1) (.ofNat 15) (.ofNat 1) (.ofNat 1) (.ofNat 2)) = true := by kernel_rfl
theorem r5_0_0_2 : K (R XT0 (n 0)) (R (n 0) (n 31)) (R (n 0) (n 31)) (GM (.ofNat 1) (.ofNat 15) (.ofNat 1) (.ofNat 1) (.ofNat 3)) = true := by kernel_rfl
theorem r5_0_1_0 : K (R XT0 (n 0)) (R (n 0) (n 31)) (R (n 0) (n 31)) (GM (.ofNat 1) (.ofNat 15) (.ofNat 1) (.ofNat 2) (.ofNat 1)) = true := by kernel_rfl
theorem r5_0_1_1 : K (R XT0 (n 0)) (R (n 0) (n 31)) (R (n 0) (n 31)) (GM (.ofNat 1) (.ofNat 15) (.ofNat 1) (.ofNat 2) (.ofNat 2)) = true := by kernel_rfl
theorem r5_0_1_2 : K (R XT0 (n 0)) (R (n 0) (n 31)) (R (n 0) (n 31)) (GM (.ofNat 1) (.ofNat 15) (.ofNat 1) (.ofNat 2) (.ofNat 3)) = true := by kernel_rfl
theorem r5_0_2_0 : K (R XT0 (n 0)) (R (n 0) (n 31)) (R (n 0) (n 31)) (GM (.ofNat 1) (.ofNat 15) (.ofNat 1) (.ofNat 3) (.ofNat 1)) = true := by kernel_rfl
theorem r5_0_2_1 : K (R XT0 (n 0)) (R (n 0) (n 31)) (R (n 0) (n 31)) (GM (.ofNat 1) (.ofNat 15) (.ofNat 1) (.ofNat 3) (.ofNat 2)) = true := by kernel_rfl
theorem r5_0_2_2 : K (R XT0 (n 0)) (R (n 0) (n 31)) (R (n 0) (n 31)) (GM (.ofNat 1) (.ofNat 15) (.ofNat 1) (.ofNat 3) (.ofNat 3)) = true := by kernel_rfl
theorem r5_1_0_0 : K (R XT0 (n 0)) (R (n 0) (n 31)) (R (n 0) (n 31)) (GM (.ofNat 1) (.ofNat 15) (.ofNat 2) (.ofNat 1) (.ofNat 1)) = true := by kernel_rfl
theorem r5_1_0_1 : K (R XT0 (n 0)) (R (n 0) (n 31)) (R (n 0) (n 31)) (GM (.ofNat 1) (.ofNat 15) (.ofNat 2) (.ofNat 1) (.ofNat 2)) = true := by kernel_rfl
theorem r5_1_0_2 : K (R XT0 (n 0)) (R (n 0) (n 31)) (R (n 0) (n 31)) (GM (.ofNat 1) (.ofNat 15) (.ofNat 2) (.ofNat 1) (.ofNat 3)) = true := by kernel_rfl
theorem r5_1_1_0 : K (R XT0 (n 0)) (R XT0 (n 0)) (R (n 0) (n 31)) (GM (.ofNat 1) (.ofNat 15) (.ofNat 2) (.ofNat 2) (.ofNat 1)) = true := by kernel_rfl
theorem r5_1_1_1 : K (R XT0 (n 0)) (R XT0 (n 0)) (R (n 0) (n 31)) (GM (.ofNat 1) (.ofNat 15) (.ofNat 2) (.ofNat 2) (.ofNat 2)) = true := by kernel_rfl
theorem r5_1_1_2 : K (R XT0 (n 0)) (R XT0 (n 0)) (R (n 0) (n 31)) (GM (.ofNat 1) (.ofNat 15) (.ofNat 2) (.ofNat 2) (.ofNat 3)) = true := by kernel_rfl
theorem r5_1_2_0 : K (R XT0 (n 0)) (R (n 0) (n 31)) (R (n 0) (n 31)) (GM (.ofNat 1) (.ofNat 15) (.ofNat 2) (.ofNat 3) (.ofNat 1)) = true := by kernel_rfl
theorem r5_1_2_1 : K (R XT0 (n 0)) (R (n 0) (n 31)) (R (n 0) (n 31)) (GM (.ofNat 1) (.ofNat 15) (.ofNat 2) (.ofNat 3) (.ofNat 2)) = true := by kernel_rfl
theorem r5_1_2_2 : K (R XT0 (n 0)) (R (n 0) (n 31)) (R (n 0) (n 31)) (GM (.ofNat 1) (.ofNat 15) (.ofNat 2) (.ofNat 3) (.ofNat 3)) = true := by kernel_rfl
theorem r5_2_0_0 : K (R (n 0) (n 31)) (R (n 0) (n 31)) (R XT1 (n 0)) (GM (.ofNat 1) (.ofNat 15) (.ofNat 3) (.ofNat 1) (.ofNat 1)) = true := by kernel_rfl
theorem r5_2_0_1 : K (R (n 0) (n 31)) (R (n 0) (n 31)) (R (n 0) (n 31)) (GM (.ofNat 1) (.ofNat 15) (.ofNat 3) (.ofNat 1) (.ofNat 2)) = true := by kernel_rfl
theorem r5_2_0_2 : K (R (n 0) (n 31)) (R (n 0) (n 31)) (R (n 0) (n 31)) (GM (.ofNat 1) (.ofNat 15) (.ofNat 3) (.ofNat 1) (.ofNat 3)) = true := by kernel_rfl
theorem r5_2_1_0 : K (R (n 0) (n 31)) (R (n 0) (n 31)) (R (n 0) (n 31)) (GM (.ofNat 1) (.ofNat 15) (.ofNat 3) (.ofNat 2) (.ofNat 1)) = true := by kernel_rfl
theorem r5_2_1_1 : K (R (n 0) (n 31)) (R (n 0) (n 31)) (R XT1 (n 0)) (GM (.ofNat 1) (.ofNat 15) (.ofNat 3) (.ofNat 2) (.ofNat 2)) = true := by kernel_rfl
theorem r5_2_1_2 : K (R (n 0) (n 31)) (R (n 0) (n 31)) (R (n 0) (n 31)) (GM (.ofNat 1) (.ofNat 15) (.ofNat 3) (.ofNat 2) (.ofNat 3)) = true := by kernel_rfl
theorem r5_2_2_0 : K (R (n 0) (n 31)) (R (n 0) (n 31)) (R (n 0) (n 31)) (GM (.ofNat 1) (.ofNat 15) (.ofNat 3) (.ofNat 3) (.ofNat 1)) = true := by kernel_rfl
theorem r5_2_2_1 : K (R (n 0) (n 31)) (R (n 0) (n 31)) (R (n 0) (n 31)) (GM (.ofNat 1) (.ofNat 15) (.ofNat 3) (.ofNat 3) (.ofNat 2)) = true := by kernel_rfl
theorem r5_2_2_2 : K (R (n 0) (n 31)) (R (n 0) (n 31)) (R XT1 (n 0)) (GM (.ofNat 1) (.ofNat 15) (.ofNat 3) (.ofNat 3) (.ofNat 3)) = true := by kernel_rfl
theorem r6_0_0_0 : K (R XT0 (n 0)) (R (n 0) (n 31)) (R (n 0) (n 31)) (GM (.ofNat 2) (.ofNat 16) (.ofNat 1) (.ofNat 1) (.ofNat 1)) = true := by kernel_rfl
theorem r6_0_0_1 : K (R XT0 (n 0)) (R (n 0) (n 31)) (R (n 0) (n 31)) (GM (.ofNat 2) (.ofNat 16) (.ofNat 1) (.ofNat 1) (.ofNat 2)) = true := by kernel_rfl
theorem r6_0_0_2 : K (R XT0 (n 0)) (R (n 0) (n 31)) (R (n 0) (n 31)) (GM (.ofNat 2) (.ofNat 16) (.ofNat 1) (.ofNat 1) (.ofNat 3)) = true := by kernel_rfl
theorem r6_0_1_0 : K (R XT0 (n 0)) (R (n 0) (n 31)) (R (n 0) (n 31)) (GM (.ofNat 2) (.ofNat 16) (.ofNat 1) (.ofNat 2) (.ofNat 1)) = true := by kernel_rfl
theorem r6_0_1_1 : K (R XT0 (n 0)) (R (n 0) (n 31)) (R (n 0) (n 31)) (GM (.ofNat 2) (.ofNat 16) (.ofNat 1) (.ofNat 2) (.ofNat 2)) = true := by kernel_rfl
theorem r6_0_1_2 : K (R XT0 (n 0)) (R (n 0) (n 31)) (R (n 0) (n 31)) (GM (.ofNat 2) (.ofNat 16) (.ofNat 1) (.ofNat 2) (.ofNat 3)) = true := by kernel_rfl
theorem r6_0_2_0 : K (R XT0 (n 0)) (R (n 0) (n 31)) (R (n 0) (n 31)) (GM (.ofNat 2) (.ofNat 16) (.ofNat 1) (.ofNat 3) (.ofNat 1)) = true := by kernel_rfl
theorem r6_0_2_1 : K (R XT0 (n 0)) (R (n 0) (n 31)) (R (n 0) (n 31)) (GM (.ofNat 2) (.ofNat 16) (.ofNat 1) (.ofNat 3) (.ofNat 2)) = true := by kernel_rfl
theorem r6_0_2_2 : K (R XT0 (n 0)) (R (n 0) (n 31)) (R (n 0) (n 31)) (GM (.ofNat 2) (.ofNat 16) (.ofNat 1) (.ofNat 3) (.ofNat 3)) = true := by kernel_rfl
theorem r6_1_0_0 : K (R (n 0) (n 31)) (R (n 0) (n 31)) (R (n 0) (n 31)) (GM (.ofNat 2) (.ofNat 16) (.ofNat 2) (.ofNat 1) (.ofNat 1)) = true := by kernel_rfl
theorem r6_1_0_1 : K (R (n 0) (n 31)) (R (n 0) (n 31)) (R (n 0) (n 31)) (GM (.ofNat 2) (.ofNat 16) (.ofNat 2) (.ofNat 1) (.ofNat 2)) = true := by kernel_rfl
theorem r6_1_0_2 : K (R (n 0) (n 31)) (R (n 0) (n 31)) (R (n 0) (n 31)) (GM (.ofNat 2) (.ofNat 16) (.ofNat 2) (.ofNat 1) (.ofNat 3)) = true := by kernel_rfl
theorem r6_1_1_0 : K (R (n 0) (n 31)) (R XT0 (n 0)) (R (n 0) (n 31)) (GM (.ofNat 2) (.ofNat 16) (.ofNat 2) (.ofNat 2) (.ofNat 1)) = true := by kernel_rfl
theorem r6_1_1_1 : K (R (n 0) (n 31)) (R XT0 (n 0)) (R (n 0) (n 31)) (GM (.ofNat 2) (.ofNat 16) (.ofNat 2) (.ofNat 2) (.ofNat 2)) = true := by kernel_rfl
theorem r6_1_1_2 : K (R (n 0) (n 31)) (R XT0 (n 0)) (R (n 0) (n 31)) (GM (.ofNat 2) (.ofNat 16) (.ofNat 2) (.ofNat 2) (.ofNat 3)) = true := by kernel_rfl
theorem r6_1_2_0 : K (R (n 0) (n 31)) (R (n 0) (n 31)) (R (n 0) (n 31)) (GM (.ofNat 2) (.ofNat 16) (.ofNat 2) (.ofNat 3) (.ofNat 1)) = true := by kernel_rfl
theorem r6_1_2_1 : K (R (n 0) (n 31)) (R (n 0) (n 31)) (R (n 0) (n 31)) (GM (.ofNat 2) (.ofNat 16) (.ofNat 2) (.ofNat 3) (.ofNat 2)) = true := by kernel_rfl
theorem r6_1_2_2 : K (R (n 0) (n 31)) (R (n 0) (n 31)) (R (n 0) (n 31)) (GM (.ofNat 2) (.ofNat 16) (.ofNat 2) (.ofNat 3) (.ofNat 3)) = true := by kernel_rfl
theorem r6_2_0_0 : K (R XT0 (n 0)) (R (n 0) (n 31)) (R XT1 (n 0)) (GM (.ofNat 2) (.ofNat 16) (.ofNat 3) (.ofNat 1) (.ofNat 1)) = true := by kernel_rfl
theorem r6_2_0_1 : K (R XT0 (n 0)) (R (n 0) (n 31)) (R (n 0) (n 31)) (GM (.ofNat 2) (.ofNat 16) (.ofNat 3) (.ofNat 1) (.ofNat 2)) = true := by kernel_rfl
theorem r6_2_0_2 : K (R XT0 (n 0)) (R (n 0) (n 31)) (R (n 0) (n 31)) (GM (.ofNat 2) (.ofNat 16) (.ofNat 3) (.ofNat 1) (.ofNat 3)) = true := by kernel_rfl
theorem r6_2_1_0 : K (R XT0 (n 0)) (R (n 0) (n 31)) (R (n 0) (n 31)) (GM (.ofNat 2) (.ofNat 16) (.ofNat 3) (.ofNat 2) (.ofNat 1)) = true := by kernel_rfl
theorem r6_2_1_1 : K (R XT0 (n 0)) (R (n 0) (n 31)) (R XT1 (n 0)) (GM (.ofNat 2) (.ofNat 16) (.ofNat 3) (.ofNat 2) (.ofNat 2)) = true := by kernel_rfl
theorem r6_2_1_2 : K (R XT0 (n 0)) (R (n 0) (n 31)) (R (n 0) (n 31)) (GM (.ofNat 2) (.ofNat 16) (.ofNat 3) (.ofNat 2) (.ofNat 3)) = true := by kernel_rfl
theorem r6_2_2_0 : K (R XT0 (n 0)) (R (n 0) (n 31)) (R (n 0) (n 31)) (GM (.ofNat 2) (.ofNat 16) (.ofNat 3) (.ofNat 3) (.ofNat 1)) = true := by kernel_rfl
theorem r6_2_2_1 : K (R XT0 (n 0)) (R (n 0) (n 31)) (R (n 0) (n 31)) (GM (.ofNat 2) (.ofNat 16) (.ofNat 3) (.ofNat 3) (.ofNat 2)) = true := by kernel_rfl
theorem r6_2_2_2 : K (R XT0 (n 0)) (R (n 0) (n 31)) (R XT1 (n 0)) (GM (.ofNat 2) (.ofNat 16) (.ofNat 3) (.ofNat 3) (.ofNat 3)) = true := by kernel_rfl
theorem r7_0_0_0 : K (R XT0 (n 0)) (R XT0 (n 0)) (R (n 0) (n 31)) (GM (.ofNat 3) (.ofNat 17) (.ofNat 1) (.ofNat 1) (.ofNat 1)) = true := by kernel_rfl
theorem r7_0_0_1 : K (R XT0 (n 0)) (R XT0 (n 0)) (R (n 0) (n 31)) (GM (.ofNat 3) (.ofNat 17) (.ofNat 1) (.ofNat 1) (.ofNat 2)) = true := by kernel_rfl
theorem r7_0_0_2 : K (R XT0 (n 0)) (R XT0 (n 0)) (R (n 0) (n 31)) (GM (.ofNat 3) (.ofNat 17) (.ofNat 1) (.ofNat 1) (.ofNat 3)) = true := by kernel_rfl
theorem r7_0_1_0 : K (R XT0 (n 0)) (R (n 0) (n 31)) (R (n 0) (n 31)) (GM (.ofNat 3) (.ofNat 17) (.ofNat 1) (.ofNat 2) (.ofNat 1)) = true := by kernel_rfl
theorem r7_0_1_1 : K (R XT0 (n 0)) (R (n 0) (n 31)) (R (n 0) (n 31)) (GM (.ofNat 3) (.ofNat 17) (.ofNat 1) (.ofNat 2) (.ofNat 2)) = true := by kernel_rfl
theorem r7_0_1_2 : K (R XT0 (n 0)) (R (n 0) (n 31)) (R (n 0) (n 31)) (GM (.ofNat 3) (.ofNat 17) (.ofNat 1) (.ofNat 2) (.ofNat 3)) = true := by kernel_rfl
theorem r7_0_2_0 : K (R XT0 (n 0)) (R (n 0) (n 31)) (R (n 0) (n 31)) (GM (.ofNat 3) (.ofNat 17) (.ofNat 1) (.ofNat 3) (.ofNat 1)) = true := by kernel_rfl
theorem r7_0_2_1 : K (R XT0 (n 0)) (R (n 0) (n 31)) (R (n 0) (n 31)) (GM (.ofNat 3) (.ofNat 17) (.ofNat 1) (.ofNat 3) (.ofNat 2)) = true := by kernel_rfl
theorem r7_0_2_2 : K (R XT0 (n 0)) (R (n 0) (n 31)) (R (n 0) (n 31)) (GM (.ofNat 3) (.ofNat 17) (.ofNat 1) (.ofNat 3) (.ofNat 3)) = true := by kernel_rfl
theorem r7_1_0_0 : K (R XT0 (n 0)) (R (n 0) (n 31)) (R (n 0) (n 31)) (GM (.ofNat 3) (.ofNat 17) (.ofNat 2) (.ofNat 1) (.ofNat 1)) = true := by kernel_rfl
theorem r7_1_0_1 : K (R XT0 (n 0)) (R (n 0) (n 31)) (R (n 0) (n 31)) (GM (.ofNat 3) (.ofNat 17) (.ofNat 2) (.ofNat 1) (.ofNat 2)) = true := by kernel_rfl
theorem r7_1_0_2 : K (R XT0 (n 0)) (R (n 0) (n 31)) (R (n 0) (n 31)) (GM (.ofNat 3) (.ofNat 17) (.ofNat 2) (.ofNat 1) (.ofNat 3)) = true := by kernel_rfl
theorem r7_1_1_0 : K (R XT0 (n 0)) (R (n 0) (n 31)) (R (n 0) (n 31)) (GM (.ofNat 3) (.ofNat 17) (.ofNat 2) (.ofNat 2) (.ofNat 1)) = true := by kernel_rfl
theorem r7_1_1_1 : K (R XT0 (n 0)) (R (n 0) (n 31)) (R (n 0) (n 31)) (GM (.ofNat 3) (.ofNat 17) (.ofNat 2) (.ofNat 2) (.ofNat 2)) = true := by kernel_rfl
theorem r7_1_1_2 : K (R XT0 (n 0)) (R (n 0) (n 31)) (R (n 0) (n 31)) (GM (.ofNat 3) (.ofNat 17) (.ofNat 2) (.ofNat 2) (.ofNat 3)) = true := by kernel_rfl
theorem r7_1_2_0 : K (R XT0 (n 0)) (R (n 0) (n 31)) (R (n 0) (n 31)) (GM (.ofNat 3) (.ofNat 17) (.ofNat 2) (.ofNat 3) (.ofNat 1)) = true := by kernel_rfl
theorem r7_1_2_1 : K (R XT0 (n 0)) (R (n 0) (n 31)) (R (n 0) (n 31)) (GM (.ofNat 3) (.ofNat 17) (.ofNat 2) (.ofNat 3) (.ofNat 2)) = true := by kernel_rfl
theorem r7_1_2_2 : K (R XT0 (n 0)) (R (n 0) (n 31)) (R (n 0) (n 31)) (GM (.ofNat 3) (.ofNat 17) (.ofNat 2) (.ofNat 3) (.ofNat 3)) = true := by kernel_rfl
theorem r7_2_0_0 : K (R (n 0) (n 31)) (R (n 0) (n 31)) (R XT1 (n 0)) (GM (.ofNat 3) (.ofNat 17) (.ofNat 3) (.ofNat 1) (.ofNat 1)) = true := by kernel_rfl
theorem r7_2_0_1 : K (R (n 0) (n 31)) (R (n 0) (n 31)) (R (n 0) (n 31)) (GM (.ofNat 3) (.ofNat 17) (.ofNat 3) (.ofNat 1) (.ofNat 2)) = true := by kernel_rfl
theorem r7_2_0_2 : K (R (n 0) (n 31)) (R (n 0) (n 31)) (R (n 0) (n 31)) (GM (.ofNat 3) (.ofNat 17) (.ofNat 3) (.ofNat 1) (.ofNat 3)) = true := by kernel_rfl
theorem r7_2_1_0 : K (R (n 0) (n 31)) (R (n 0) (n 31)) (R (n 0) (n 31)) (GM (.ofNat 3) (.ofNat 17) (.ofNat 3) (.ofNat 2) (.ofNat 1)) = true := by kernel_rfl
theorem r7_2_1_1 : K (R (n 0) (n 31)) (R (n 0) (n 31)) (R XT1 (n 0)) (GM (.ofNat 3) (.ofNat 17) (.ofNat 3) (.ofNat 2) (.ofNat 2)) = true := by kernel_rfl
theorem r7_2_1_2 : K (R (n 0) (n 31)) (R (n 0) (n 31)) (R (n 0) (n 31)) (GM (.ofNat 3) (.ofNat 17) (.ofNat 3) (.ofNat 2) (.ofNat 3)) = true := by kernel_rfl
theorem r7_2_2_0 : K (R (n 0) (n 31)) (R XT0 (n 0)) (R (n 0) (n 31)) (GM (.ofNat 3) (.ofNat 17) (.ofNat 3) (.ofNat 3) (.ofNat 1)) = true := by kernel_rfl
theorem r7_2_2_1 : K (R (n 0) (n 31)) (R XT0 (n 0)) (R (n 0) (n 31)) (GM (.ofNat 3) (.ofNat 17) (.ofNat 3) (.ofNat 3) (.ofNat 2)) = true := by kernel_rfl
theorem r7_2_2_2 : K (R (n 0) (n 31)) (R XT0 (n 0)) (R XT1 (n 0)) (GM (.ofNat 3) (.ofNat 17) (.ofNat 3) (.ofNat 3) (.ofNat 3)) = true := by kernel_rfl
end Go.Proofs.YtphhdonkpijhhaaGreatDoor.Am.TypesOperators
