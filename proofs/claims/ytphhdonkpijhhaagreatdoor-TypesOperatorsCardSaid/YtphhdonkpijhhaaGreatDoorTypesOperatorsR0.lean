/- Runs of the law on the abstract machine, a case each. -/
import Derived.Test.YtphhdonkpijhhaaGreatDoorTypesOperatorsF
set_option linter.all false
namespace Go.Proofs.YtphhdonkpijhhaaGreatDoor.Am.TypesOperators
open Go.AM
set_option maxRecDepth 100000
theorem r0_0_0_0 : K (R XT0 (n 0)) (R XT0 (n 0)) (R (n 0) (n 31)) (GM (.ofNat 1) (.ofNat 10) (.ofNat 1) (.ofNat 1) (.ofNat 1)) = true := by kernel_rfl
theorem r0_0_0_1 : K (R XT0 (n 0)) (R XT0 (n 0)) (R (n 0) (n 31)) (GM (.ofNat 1) (.ofNat 10) (.ofNat 1) (.ofNat 1) (.ofNat 2)) = true := by kernel_rfl
theorem r0_0_0_2 : K (R XT0 (n 0)) (R XT0 (n 0)) (R (n 0) (n 31)) (GM (.ofNat 1) (.ofNat 10) (.ofNat 1) (.ofNat 1) (.ofNat 3)) = true := by kernel_rfl
theorem r0_0_1_0 : K (R XT0 (n 0)) (R (n 0) (n 31)) (R (n 0) (n 31)) (GM (.ofNat 1) (.ofNat 10) (.ofNat 1) (.ofNat 2) (.ofNat 1)) = true := by kernel_rfl
theorem r0_0_1_1 : K (R XT0 (n 0)) (R (n 0) (n 31)) (R (n 0) (n 31)) (GM (.ofNat 1) (.ofNat 10) (.ofNat 1) (.ofNat 2) (.ofNat 2)) = true := by kernel_rfl
theorem r0_0_1_2 : K (R XT0 (n 0)) (R (n 0) (n 31)) (R (n 0) (n 31)) (GM (.ofNat 1) (.ofNat 10) (.ofNat 1) (.ofNat 2) (.ofNat 3)) = true := by kernel_rfl
theorem r0_0_2_0 : K (R XT0 (n 0)) (R (n 0) (n 31)) (R (n 0) (n 31)) (GM (.ofNat 1) (.ofNat 10) (.ofNat 1) (.ofNat 3) (.ofNat 1)) = true := by kernel_rfl
theorem r0_0_2_1 : K (R XT0 (n 0)) (R (n 0) (n 31)) (R (n 0) (n 31)) (GM (.ofNat 1) (.ofNat 10) (.ofNat 1) (.ofNat 3) (.ofNat 2)) = true := by kernel_rfl
theorem r0_0_2_2 : K (R XT0 (n 0)) (R (n 0) (n 31)) (R (n 0) (n 31)) (GM (.ofNat 1) (.ofNat 10) (.ofNat 1) (.ofNat 3) (.ofNat 3)) = true := by kernel_rfl
theorem r0_1_0_0 : K (R XT0 (n 0)) (R (n 0) (n 31)) (R (n 0) (n 31)) (GM (.ofNat 1) (.ofNat 10) (.ofNat 2) (.ofNat 1) (.ofNat 1)) = true := by kernel_rfl
theorem r0_1_0_1 : K (R XT0 (n 0)) (R (n 0) (n 31)) (R (n 0) (n 31)) (GM (.ofNat 1) (.ofNat 10) (.ofNat 2) (.ofNat 1) (.ofNat 2)) = true := by kernel_rfl
theorem r0_1_0_2 : K (R XT0 (n 0)) (R (n 0) (n 31)) (R (n 0) (n 31)) (GM (.ofNat 1) (.ofNat 10) (.ofNat 2) (.ofNat 1) (.ofNat 3)) = true := by kernel_rfl
theorem r0_1_1_0 : K (R XT0 (n 0)) (R XT0 (n 0)) (R (n 0) (n 31)) (GM (.ofNat 1) (.ofNat 10) (.ofNat 2) (.ofNat 2) (.ofNat 1)) = true := by kernel_rfl
theorem r0_1_1_1 : K (R XT0 (n 0)) (R XT0 (n 0)) (R (n 0) (n 31)) (GM (.ofNat 1) (.ofNat 10) (.ofNat 2) (.ofNat 2) (.ofNat 2)) = true := by kernel_rfl
theorem r0_1_1_2 : K (R XT0 (n 0)) (R XT0 (n 0)) (R (n 0) (n 31)) (GM (.ofNat 1) (.ofNat 10) (.ofNat 2) (.ofNat 2) (.ofNat 3)) = true := by kernel_rfl
theorem r0_1_2_0 : K (R XT0 (n 0)) (R (n 0) (n 31)) (R (n 0) (n 31)) (GM (.ofNat 1) (.ofNat 10) (.ofNat 2) (.ofNat 3) (.ofNat 1)) = true := by kernel_rfl
theorem r0_1_2_1 : K (R XT0 (n 0)) (R (n 0) (n 31)) (R (n 0) (n 31)) (GM (.ofNat 1) (.ofNat 10) (.ofNat 2) (.ofNat 3) (.ofNat 2)) = true := by kernel_rfl
theorem r0_1_2_2 : K (R XT0 (n 0)) (R (n 0) (n 31)) (R (n 0) (n 31)) (GM (.ofNat 1) (.ofNat 10) (.ofNat 2) (.ofNat 3) (.ofNat 3)) = true := by kernel_rfl
theorem r0_2_0_0 : K (R (n 0) (n 31)) (R (n 0) (n 31)) (R XT1 (n 0)) (GM (.ofNat 1) (.ofNat 10) (.ofNat 3) (.ofNat 1) (.ofNat 1)) = true := by kernel_rfl
theorem r0_2_0_1 : K (R (n 0) (n 31)) (R (n 0) (n 31)) (R (n 0) (n 31)) (GM (.ofNat 1) (.ofNat 10) (.ofNat 3) (.ofNat 1) (.ofNat 2)) = true := by kernel_rfl
theorem r0_2_0_2 : K (R (n 0) (n 31)) (R (n 0) (n 31)) (R (n 0) (n 31)) (GM (.ofNat 1) (.ofNat 10) (.ofNat 3) (.ofNat 1) (.ofNat 3)) = true := by kernel_rfl
theorem r0_2_1_0 : K (R (n 0) (n 31)) (R (n 0) (n 31)) (R (n 0) (n 31)) (GM (.ofNat 1) (.ofNat 10) (.ofNat 3) (.ofNat 2) (.ofNat 1)) = true := by kernel_rfl
theorem r0_2_1_1 : K (R (n 0) (n 31)) (R (n 0) (n 31)) (R XT1 (n 0)) (GM (.ofNat 1) (.ofNat 10) (.ofNat 3) (.ofNat 2) (.ofNat 2)) = true := by kernel_rfl
theorem r0_2_1_2 : K (R (n 0) (n 31)) (R (n 0) (n 31)) (R (n 0) (n 31)) (GM (.ofNat 1) (.ofNat 10) (.ofNat 3) (.ofNat 2) (.ofNat 3)) = true := by kernel_rfl
theorem r0_2_2_0 : K (R (n 0) (n 31)) (R (n 0) (n 31)) (R (n 0) (n 31)) (GM (.ofNat 1) (.ofNat 10) (.ofNat 3) (.ofNat 3) (.ofNat 1)) = true := by kernel_rfl
theorem r0_2_2_1 : K (R (n 0) (n 31)) (R (n 0) (n 31)) (R (n 0) (n 31)) (GM (.ofNat 1) (.ofNat 10) (.ofNat 3) (.ofNat 3) (.ofNat 2)) = true := by kernel_rfl
theorem r0_2_2_2 : K (R (n 0) (n 31)) (R (n 0) (n 31)) (R XT1 (n 0)) (GM (.ofNat 1) (.ofNat 10) (.ofNat 3) (.ofNat 3) (.ofNat 3)) = true := by kernel_rfl
theorem r1_0_0_0 : K (R XT0 (n 0)) (R XT0 (n 0)) (R (n 0) (n 31)) (GM (.ofNat 2) (.ofNat 11) (.ofNat 1) (.ofNat 1) (.ofNat 1)) = true := by kernel_rfl
theorem r1_0_0_1 : K (R XT0 (n 0)) (R XT0 (n 0)) (R (n 0) (n 31)) (GM (.ofNat 2) (.ofNat 11) (.ofNat 1) (.ofNat 1) (.ofNat 2)) = true := by kernel_rfl
theorem r1_0_0_2 : K (R XT0 (n 0)) (R XT0 (n 0)) (R (n 0) (n 31)) (GM (.ofNat 2) (.ofNat 11) (.ofNat 1) (.ofNat 1) (.ofNat 3)) = true := by kernel_rfl
theorem r1_0_1_0 : K (R XT0 (n 0)) (R (n 0) (n 31)) (R (n 0) (n 31)) (GM (.ofNat 2) (.ofNat 11) (.ofNat 1) (.ofNat 2) (.ofNat 1)) = true := by kernel_rfl
theorem r1_0_1_1 : K (R XT0 (n 0)) (R (n 0) (n 31)) (R (n 0) (n 31)) (GM (.ofNat 2) (.ofNat 11) (.ofNat 1) (.ofNat 2) (.ofNat 2)) = true := by kernel_rfl
theorem r1_0_1_2 : K (R XT0 (n 0)) (R (n 0) (n 31)) (R (n 0) (n 31)) (GM (.ofNat 2) (.ofNat 11) (.ofNat 1) (.ofNat 2) (.ofNat 3)) = true := by kernel_rfl
theorem r1_0_2_0 : K (R XT0 (n 0)) (R (n 0) (n 31)) (R (n 0) (n 31)) (GM (.ofNat 2) (.ofNat 11) (.ofNat 1) (.ofNat 3) (.ofNat 1)) = true := by kernel_rfl
theorem r1_0_2_1 : K (R XT0 (n 0)) (R (n 0) (n 31)) (R (n 0) (n 31)) (GM (.ofNat 2) (.ofNat 11) (.ofNat 1) (.ofNat 3) (.ofNat 2)) = true := by kernel_rfl
theorem r1_0_2_2 : K (R XT0 (n 0)) (R (n 0) (n 31)) (R (n 0) (n 31)) (GM (.ofNat 2) (.ofNat 11) (.ofNat 1) (.ofNat 3) (.ofNat 3)) = true := by kernel_rfl
theorem r1_1_0_0 : K (R (n 0) (n 31)) (R (n 0) (n 31)) (R (n 0) (n 31)) (GM (.ofNat 2) (.ofNat 11) (.ofNat 2) (.ofNat 1) (.ofNat 1)) = true := by kernel_rfl
theorem r1_1_0_1 : K (R (n 0) (n 31)) (R (n 0) (n 31)) (R (n 0) (n 31)) (GM (.ofNat 2) (.ofNat 11) (.ofNat 2) (.ofNat 1) (.ofNat 2)) = true := by kernel_rfl
theorem r1_1_0_2 : K (R (n 0) (n 31)) (R (n 0) (n 31)) (R (n 0) (n 31)) (GM (.ofNat 2) (.ofNat 11) (.ofNat 2) (.ofNat 1) (.ofNat 3)) = true := by kernel_rfl
theorem r1_1_1_0 : K (R (n 0) (n 31)) (R XT0 (n 0)) (R (n 0) (n 31)) (GM (.ofNat 2) (.ofNat 11) (.ofNat 2) (.ofNat 2) (.ofNat 1)) = true := by kernel_rfl
theorem r1_1_1_1 : K (R (n 0) (n 31)) (R XT0 (n 0)) (R (n 0) (n 31)) (GM (.ofNat 2) (.ofNat 11) (.ofNat 2) (.ofNat 2) (.ofNat 2)) = true := by kernel_rfl
theorem r1_1_1_2 : K (R (n 0) (n 31)) (R XT0 (n 0)) (R (n 0) (n 31)) (GM (.ofNat 2) (.ofNat 11) (.ofNat 2) (.ofNat 2) (.ofNat 3)) = true := by kernel_rfl
theorem r1_1_2_0 : K (R (n 0) (n 31)) (R (n 0) (n 31)) (R (n 0) (n 31)) (GM (.ofNat 2) (.ofNat 11) (.ofNat 2) (.ofNat 3) (.ofNat 1)) = true := by kernel_rfl
theorem r1_1_2_1 : K (R (n 0) (n 31)) (R (n 0) (n 31)) (R (n 0) (n 31)) (GM (.ofNat 2) (.ofNat 11) (.ofNat 2) (.ofNat 3) (.ofNat 2)) = true := by kernel_rfl
theorem r1_1_2_2 : K (R (n 0) (n 31)) (R (n 0) (n 31)) (R (n 0) (n 31)) (GM (.ofNat 2) (.ofNat 11) (.ofNat 2) (.ofNat 3) (.ofNat 3)) = true := by kernel_rfl
theorem r1_2_0_0 : K (R XT0 (n 0)) (R (n 0) (n 31)) (R XT1 (n 0)) (GM (.ofNat 2) (.ofNat 11) (.ofNat 3) (.ofNat 1) (.ofNat 1)) = true := by kernel_rfl
theorem r1_2_0_1 : K (R XT0 (n 0)) (R (n 0) (n 31)) (R (n 0) (n 31)) (GM (.ofNat 2) (.ofNat 11) (.ofNat 3) (.ofNat 1) (.ofNat 2)) = true := by kernel_rfl
theorem r1_2_0_2 : K (R XT0 (n 0)) (R (n 0) (n 31)) (R (n 0) (n 31)) (GM (.ofNat 2) (.ofNat 11) (.ofNat 3) (.ofNat 1) (.ofNat 3)) = true := by kernel_rfl
theorem r1_2_1_0 : K (R XT0 (n 0)) (R (n 0) (n 31)) (R (n 0) (n 31)) (GM (.ofNat 2) (.ofNat 11) (.ofNat 3) (.ofNat 2) (.ofNat 1)) = true := by kernel_rfl
theorem r1_2_1_1 : K (R XT0 (n 0)) (R (n 0) (n 31)) (R XT1 (n 0)) (GM (.ofNat 2) (.ofNat 11) (.ofNat 3) (.ofNat 2) (.ofNat 2)) = true := by kernel_rfl
theorem r1_2_1_2 : K (R XT0 (n 0)) (R (n 0) (n 31)) (R (n 0) (n 31)) (GM (.ofNat 2) (.ofNat 11) (.ofNat 3) (.ofNat 2) (.ofNat 3)) = true := by kernel_rfl
theorem r1_2_2_0 : K (R XT0 (n 0)) (R (n 0) (n 31)) (R (n 0) (n 31)) (GM (.ofNat 2) (.ofNat 11) (.ofNat 3) (.ofNat 3) (.ofNat 1)) = true := by kernel_rfl
theorem r1_2_2_1 : K (R XT0 (n 0)) (R (n 0) (n 31)) (R (n 0) (n 31)) (GM (.ofNat 2) (.ofNat 11) (.ofNat 3) (.ofNat 3) (.ofNat 2)) = true := by kernel_rfl
theorem r1_2_2_2 : K (R XT0 (n 0)) (R (n 0) (n 31)) (R XT1 (n 0)) (GM (.ofNat 2) (.ofNat 11) (.ofNat 3) (.ofNat 3) (.ofNat 3)) = true := by kernel_rfl
theorem r2_0_0_0 : K (R XT0 (n 0)) (R XT0 (n 0)) (R (n 0) (n 31)) (GM (.ofNat 3) (.ofNat 12) (.ofNat 1) (.ofNat 1) (.ofNat 1)) = true := by kernel_rfl
theorem r2_0_0_1 : K (R XT0 (n 0)) (R XT0 (n 0)) (R (n 0) (n 31)) (GM (.ofNat 3) (.ofNat 12) (.ofNat 1) (.ofNat 1) (.ofNat 2)) = true := by kernel_rfl
theorem r2_0_0_2 : K (R XT0 (n 0)) (R XT0 (n 0)) (R (n 0) (n 31)) (GM (.ofNat 3) (.ofNat 12) (.ofNat 1) (.ofNat 1) (.ofNat 3)) = true := by kernel_rfl
theorem r2_0_1_0 : K (R XT0 (n 0)) (R (n 0) (n 31)) (R (n 0) (n 31)) (GM (.ofNat 3) (.ofNat 12) (.ofNat 1) (.ofNat 2) (.ofNat 1)) = true := by kernel_rfl
theorem r2_0_1_1 : K (R XT0 (n 0)) (R (n 0) (n 31)) (R (n 0) (n 31)) (GM (.ofNat 3) (.ofNat 12) (.ofNat 1) (.ofNat 2) (.ofNat 2)) = true := by kernel_rfl
theorem r2_0_1_2 : K (R XT0 (n 0)) (R (n 0) (n 31)) (R (n 0) (n 31)) (GM (.ofNat 3) (.ofNat 12) (.ofNat 1) (.ofNat 2) (.ofNat 3)) = true := by kernel_rfl
theorem r2_0_2_0 : K (R XT0 (n 0)) (R (n 0) (n 31)) (R (n 0) (n 31)) (GM (.ofNat 3) (.ofNat 12) (.ofNat 1) (.ofNat 3) (.ofNat 1)) = true := by kernel_rfl
theorem r2_0_2_1 : K (R XT0 (n 0)) (R (n 0) (n 31)) (R (n 0) (n 31)) (GM (.ofNat 3) (.ofNat 12) (.ofNat 1) (.ofNat 3) (.ofNat 2)) = true := by kernel_rfl
theorem r2_0_2_2 : K (R XT0 (n 0)) (R (n 0) (n 31)) (R (n 0) (n 31)) (GM (.ofNat 3) (.ofNat 12) (.ofNat 1) (.ofNat 3) (.ofNat 3)) = true := by kernel_rfl
theorem r2_1_0_0 : K (R XT0 (n 0)) (R (n 0) (n 31)) (R (n 0) (n 31)) (GM (.ofNat 3) (.ofNat 12) (.ofNat 2) (.ofNat 1) (.ofNat 1)) = true := by kernel_rfl
theorem r2_1_0_1 : K (R XT0 (n 0)) (R (n 0) (n 31)) (R (n 0) (n 31)) (GM (.ofNat 3) (.ofNat 12) (.ofNat 2) (.ofNat 1) (.ofNat 2)) = true := by kernel_rfl
theorem r2_1_0_2 : K (R XT0 (n 0)) (R (n 0) (n 31)) (R (n 0) (n 31)) (GM (.ofNat 3) (.ofNat 12) (.ofNat 2) (.ofNat 1) (.ofNat 3)) = true := by kernel_rfl
theorem r2_1_1_0 : K (R XT0 (n 0)) (R (n 0) (n 31)) (R (n 0) (n 31)) (GM (.ofNat 3) (.ofNat 12) (.ofNat 2) (.ofNat 2) (.ofNat 1)) = true := by kernel_rfl
theorem r2_1_1_1 : K (R XT0 (n 0)) (R (n 0) (n 31)) (R (n 0) (n 31)) (GM (.ofNat 3) (.ofNat 12) (.ofNat 2) (.ofNat 2) (.ofNat 2)) = true := by kernel_rfl
theorem r2_1_1_2 : K (R XT0 (n 0)) (R (n 0) (n 31)) (R (n 0) (n 31)) (GM (.ofNat 3) (.ofNat 12) (.ofNat 2) (.ofNat 2) (.ofNat 3)) = true := by kernel_rfl
theorem r2_1_2_0 : K (R XT0 (n 0)) (R (n 0) (n 31)) (R (n 0) (n 31)) (GM (.ofNat 3) (.ofNat 12) (.ofNat 2) (.ofNat 3) (.ofNat 1)) = true := by kernel_rfl
theorem r2_1_2_1 : K (R XT0 (n 0)) (R (n 0) (n 31)) (R (n 0) (n 31)) (GM (.ofNat 3) (.ofNat 12) (.ofNat 2) (.ofNat 3) (.ofNat 2)) = true := by kernel_rfl
theorem r2_1_2_2 : K (R XT0 (n 0)) (R (n 0) (n 31)) (R (n 0) (n 31)) (GM (.ofNat 3) (.ofNat 12) (.ofNat 2) (.ofNat 3) (.ofNat 3)) = true := by kernel_rfl
theorem r2_2_0_0 : K (R (n 0) (n 31)) (R (n 0) (n 31)) (R XT1 (n 0)) (GM (.ofNat 3) (.ofNat 12) (.ofNat 3) (.ofNat 1) (.ofNat 1)) = true := by kernel_rfl
theorem r2_2_0_1 : K (R (n 0) (n 31)) (R (n 0) (n 31)) (R (n 0) (n 31)) (GM (.ofNat 3) (.ofNat 12) (.ofNat 3) (.ofNat 1) (.ofNat 2)) = true := by kernel_rfl
theorem r2_2_0_2 : K (R (n 0) (n 31)) (R (n 0) (n 31)) (R (n 0) (n 31)) (GM (.ofNat 3) (.ofNat 12) (.ofNat 3) (.ofNat 1) (.ofNat 3)) = true := by kernel_rfl
theorem r2_2_1_0 : K (R (n 0) (n 31)) (R (n 0) (n 31)) (R (n 0) (n 31)) (GM (.ofNat 3) (.ofNat 12) (.ofNat 3) (.ofNat 2) (.ofNat 1)) = true := by kernel_rfl
theorem r2_2_1_1 : K (R (n 0) (n 31)) (R (n 0) (n 31)) (R XT1 (n 0)) (GM (.ofNat 3) (.ofNat 12) (.ofNat 3) (.ofNat 2) (.ofNat 2)) = true := by kernel_rfl
theorem r2_2_1_2 : K (R (n 0) (n 31)) (R (n 0) (n 31)) (R (n 0) (n 31)) (GM (.ofNat 3) (.ofNat 12) (.ofNat 3) (.ofNat 2) (.ofNat 3)) = true := by kernel_rfl
theorem r2_2_2_0 : K (R (n 0) (n 31)) (R (n 0) (n 31)) (R (n 0) (n 31)) (GM (.ofNat 3) (.ofNat 12) (.ofNat 3) (.ofNat 3) (.ofNat 1)) = true := by kernel_rfl
theorem r2_2_2_1 : K (R (n 0) (n 31)) (R (n 0) (n 31)) (R (n 0) (n 31)) (GM (.ofNat 3) (.ofNat 12) (.ofNat 3) (.ofNat 3) (.ofNat 2)) = true := by kernel_rfl
theorem r2_2_2_2 : K (R (n 0) (n 31)) (R (n 0) (n 31)) (R XT1 (n 0)) (GM (.ofNat 3) (.ofNat 12) (.ofNat 3) (.ofNat 3) (.ofNat 3)) = true := by kernel_rfl
theorem r3_0_0_0 : K (R (n 2) (n 0)) (R XT0 (n 0)) (R (n 0) (n 31)) (GM (.ofNat 4) (.ofNat 13) (.ofNat 1) (.ofNat 1) (.ofNat 1)) = true := by kernel_rfl
theorem r3_0_0_1 : K (R (n 2) (n 0)) (R XT0 (n 0)) (R (n 0) (n 31)) (GM (.ofNat 4) (.ofNat 13) (.ofNat 1) (.ofNat 1) (.ofNat 2)) = true := by kernel_rfl
theorem r3_0_0_2 : K (R (n 2) (n 0)) (R XT0 (n 0)) (R (n 0) (n 31)) (GM (.ofNat 4) (.ofNat 13) (.ofNat 1) (.ofNat 1) (.ofNat 3)) = true := by kernel_rfl
theorem r3_0_1_0 : K (R (n 2) (n 0)) (R (n 0) (n 31)) (R (n 0) (n 31)) (GM (.ofNat 4) (.ofNat 13) (.ofNat 1) (.ofNat 2) (.ofNat 1)) = true := by kernel_rfl
theorem r3_0_1_1 : K (R (n 2) (n 0)) (R (n 0) (n 31)) (R (n 0) (n 31)) (GM (.ofNat 4) (.ofNat 13) (.ofNat 1) (.ofNat 2) (.ofNat 2)) = true := by kernel_rfl
theorem r3_0_1_2 : K (R (n 2) (n 0)) (R (n 0) (n 31)) (R (n 0) (n 31)) (GM (.ofNat 4) (.ofNat 13) (.ofNat 1) (.ofNat 2) (.ofNat 3)) = true := by kernel_rfl
theorem r3_0_2_0 : K (R (n 2) (n 0)) (R (n 0) (n 31)) (R (n 0) (n 31)) (GM (.ofNat 4) (.ofNat 13) (.ofNat 1) (.ofNat 3) (.ofNat 1)) = true := by kernel_rfl
theorem r3_0_2_1 : K (R (n 2) (n 0)) (R (n 0) (n 31)) (R (n 0) (n 31)) (GM (.ofNat 4) (.ofNat 13) (.ofNat 1) (.ofNat 3) (.ofNat 2)) = true := by kernel_rfl
theorem r3_0_2_2 : K (R (n 2) (n 0)) (R (n 0) (n 31)) (R (n 0) (n 31)) (GM (.ofNat 4) (.ofNat 13) (.ofNat 1) (.ofNat 3) (.ofNat 3)) = true := by kernel_rfl
theorem r3_1_0_0 : K (R (n 0) (n 31)) (R (n 0) (n 31)) (R (n 0) (n 31)) (GM (.ofNat 4) (.ofNat 13) (.ofNat 2) (.ofNat 1) (.ofNat 1)) = true := by kernel_rfl
theorem r3_1_0_1 : K (R (n 0) (n 31)) (R (n 0) (n 31)) (R (n 0) (n 31)) (GM (.ofNat 4) (.ofNat 13) (.ofNat 2) (.ofNat 1) (.ofNat 2)) = true := by kernel_rfl
theorem r3_1_0_2 : K (R (n 0) (n 31)) (R (n 0) (n 31)) (R (n 0) (n 31)) (GM (.ofNat 4) (.ofNat 13) (.ofNat 2) (.ofNat 1) (.ofNat 3)) = true := by kernel_rfl
theorem r3_1_1_0 : K (R (n 0) (n 31)) (R (n 0) (n 31)) (R (n 0) (n 31)) (GM (.ofNat 4) (.ofNat 13) (.ofNat 2) (.ofNat 2) (.ofNat 1)) = true := by kernel_rfl
theorem r3_1_1_1 : K (R (n 0) (n 31)) (R (n 0) (n 31)) (R (n 0) (n 31)) (GM (.ofNat 4) (.ofNat 13) (.ofNat 2) (.ofNat 2) (.ofNat 2)) = true := by kernel_rfl
theorem r3_1_1_2 : K (R (n 0) (n 31)) (R (n 0) (n 31)) (R (n 0) (n 31)) (GM (.ofNat 4) (.ofNat 13) (.ofNat 2) (.ofNat 2) (.ofNat 3)) = true := by kernel_rfl
theorem r3_1_2_0 : K (R (n 0) (n 31)) (R (n 0) (n 31)) (R (n 0) (n 31)) (GM (.ofNat 4) (.ofNat 13) (.ofNat 2) (.ofNat 3) (.ofNat 1)) = true := by kernel_rfl
theorem r3_1_2_1 : K (R (n 0) (n 31)) (R (n 0) (n 31)) (R (n 0) (n 31)) (GM (.ofNat 4) (.ofNat 13) (.ofNat 2) (.ofNat 3) (.ofNat 2)) = true := by kernel_rfl
theorem r3_1_2_2 : K (R (n 0) (n 31)) (R (n 0) (n 31)) (R (n 0) (n 31)) (GM (.ofNat 4) (.ofNat 13) (.ofNat 2) (.ofNat 3) (.ofNat 3)) = true := by kernel_rfl
theorem r3_2_0_0 : K (R (n 0) (n 31)) (R (n 0) (n 31)) (R XT1 (n 0)) (GM (.ofNat 4) (.ofNat 13) (.ofNat 3) (.ofNat 1) (.ofNat 1)) = true := by kernel_rfl
theorem r3_2_0_1 : K (R (n 0) (n 31)) (R (n 0) (n 31)) (R (n 0) (n 31)) (GM (.ofNat 4) (.ofNat 13) (.ofNat 3) (.ofNat 1) (.ofNat 2)) = true := by kernel_rfl
theorem r3_2_0_2 : K (R (n 0) (n 31)) (R (n 0) (n 31)) (R (n 0) (n 31)) (GM (.ofNat 4) (.ofNat 13) (.ofNat 3) (.ofNat 1) (.ofNat 3)) = true := by kernel_rfl
theorem r3_2_1_0 : K (R (n 0) (n 31)) (R (n 0) (n 31)) (R (n 0) (n 31)) (GM (.ofNat 4) (.ofNat 13) (.ofNat 3) (.ofNat 2) (.ofNat 1)) = true := by kernel_rfl
theorem r3_2_1_1 : K (R (n 0) (n 31)) (R (n 0) (n 31)) (R XT1 (n 0)) (GM (.ofNat 4) (.ofNat 13) (.ofNat 3) (.ofNat 2) (.ofNat 2)) = true := by kernel_rfl
theorem r3_2_1_2 : K (R (n 0) (n 31)) (R (n 0) (n 31)) (R (n 0) (n 31)) (GM (.ofNat 4) (.ofNat 13) (.ofNat 3) (.ofNat 2) (.ofNat 3)) = true := by kernel_rfl
theorem r3_2_2_0 : K (R (n 0) (n 31)) (R (n 0) (n 31)) (R (n 0) (n 31)) (GM (.ofNat 4) (.ofNat 13) (.ofNat 3) (.ofNat 3) (.ofNat 1)) = true := by kernel_rfl
theorem r3_2_2_1 : K (R (n 0) (n 31)) (R (n 0) (n 31)) (R (n 0) (n 31)) (GM (.ofNat 4) (.ofNat 13) (.ofNat 3) (.ofNat 3) (.ofNat 2)) = true := by kernel_rfl
theorem r3_2_2_2 : K (R (n 0) (n 31)) (R (n 0) (n 31)) (R XT1 (n 0)) (GM (.ofNat 4) (.ofNat 13) (.ofNat 3) (.ofNat 3) (.ofNat 3)) = true := by kernel_rfl
end Go.Proofs.YtphhdonkpijhhaaGreatDoor.Am.TypesOperators
