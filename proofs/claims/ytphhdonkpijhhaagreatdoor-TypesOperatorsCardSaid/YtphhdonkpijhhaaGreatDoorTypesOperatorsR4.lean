/- Runs of the law on the abstract machine, a case each. -/
import Derived.Test.YtphhdonkpijhhaaGreatDoorTypesOperatorsF
set_option linter.all false
namespace Go.Proofs.YtphhdonkpijhhaaGreatDoor.Am.TypesOperators
open Go.AM
set_option maxRecDepth 100000
theorem r16_0_0_0 : K (R XT0 (n 0)) (R (n 3) (n 0)) (R (n 0) (n 31)) (GM (.ofNat 2) (.ofNat 26) (.ofNat 1) (.ofNat 1) (.ofNat 1)) = true := by kernel_rfl
theorem r16_0_0_1 : K (R XT0 (n 0)) (R (n 3) (n 0)) (R (n 0) (n 31)) (GM (.ofNat 2) (.ofNat 26) (.ofNat 1) (.ofNat 1) (.ofNat 2)) = true := by kernel_rfl
theorem r16_0_0_2 : K (R XT0 (n 0)) (R (n 3) (n 0)) (R (n 0) (n 31)) (GM (.ofNat 2) (.ofNat 26) (.ofNat 1) (.ofNat 1) (.ofNat 3)) = true := by kernel_rfl
theorem r16_0_1_0 : K (R XT0 (n 0)) (R (n 0) (n 31)) (R (n 0) (n 31)) (GM (.ofNat 2) (.ofNat 26) (.ofNat 1) (.ofNat 2) (.ofNat 1)) = true := by kernel_rfl
theorem r16_0_1_1 : K (R XT0 (n 0)) (R (n 0) (n 31)) (R (n 0) (n 31)) (GM (.ofNat 2) (.ofNat 26) (.ofNat 1) (.ofNat 2) (.ofNat 2)) = true := by kernel_rfl
theorem r16_0_1_2 : K (R XT0 (n 0)) (R (n 0) (n 31)) (R (n 0) (n 31)) (GM (.ofNat 2) (.ofNat 26) (.ofNat 1) (.ofNat 2) (.ofNat 3)) = true := by kernel_rfl
theorem r16_0_2_0 : K (R XT0 (n 0)) (R (n 0) (n 31)) (R (n 0) (n 31)) (GM (.ofNat 2) (.ofNat 26) (.ofNat 1) (.ofNat 3) (.ofNat 1)) = true := by kernel_rfl
theorem r16_0_2_1 : K (R XT0 (n 0)) (R (n 0) (n 31)) (R (n 0) (n 31)) (GM (.ofNat 2) (.ofNat 26) (.ofNat 1) (.ofNat 3) (.ofNat 2)) = true := by kernel_rfl
theorem r16_0_2_2 : K (R XT0 (n 0)) (R (n 0) (n 31)) (R (n 0) (n 31)) (GM (.ofNat 2) (.ofNat 26) (.ofNat 1) (.ofNat 3) (.ofNat 3)) = true := by kernel_rfl
theorem r16_1_0_0 : K (R (n 0) (n 31)) (R (n 0) (n 31)) (R (n 0) (n 31)) (GM (.ofNat 2) (.ofNat 26) (.ofNat 2) (.ofNat 1) (.ofNat 1)) = true := by kernel_rfl
theorem r16_1_0_1 : K (R (n 0) (n 31)) (R (n 0) (n 31)) (R (n 0) (n 31)) (GM (.ofNat 2) (.ofNat 26) (.ofNat 2) (.ofNat 1) (.ofNat 2)) = true := by kernel_rfl
theorem r16_1_0_2 : K (R (n 0) (n 31)) (R (n 0) (n 31)) (R (n 0) (n 31)) (GM (.ofNat 2) (.ofNat 26) (.ofNat 2) (.ofNat 1) (.ofNat 3)) = true := by kernel_rfl
theorem r16_1_1_0 : K (R (n 0) (n 31)) (R (n 3) (n 0)) (R (n 0) (n 31)) (GM (.ofNat 2) (.ofNat 26) (.ofNat 2) (.ofNat 2) (.ofNat 1)) = true := by kernel_rfl
theorem r16_1_1_1 : K (R (n 0) (n 31)) (R (n 3) (n 0)) (R (n 0) (n 31)) (GM (.ofNat 2) (.ofNat 26) (.ofNat 2) (.ofNat 2) (.ofNat 2)) = true := by kernel_rfl
theorem r16_1_1_2 : K (R (n 0) (n 31)) (R (n 3) (n 0)) (R (n 0) (n 31)) (GM (.ofNat 2) (.ofNat 26) (.ofNat 2) (.ofNat 2) (.ofNat 3)) = true := by kernel_rfl
theorem r16_1_2_0 : K (R (n 0) (n 31)) (R (n 0) (n 31)) (R (n 0) (n 31)) (GM (.ofNat 2) (.ofNat 26) (.ofNat 2) (.ofNat 3) (.ofNat 1)) = true := by kernel_rfl
theorem r16_1_2_1 : K (R (n 0) (n 31)) (R (n 0) (n 31)) (R (n 0) (n 31)) (GM (.ofNat 2) (.ofNat 26) (.ofNat 2) (.ofNat 3) (.ofNat 2)) = true := by kernel_rfl
theorem r16_1_2_2 : K (R (n 0) (n 31)) (R (n 0) (n 31)) (R (n 0) (n 31)) (GM (.ofNat 2) (.ofNat 26) (.ofNat 2) (.ofNat 3) (.ofNat 3)) = true := by kernel_rfl
theorem r16_2_0_0 : K (R XT0 (n 0)) (R (n 0) (n 31)) (R XT1 (n 0)) (GM (.ofNat 2) (.ofNat 26) (.ofNat 3) (.ofNat 1) (.ofNat 1)) = true := by kernel_rfl
theorem r16_2_0_1 : K (R XT0 (n 0)) (R (n 0) (n 31)) (R (n 0) (n 31)) (GM (.ofNat 2) (.ofNat 26) (.ofNat 3) (.ofNat 1) (.ofNat 2)) = true := by kernel_rfl
theorem r16_2_0_2 : K (R XT0 (n 0)) (R (n 0) (n 31)) (R (n 0) (n 31)) (GM (.ofNat 2) (.ofNat 26) (.ofNat 3) (.ofNat 1) (.ofNat 3)) = true := by kernel_rfl
theorem r16_2_1_0 : K (R XT0 (n 0)) (R (n 0) (n 31)) (R (n 0) (n 31)) (GM (.ofNat 2) (.ofNat 26) (.ofNat 3) (.ofNat 2) (.ofNat 1)) = true := by kernel_rfl
theorem r16_2_1_1 : K (R XT0 (n 0)) (R (n 0) (n 31)) (R XT1 (n 0)) (GM (.ofNat 2) (.ofNat 26) (.ofNat 3) (.ofNat 2) (.ofNat 2)) = true := by kernel_rfl
theorem r16_2_1_2 : K (R XT0 (n 0)) (R (n 0) (n 31)) (R (n 0) (n 31)) (GM (.ofNat 2) (.ofNat 26) (.ofNat 3) (.ofNat 2) (.ofNat 3)) = true := by kernel_rfl
theorem r16_2_2_0 : K (R XT0 (n 0)) (R (n 0) (n 31)) (R (n 0) (n 31)) (GM (.ofNat 2) (.ofNat 26) (.ofNat 3) (.ofNat 3) (.ofNat 1)) = true := by kernel_rfl
theorem r16_2_2_1 : K (R XT0 (n 0)) (R (n 0) (n 31)) (R (n 0) (n 31)) (GM (.ofNat 2) (.ofNat 26) (.ofNat 3) (.ofNat 3) (.ofNat 2)) = true := by kernel_rfl
theorem r16_2_2_2 : K (R XT0 (n 0)) (R (n 0) (n 31)) (R XT1 (n 0)) (GM (.ofNat 2) (.ofNat 26) (.ofNat 3) (.ofNat 3) (.ofNat 3)) = true := by kernel_rfl
theorem r17_0_0_0 : K (R XT0 (n 0)) (R (n 3) (n 0)) (R (n 0) (n 31)) (GM (.ofNat 3) (.ofNat 27) (.ofNat 1) (.ofNat 1) (.ofNat 1)) = true := by kernel_rfl
theorem r17_0_0_1 : K (R XT0 (n 0)) (R (n 3) (n 0)) (R (n 0) (n 31)) (GM (.ofNat 3) (.ofNat 27) (.ofNat 1) (.ofNat 1) (.ofNat 2)) = true := by kernel_rfl
theorem r17_0_0_2 : K (R XT0 (n 0)) (R (n 3) (n 0)) (R (n 0) (n 31)) (GM (.ofNat 3) (.ofNat 27) (.ofNat 1) (.ofNat 1) (.ofNat 3)) = true := by kernel_rfl
theorem r17_0_1_0 : K (R XT0 (n 0)) (R (n 0) (n 31)) (R (n 0) (n 31)) (GM (.ofNat 3) (.ofNat 27) (.ofNat 1) (.ofNat 2) (.ofNat 1)) = true := by kernel_rfl
theorem r17_0_1_1 : K (R XT0 (n 0)) (R (n 0) (n 31)) (R (n 0) (n 31)) (GM (.ofNat 3) (.ofNat 27) (.ofNat 1) (.ofNat 2) (.ofNat 2)) = true := by kernel_rfl
theorem r17_0_1_2 : K (R XT0 (n 0)) (R (n 0) (n 31)) (R (n 0) (n 31)) (GM (.ofNat 3) (.ofNat 27) (.ofNat 1) (.ofNat 2) (.ofNat 3)) = true := by kernel_rfl
theorem r17_0_2_0 : K (R XT0 (n 0)) (R (n 0) (n 31)) (R (n 0) (n 31)) (GM (.ofNat 3) (.ofNat 27) (.ofNat 1) (.ofNat 3) (.ofNat 1)) = true := by kernel_rfl
theorem r17_0_2_1 : K (R XT0 (n 0)) (R (n 0) (n 31)) (R (n 0) (n 31)) (GM (.ofNat 3) (.ofNat 27) (.ofNat 1) (.ofNat 3) (.ofNat 2)) = true := by kernel_rfl
theorem r17_0_2_2 : K (R XT0 (n 0)) (R (n 0) (n 31)) (R (n 0) (n 31)) (GM (.ofNat 3) (.ofNat 27) (.ofNat 1) (.ofNat 3) (.ofNat 3)) = true := by kernel_rfl
theorem r17_1_0_0 : K (R XT0 (n 0)) (R (n 0) (n 31)) (R (n 0) (n 31)) (GM (.ofNat 3) (.ofNat 27) (.ofNat 2) (.ofNat 1) (.ofNat 1)) = true := by kernel_rfl
theorem r17_1_0_1 : K (R XT0 (n 0)) (R (n 0) (n 31)) (R (n 0) (n 31)) (GM (.ofNat 3) (.ofNat 27) (.ofNat 2) (.ofNat 1) (.ofNat 2)) = true := by kernel_rfl
theorem r17_1_0_2 : K (R XT0 (n 0)) (R (n 0) (n 31)) (R (n 0) (n 31)) (GM (.ofNat 3) (.ofNat 27) (.ofNat 2) (.ofNat 1) (.ofNat 3)) = true := by kernel_rfl
theorem r17_1_1_0 : K (R XT0 (n 0)) (R (n 3) (n 0)) (R (n 0) (n 31)) (GM (.ofNat 3) (.ofNat 27) (.ofNat 2) (.ofNat 2) (.ofNat 1)) = true := by kernel_rfl
theorem r17_1_1_1 : K (R XT0 (n 0)) (R (n 3) (n 0)) (R (n 0) (n 31)) (GM (.ofNat 3) (.ofNat 27) (.ofNat 2) (.ofNat 2) (.ofNat 2)) = true := by kernel_rfl
theorem r17_1_1_2 : K (R XT0 (n 0)) (R (n 3) (n 0)) (R (n 0) (n 31)) (GM (.ofNat 3) (.ofNat 27) (.ofNat 2) (.ofNat 2) (.ofNat 3)) = true := by kernel_rfl
theorem r17_1_2_0 : K (R XT0 (n 0)) (R (n 0) (n 31)) (R (n 0) (n 31)) (GM (.ofNat 3) (.ofNat 27) (.ofNat 2) (.ofNat 3) (.ofNat 1)) = true := by kernel_rfl
theorem r17_1_2_1 : K (R XT0 (n 0)) (R (n 0) (n 31)) (R (n 0) (n 31)) (GM (.ofNat 3) (.ofNat 27) (.ofNat 2) (.ofNat 3) (.ofNat 2)) = true := by kernel_rfl
theorem r17_1_2_2 : K (R XT0 (n 0)) (R (n 0) (n 31)) (R (n 0) (n 31)) (GM (.ofNat 3) (.ofNat 27) (.ofNat 2) (.ofNat 3) (.ofNat 3)) = true := by kernel_rfl
theorem r17_2_0_0 : K (R (n 0) (n 31)) (R (n 0) (n 31)) (R XT1 (n 0)) (GM (.ofNat 3) (.ofNat 27) (.ofNat 3) (.ofNat 1) (.ofNat 1)) = true := by kernel_rfl
theorem r17_2_0_1 : K (R (n 0) (n 31)) (R (n 0) (n 31)) (R (n 0) (n 31)) (GM (.ofNat 3) (.ofNat 27) (.ofNat 3) (.ofNat 1) (.ofNat 2)) = true := by kernel_rfl
theorem r17_2_0_2 : K (R (n 0) (n 31)) (R (n 0) (n 31)) (R (n 0) (n 31)) (GM (.ofNat 3) (.ofNat 27) (.ofNat 3) (.ofNat 1) (.ofNat 3)) = true := by kernel_rfl
theorem r17_2_1_0 : K (R (n 0) (n 31)) (R (n 0) (n 31)) (R (n 0) (n 31)) (GM (.ofNat 3) (.ofNat 27) (.ofNat 3) (.ofNat 2) (.ofNat 1)) = true := by kernel_rfl
theorem r17_2_1_1 : K (R (n 0) (n 31)) (R (n 0) (n 31)) (R XT1 (n 0)) (GM (.ofNat 3) (.ofNat 27) (.ofNat 3) (.ofNat 2) (.ofNat 2)) = true := by kernel_rfl
theorem r17_2_1_2 : K (R (n 0) (n 31)) (R (n 0) (n 31)) (R (n 0) (n 31)) (GM (.ofNat 3) (.ofNat 27) (.ofNat 3) (.ofNat 2) (.ofNat 3)) = true := by kernel_rfl
theorem r17_2_2_0 : K (R (n 0) (n 31)) (R (n 0) (n 31)) (R (n 0) (n 31)) (GM (.ofNat 3) (.ofNat 27) (.ofNat 3) (.ofNat 3) (.ofNat 1)) = true := by kernel_rfl
theorem r17_2_2_1 : K (R (n 0) (n 31)) (R (n 0) (n 31)) (R (n 0) (n 31)) (GM (.ofNat 3) (.ofNat 27) (.ofNat 3) (.ofNat 3) (.ofNat 2)) = true := by kernel_rfl
theorem r17_2_2_2 : K (R (n 0) (n 31)) (R (n 0) (n 31)) (R XT1 (n 0)) (GM (.ofNat 3) (.ofNat 27) (.ofNat 3) (.ofNat 3) (.ofNat 3)) = true := by kernel_rfl
theorem r18_0_0_0 : K (R (n 2) (n 0)) (R (n 3) (n 0)) (R (n 0) (n 31)) (GM (.ofNat 4) (.ofNat 28) (.ofNat 1) (.ofNat 1) (.ofNat 1)) = true := by kernel_rfl
theorem r18_0_0_1 : K (R (n 2) (n 0)) (R (n 3) (n 0)) (R (n 0) (n 31)) (GM (.ofNat 4) (.ofNat 28) (.ofNat 1) (.ofNat 1) (.ofNat 2)) = true := by kernel_rfl
theorem r18_0_0_2 : K (R (n 2) (n 0)) (R (n 3) (n 0)) (R (n 0) (n 31)) (GM (.ofNat 4) (.ofNat 28) (.ofNat 1) (.ofNat 1) (.ofNat 3)) = true := by kernel_rfl
theorem r18_0_1_0 : K (R (n 2) (n 0)) (R (n 0) (n 31)) (R (n 0) (n 31)) (GM (.ofNat 4) (.ofNat 28) (.ofNat 1) (.ofNat 2) (.ofNat 1)) = true := by kernel_rfl
theorem r18_0_1_1 : K (R (n 2) (n 0)) (R (n 0) (n 31)) (R (n 0) (n 31)) (GM (.ofNat 4) (.ofNat 28) (.ofNat 1) (.ofNat 2) (.ofNat 2)) = true := by kernel_rfl
theorem r18_0_1_2 : K (R (n 2) (n 0)) (R (n 0) (n 31)) (R (n 0) (n 31)) (GM (.ofNat 4) (.ofNat 28) (.ofNat 1) (.ofNat 2) (.ofNat 3)) = true := by kernel_rfl
theorem r18_0_2_0 : K (R (n 2) (n 0)) (R (n 0) (n 31)) (R (n 0) (n 31)) (GM (.ofNat 4) (.ofNat 28) (.ofNat 1) (.ofNat 3) (.ofNat 1)) = true := by kernel_rfl
theorem r18_0_2_1 : K (R (n 2) (n 0)) (R (n 0) (n 31)) (R (n 0) (n 31)) (GM (.ofNat 4) (.ofNat 28) (.ofNat 1) (.ofNat 3) (.ofNat 2)) = true := by kernel_rfl
theorem r18_0_2_2 : K (R (n 2) (n 0)) (R (n 0) (n 31)) (R (n 0) (n 31)) (GM (.ofNat 4) (.ofNat 28) (.ofNat 1) (.ofNat 3) (.ofNat 3)) = true := by kernel_rfl
theorem r18_1_0_0 : K (R (n 0) (n 31)) (R (n 0) (n 31)) (R (n 0) (n 31)) (GM (.ofNat 4) (.ofNat 28) (.ofNat 2) (.ofNat 1) (.ofNat 1)) = true := by kernel_rfl
theorem r18_1_0_1 : K (R (n 0) (n 31)) (R (n 0) (n 31)) (R (n 0) (n 31)) (GM (.ofNat 4) (.ofNat 28) (.ofNat 2) (.ofNat 1) (.ofNat 2)) = true := by kernel_rfl
theorem r18_1_0_2 : K (R (n 0) (n 31)) (R (n 0) (n 31)) (R (n 0) (n 31)) (GM (.ofNat 4) (.ofNat 28) (.ofNat 2) (.ofNat 1) (.ofNat 3)) = true := by kernel_rfl
theorem r18_1_1_0 : K (R (n 0) (n 31)) (R (n 3) (n 0)) (R (n 0) (n 31)) (GM (.ofNat 4) (.ofNat 28) (.ofNat 2) (.ofNat 2) (.ofNat 1)) = true := by kernel_rfl
theorem r18_1_1_1 : K (R (n 0) (n 31)) (R (n 3) (n 0)) (R (n 0) (n 31)) (GM (.ofNat 4) (.ofNat 28) (.ofNat 2) (.ofNat 2) (.ofNat 2)) = true := by kernel_rfl
theorem r18_1_1_2 : K (R (n 0) (n 31)) (R (n 3) (n 0)) (R (n 0) (n 31)) (GM (.ofNat 4) (.ofNat 28) (.ofNat 2) (.ofNat 2) (.ofNat 3)) = true := by kernel_rfl
theorem r18_1_2_0 : K (R (n 0) (n 31)) (R (n 0) (n 31)) (R (n 0) (n 31)) (GM (.ofNat 4) (.ofNat 28) (.ofNat 2) (.ofNat 3) (.ofNat 1)) = true := by kernel_rfl
theorem r18_1_2_1 : K (R (n 0) (n 31)) (R (n 0) (n 31)) (R (n 0) (n 31)) (GM (.ofNat 4) (.ofNat 28) (.ofNat 2) (.ofNat 3) (.ofNat 2)) = true := by kernel_rfl
theorem r18_1_2_2 : K (R (n 0) (n 31)) (R (n 0) (n 31)) (R (n 0) (n 31)) (GM (.ofNat 4) (.ofNat 28) (.ofNat 2) (.ofNat 3) (.ofNat 3)) = true := by kernel_rfl
theorem r18_2_0_0 : K (R (n 0) (n 31)) (R (n 0) (n 31)) (R XT1 (n 0)) (GM (.ofNat 4) (.ofNat 28) (.ofNat 3) (.ofNat 1) (.ofNat 1)) = true := by kernel_rfl
theorem r18_2_0_1 : K (R (n 0) (n 31)) (R (n 0) (n 31)) (R (n 0) (n 31)) (GM (.ofNat 4) (.ofNat 28) (.ofNat 3) (.ofNat 1) (.ofNat 2)) = true := by kernel_rfl
theorem r18_2_0_2 : K (R (n 0) (n 31)) (R (n 0) (n 31)) (R (n 0) (n 31)) (GM (.ofNat 4) (.ofNat 28) (.ofNat 3) (.ofNat 1) (.ofNat 3)) = true := by kernel_rfl
theorem r18_2_1_0 : K (R (n 0) (n 31)) (R (n 0) (n 31)) (R (n 0) (n 31)) (GM (.ofNat 4) (.ofNat 28) (.ofNat 3) (.ofNat 2) (.ofNat 1)) = true := by kernel_rfl
theorem r18_2_1_1 : K (R (n 0) (n 31)) (R (n 0) (n 31)) (R XT1 (n 0)) (GM (.ofNat 4) (.ofNat 28) (.ofNat 3) (.ofNat 2) (.ofNat 2)) = true := by kernel_rfl
theorem r18_2_1_2 : K (R (n 0) (n 31)) (R (n 0) (n 31)) (R (n 0) (n 31)) (GM (.ofNat 4) (.ofNat 28) (.ofNat 3) (.ofNat 2) (.ofNat 3)) = true := by kernel_rfl
theorem r18_2_2_0 : K (R (n 0) (n 31)) (R (n 0) (n 31)) (R (n 0) (n 31)) (GM (.ofNat 4) (.ofNat 28) (.ofNat 3) (.ofNat 3) (.ofNat 1)) = true := by kernel_rfl
theorem r18_2_2_1 : K (R (n 0) (n 31)) (R (n 0) (n 31)) (R (n 0) (n 31)) (GM (.ofNat 4) (.ofNat 28) (.ofNat 3) (.ofNat 3) (.ofNat 2)) = true := by kernel_rfl
theorem r18_2_2_2 : K (R (n 0) (n 31)) (R (n 0) (n 31)) (R XT1 (n 0)) (GM (.ofNat 4) (.ofNat 28) (.ofNat 3) (.ofNat 3) (.ofNat 3)) = true := by kernel_rfl
theorem r19_0_0_0 : K (R (n 0) (n 31)) (R (n 3) (n 0)) (R (n 0) (n 31)) (GM (.ofNat 5) (.ofNat 29) (.ofNat 1) (.ofNat 1) (.ofNat 1)) = true := by kernel_rfl
theorem r19_0_0_1 : K (R (n 0) (n 31)) (R (n 3) (n 0)) (R (n 0) (n 31)) (GM (.ofNat 5) (.ofNat 29) (.ofNat 1) (.ofNat 1) (.ofNat 2)) = true := by kernel_rfl
theorem r19_0_0_2 : K (R (n 0) (n 31)) (R (n 3) (n 0)) (R (n 0) (n 31)) (GM (.ofNat 5) (.ofNat 29) (.ofNat 1) (.ofNat 1) (.ofNat 3)) = true := by kernel_rfl
theorem r19_0_1_0 : K (R (n 0) (n 31)) (R (n 0) (n 31)) (R (n 0) (n 31)) (GM (.ofNat 5) (.ofNat 29) (.ofNat 1) (.ofNat 2) (.ofNat 1)) = true := by kernel_rfl
theorem r19_0_1_1 : K (R (n 0) (n 31)) (R (n 0) (n 31)) (R (n 0) (n 31)) (GM (.ofNat 5) (.ofNat 29) (.ofNat 1) (.ofNat 2) (.ofNat 2)) = true := by kernel_rfl
theorem r19_0_1_2 : K (R (n 0) (n 31)) (R (n 0) (n 31)) (R (n 0) (n 31)) (GM (.ofNat 5) (.ofNat 29) (.ofNat 1) (.ofNat 2) (.ofNat 3)) = true := by kernel_rfl
theorem r19_0_2_0 : K (R (n 0) (n 31)) (R (n 0) (n 31)) (R (n 0) (n 31)) (GM (.ofNat 5) (.ofNat 29) (.ofNat 1) (.ofNat 3) (.ofNat 1)) = true := by kernel_rfl
theorem r19_0_2_1 : K (R (n 0) (n 31)) (R (n 0) (n 31)) (R (n 0) (n 31)) (GM (.ofNat 5) (.ofNat 29) (.ofNat 1) (.ofNat 3) (.ofNat 2)) = true := by kernel_rfl
theorem r19_0_2_2 : K (R (n 0) (n 31)) (R (n 0) (n 31)) (R (n 0) (n 31)) (GM (.ofNat 5) (.ofNat 29) (.ofNat 1) (.ofNat 3) (.ofNat 3)) = true := by kernel_rfl
theorem r19_1_0_0 : K (R (n 1) (n 0)) (R (n 0) (n 31)) (R (n 0) (n 31)) (GM (.ofNat 5) (.ofNat 29) (.ofNat 2) (.ofNat 1) (.ofNat 1)) = true := by kernel_rfl
theorem r19_1_0_1 : K (R (n 1) (n 0)) (R (n 0) (n 31)) (R (n 0) (n 31)) (GM (.ofNat 5) (.ofNat 29) (.ofNat 2) (.ofNat 1) (.ofNat 2)) = true := by kernel_rfl
theorem r19_1_0_2 : K (R (n 1) (n 0)) (R (n 0) (n 31)) (R (n 0) (n 31)) (GM (.ofNat 5) (.ofNat 29) (.ofNat 2) (.ofNat 1) (.ofNat 3)) = true := by kernel_rfl
theorem r19_1_1_0 : K (R (n 1) (n 0)) (R (n 3) (n 0)) (R (n 0) (n 31)) (GM (.ofNat 5) (.ofNat 29) (.ofNat 2) (.ofNat 2) (.ofNat 1)) = true := by kernel_rfl
theorem r19_1_1_1 : K (R (n 1) (n 0)) (R (n 3) (n 0)) (R (n 0) (n 31)) (GM (.ofNat 5) (.ofNat 29) (.ofNat 2) (.ofNat 2) (.ofNat 2)) = true := by kernel_rfl
theorem r19_1_1_2 : K (R (n 1) (n 0)) (R (n 3) (n 0)) (R (n 0) (n 31)) (GM (.ofNat 5) (.ofNat 29) (.ofNat 2) (.ofNat 2) (.ofNat 3)) = true := by kernel_rfl
theorem r19_1_2_0 : K (R (n 1) (n 0)) (R (n 0) (n 31)) (R (n 0) (n 31)) (GM (.ofNat 5) (.ofNat 29) (.ofNat 2) (.ofNat 3) (.ofNat 1)) = true := by kernel_rfl
theorem r19_1_2_1 : K (R (n 1) (n 0)) (R (n 0) (n 31)) (R (n 0) (n 31)) (GM (.ofNat 5) (.ofNat 29) (.ofNat 2) (.ofNat 3) (.ofNat 2)) = true := by kernel_rfl
theorem r19_1_2_2 : K (R (n 1) (n 0)) (R (n 0) (n 31)) (R (n 0) (n 31)) (GM (.ofNat 5) (.ofNat 29) (.ofNat 2) (.ofNat 3) (.ofNat 3)) = true := by kernel_rfl
theorem r19_2_0_0 : K (R (n 0) (n 31)) (R (n 0) (n 31)) (R XT1 (n 0)) (GM (.ofNat 5) (.ofNat 29) (.ofNat 3) (.ofNat 1) (.ofNat 1)) = true := by kernel_rfl
theorem r19_2_0_1 : K (R (n 0) (n 31)) (R (n 0) (n 31)) (R (n 0) (n 31)) (GM (.ofNat 5) (.ofNat 29) (.ofNat 3) (.ofNat 1) (.ofNat 2)) = true := by kernel_rfl
theorem r19_2_0_2 : K (R (n 0) (n 31)) (R (n 0) (n 31)) (R (n 0) (n 31)) (GM (.ofNat 5) (.ofNat 29) (.ofNat 3) (.ofNat 1) (.ofNat 3)) = true := by kernel_rfl
theorem r19_2_1_0 : K (R (n 0) (n 31)) (R (n 0) (n 31)) (R (n 0) (n 31)) (GM (.ofNat 5) (.ofNat 29) (.ofNat 3) (.ofNat 2) (.ofNat 1)) = true := by kernel_rfl
theorem r19_2_1_1 : K (R (n 0) (n 31)) (R (n 0) (n 31)) (R XT1 (n 0)) (GM (.ofNat 5) (.ofNat 29) (.ofNat 3) (.ofNat 2) (.ofNat 2)) = true := by kernel_rfl
theorem r19_2_1_2 : K (R (n 0) (n 31)) (R (n 0) (n 31)) (R (n 0) (n 31)) (GM (.ofNat 5) (.ofNat 29) (.ofNat 3) (.ofNat 2) (.ofNat 3)) = true := by kernel_rfl
theorem r19_2_2_0 : K (R (n 0) (n 31)) (R (n 0) (n 31)) (R (n 0) (n 31)) (GM (.ofNat 5) (.ofNat 29) (.ofNat 3) (.ofNat 3) (.ofNat 1)) = true := by kernel_rfl
theorem r19_2_2_1 : K (R (n 0) (n 31)) (R (n 0) (n 31)) (R (n 0) (n 31)) (GM (.ofNat 5) (.ofNat 29) (.ofNat 3) (.ofNat 3) (.ofNat 2)) = true := by kernel_rfl
theorem r19_2_2_2 : K (R (n 0) (n 31)) (R (n 0) (n 31)) (R XT1 (n 0)) (GM (.ofNat 5) (.ofNat 29) (.ofNat 3) (.ofNat 3) (.ofNat 3)) = true := by kernel_rfl
end Go.Proofs.YtphhdonkpijhhaaGreatDoor.Am.TypesOperators
