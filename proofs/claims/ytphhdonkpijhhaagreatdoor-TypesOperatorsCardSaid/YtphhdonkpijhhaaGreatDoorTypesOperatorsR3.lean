/- Runs of the law on the abstract machine, a case each. -/
import Derived.Test.YtphhdonkpijhhaaGreatDoorTypesOperatorsF
set_option linter.all false
namespace Go.Proofs.YtphhdonkpijhhaaGreatDoor.Am.TypesOperators
open Go.AM
set_option maxRecDepth 100000
theorem r12_0_0_0 : K (R XT0 (n 0)) (R XT0 (n 0)) (R (n 0) (n 31)) (GM (.ofNat 3) (.ofNat 22) (.ofNat 1) (.ofNat 1) (.ofNat 1)) = true := by kernel_rfl
theorem r12_0_0_1 : K (R XT0 (n 0)) (R XT0 (n 0)) (R (n 0) (n 31)) (GM (.ofNat 3) (.ofNat 22) (.ofNat 1) (.ofNat 1) (.ofNat 2)) = true := by kernel_rfl
theorem r12_0_0_2 : K (R XT0 (n 0)) (R XT0 (n 0)) (R (n 0) (n 31)) (GM (.ofNat 3) (.ofNat 22) (.ofNat 1) (.ofNat 1) (.ofNat 3)) = true := by kernel_rfl
theorem r12_0_1_0 : K (R XT0 (n 0)) (R (n 0) (n 31)) (R (n 0) (n 31)) (GM (.ofNat 3) (.ofNat 22) (.ofNat 1) (.ofNat 2) (.ofNat 1)) = true := by kernel_rfl
theorem r12_0_1_1 : K (R XT0 (n 0)) (R (n 0) (n 31)) (R (n 0) (n 31)) (GM (.ofNat 3) (.ofNat 22) (.ofNat 1) (.ofNat 2) (.ofNat 2)) = true := by kernel_rfl
theorem r12_0_1_2 : K (R XT0 (n 0)) (R (n 0) (n 31)) (R (n 0) (n 31)) (GM (.ofNat 3) (.ofNat 22) (.ofNat 1) (.ofNat 2) (.ofNat 3)) = true := by kernel_rfl
theorem r12_0_2_0 : K (R XT0 (n 0)) (R (n 0) (n 31)) (R (n 0) (n 31)) (GM (.ofNat 3) (.ofNat 22) (.ofNat 1) (.ofNat 3) (.ofNat 1)) = true := by kernel_rfl
theorem r12_0_2_1 : K (R XT0 (n 0)) (R (n 0) (n 31)) (R (n 0) (n 31)) (GM (.ofNat 3) (.ofNat 22) (.ofNat 1) (.ofNat 3) (.ofNat 2)) = true := by kernel_rfl
theorem r12_0_2_2 : K (R XT0 (n 0)) (R (n 0) (n 31)) (R (n 0) (n 31)) (GM (.ofNat 3) (.ofNat 22) (.ofNat 1) (.ofNat 3) (.ofNat 3)) = true := by kernel_rfl
theorem r12_1_0_0 : K (R XT0 (n 0)) (R (n 0) (n 31)) (R (n 0) (n 31)) (GM (.ofNat 3) (.ofNat 22) (.ofNat 2) (.ofNat 1) (.ofNat 1)) = true := by kernel_rfl
theorem r12_1_0_1 : K (R XT0 (n 0)) (R (n 0) (n 31)) (R (n 0) (n 31)) (GM (.ofNat 3) (.ofNat 22) (.ofNat 2) (.ofNat 1) (.ofNat 2)) = true := by kernel_rfl
theorem r12_1_0_2 : K (R XT0 (n 0)) (R (n 0) (n 31)) (R (n 0) (n 31)) (GM (.ofNat 3) (.ofNat 22) (.ofNat 2) (.ofNat 1) (.ofNat 3)) = true := by kernel_rfl
theorem r12_1_1_0 : K (R XT0 (n 0)) (R XT0 (n 0)) (R (n 0) (n 31)) (GM (.ofNat 3) (.ofNat 22) (.ofNat 2) (.ofNat 2) (.ofNat 1)) = true := by kernel_rfl
theorem r12_1_1_1 : K (R XT0 (n 0)) (R XT0 (n 0)) (R (n 0) (n 31)) (GM (.ofNat 3) (.ofNat 22) (.ofNat 2) (.ofNat 2) (.ofNat 2)) = true := by kernel_rfl
theorem r12_1_1_2 : K (R XT0 (n 0)) (R XT0 (n 0)) (R (n 0) (n 31)) (GM (.ofNat 3) (.ofNat 22) (.ofNat 2) (.ofNat 2) (.ofNat 3)) = true := by kernel_rfl
theorem r12_1_2_0 : K (R XT0 (n 0)) (R (n 0) (n 31)) (R (n 0) (n 31)) (GM (.ofNat 3) (.ofNat 22) (.ofNat 2) (.ofNat 3) (.ofNat 1)) = true := by kernel_rfl
theorem r12_1_2_1 : K (R XT0 (n 0)) (R (n 0) (n 31)) (R (n 0) (n 31)) (GM (.ofNat 3) (.ofNat 22) (.ofNat 2) (.ofNat 3) (.ofNat 2)) = true := by kernel_rfl
theorem r12_1_2_2 : K (R XT0 (n 0)) (R (n 0) (n 31)) (R (n 0) (n 31)) (GM (.ofNat 3) (.ofNat 22) (.ofNat 2) (.ofNat 3) (.ofNat 3)) = true := by kernel_rfl
theorem r12_2_0_0 : K (R (n 0) (n 31)) (R (n 0) (n 31)) (R XT1 (n 0)) (GM (.ofNat 3) (.ofNat 22) (.ofNat 3) (.ofNat 1) (.ofNat 1)) = true := by kernel_rfl
theorem r12_2_0_1 : K (R (n 0) (n 31)) (R (n 0) (n 31)) (R (n 0) (n 31)) (GM (.ofNat 3) (.ofNat 22) (.ofNat 3) (.ofNat 1) (.ofNat 2)) = true := by kernel_rfl
theorem r12_2_0_2 : K (R (n 0) (n 31)) (R (n 0) (n 31)) (R (n 0) (n 31)) (GM (.ofNat 3) (.ofNat 22) (.ofNat 3) (.ofNat 1) (.ofNat 3)) = true := by kernel_rfl
theorem r12_2_1_0 : K (R (n 0) (n 31)) (R (n 0) (n 31)) (R (n 0) (n 31)) (GM (.ofNat 3) (.ofNat 22) (.ofNat 3) (.ofNat 2) (.ofNat 1)) = true := by kernel_rfl
theorem r12_2_1_1 : K (R (n 0) (n 31)) (R (n 0) (n 31)) (R XT1 (n 0)) (GM (.ofNat 3) (.ofNat 22) (.ofNat 3) (.ofNat 2) (.ofNat 2)) = true := by kernel_rfl
theorem r12_2_1_2 : K (R (n 0) (n 31)) (R (n 0) (n 31)) (R (n 0) (n 31)) (GM (.ofNat 3) (.ofNat 22) (.ofNat 3) (.ofNat 2) (.ofNat 3)) = true := by kernel_rfl
theorem r12_2_2_0 : K (R (n 0) (n 31)) (R (n 0) (n 31)) (R (n 0) (n 31)) (GM (.ofNat 3) (.ofNat 22) (.ofNat 3) (.ofNat 3) (.ofNat 1)) = true := by kernel_rfl
theorem r12_2_2_1 : K (R (n 0) (n 31)) (R (n 0) (n 31)) (R (n 0) (n 31)) (GM (.ofNat 3) (.ofNat 22) (.ofNat 3) (.ofNat 3) (.ofNat 2)) = true := by kernel_rfl
theorem r12_2_2_2 : K (R (n 0) (n 31)) (R (n 0) (n 31)) (R XT1 (n 0)) (GM (.ofNat 3) (.ofNat 22) (.ofNat 3) (.ofNat 3) (.ofNat 3)) = true := by kernel_rfl
theorem r13_0_0_0 : K (R (n 2) (n 0)) (R XT0 (n 0)) (R (n 0) (n 31)) (GM (.ofNat 4) (.ofNat 23) (.ofNat 1) (.ofNat 1) (.ofNat 1)) = true := by kernel_rfl
theorem r13_0_0_1 : K (R (n 2) (n 0)) (R XT0 (n 0)) (R (n 0) (n 31)) (GM (.ofNat 4) (.ofNat 23) (.ofNat 1) (.ofNat 1) (.ofNat 2)) = true := by kernel_rfl
theorem r13_0_0_2 : K (R (n 2) (n 0)) (R XT0 (n 0)) (R (n 0) (n 31)) (GM (.ofNat 4) (.ofNat 23) (.ofNat 1) (.ofNat 1) (.ofNat 3)) = true := by kernel_rfl
theorem r13_0_1_0 : K (R (n 2) (n 0)) (R (n 0) (n 31)) (R (n 0) (n 31)) (GM (.ofNat 4) (.ofNat 23) (.ofNat 1) (.ofNat 2) (.ofNat 1)) = true := by kernel_rfl
theorem r13_0_1_1 : K (R (n 2) (n 0)) (R (n 0) (n 31)) (R (n 0) (n 31)) (GM (.ofNat 4) (.ofNat 23) (.ofNat 1) (.ofNat 2) (.ofNat 2)) = true := by kernel_rfl
theorem r13_0_1_2 : K (R (n 2) (n 0)) (R (n 0) (n 31)) (R (n 0) (n 31)) (GM (.ofNat 4) (.ofNat 23) (.ofNat 1) (.ofNat 2) (.ofNat 3)) = true := by kernel_rfl
theorem r13_0_2_0 : K (R (n 2) (n 0)) (R (n 0) (n 31)) (R (n 0) (n 31)) (GM (.ofNat 4) (.ofNat 23) (.ofNat 1) (.ofNat 3) (.ofNat 1)) = true := by kernel_rfl
theorem r13_0_2_1 : K (R (n 2) (n 0)) (R (n 0) (n 31)) (R (n 0) (n 31)) (GM (.ofNat 4) (.ofNat 23) (.ofNat 1) (.ofNat 3) (.ofNat 2)) = true := by kernel_rfl
theorem r13_0_2_2 : K (R (n 2) (n 0)) (R (n 0) (n 31)) (R (n 0) (n 31)) (GM (.ofNat 4) (.ofNat 23) (.ofNat 1) (.ofNat 3) (.ofNat 3)) = true := by kernel_rfl
theorem r13_1_0_0 : K (R (n 0) (n 31)) (R (n 0) (n 31)) (R (n 0) (n 31)) (GM (.ofNat 4) (.ofNat 23) (.ofNat 2) (.ofNat 1) (.ofNat 1)) = true := by kernel_rfl
theorem r13_1_0_1 : K (R (n 0) (n 31)) (R (n 0) (n 31)) (R (n 0) (n 31)) (GM (.ofNat 4) (.ofNat 23) (.ofNat 2) (.ofNat 1) (.ofNat 2)) = true := by kernel_rfl
theorem r13_1_0_2 : K (R (n 0) (n 31)) (R (n 0) (n 31)) (R (n 0) (n 31)) (GM (.ofNat 4) (.ofNat 23) (.ofNat 2) (.ofNat 1) (.ofNat 3)) = true := by kernel_rfl
theorem r13_1_1_0 : K (R (n 0) (n 31)) (R XT0 (n 0)) (R (n 0) (n 31)) (GM (.ofNat 4) (.ofNat 23) (.ofNat 2) (.ofNat 2) (.ofNat 1)) = true := by kernel_rfl
theorem r13_1_1_1 : K (R (n 0) (n 31)) (R XT0 (n 0)) (R (n 0) (n 31)) (GM (.ofNat 4) (.ofNat 23) (.ofNat 2) (.ofNat 2) (.ofNat 2)) = true := by kernel_rfl
theorem r13_1_1_2 : K (R (n 0) (n 31)) (R XT0 (n 0)) (R (n 0) (n 31)) (GM (.ofNat 4) (.ofNat 23) (.ofNat 2) (.ofNat 2) (.ofNat 3)) = true := by kernel_rfl
theorem r13_1_2_0 : K (R (n 0) (n 31)) (R (n 0) (n 31)) (R (n 0) (n 31)) (GM (.ofNat 4) (.ofNat 23) (.ofNat 2) (.ofNat 3) (.ofNat 1)) = true := by kernel_rfl
theorem r13_1_2_1 : K (R (n 0) (n 31)) (R (n 0) (n 31)) (R (n 0) (n 31)) (GM (.ofNat 4) (.ofNat 23) (.ofNat 2) (.ofNat 3) (.ofNat 2)) = true := by kernel_rfl
theorem r13_1_2_2 : K (R (n 0) (n 31)) (R (n 0) (n 31)) (R (n 0) (n 31)) (GM (.ofNat 4) (.ofNat 23) (.ofNat 2) (.ofNat 3) (.ofNat 3)) = true := by kernel_rfl
theorem r13_2_0_0 : K (R (n 0) (n 31)) (R (n 0) (n 31)) (R XT1 (n 0)) (GM (.ofNat 4) (.ofNat 23) (.ofNat 3) (.ofNat 1) (.ofNat 1)) = true := by kernel_rfl
theorem r13_2_0_1 : K (R (n 0) (n 31)) (R (n 0) (n 31)) (R (n 0) (n 31)) (GM (.ofNat 4) (.ofNat 23) (.ofNat 3) (.ofNat 1) (.ofNat 2)) = true := by kernel_rfl
theorem r13_2_0_2 : K (R (n 0) (n 31)) (R (n 0) (n 31)) (R (n 0) (n 31)) (GM (.ofNat 4) (.ofNat 23) (.ofNat 3) (.ofNat 1) (.ofNat 3)) = true := by kernel_rfl
theorem r13_2_1_0 : K (R (n 0) (n 31)) (R (n 0) (n 31)) (R (n 0) (n 31)) (GM (.ofNat 4) (.ofNat 23) (.ofNat 3) (.ofNat 2) (.ofNat 1)) = true := by kernel_rfl
theorem r13_2_1_1 : K (R (n 0) (n 31)) (R (n 0) (n 31)) (R XT1 (n 0)) (GM (.ofNat 4) (.ofNat 23) (.ofNat 3) (.ofNat 2) (.ofNat 2)) = true := by kernel_rfl
theorem r13_2_1_2 : K (R (n 0) (n 31)) (R (n 0) (n 31)) (R (n 0) (n 31)) (GM (.ofNat 4) (.ofNat 23) (.ofNat 3) (.ofNat 2) (.ofNat 3)) = true := by kernel_rfl
theorem r13_2_2_0 : K (R (n 0) (n 31)) (R (n 0) (n 31)) (R (n 0) (n 31)) (GM (.ofNat 4) (.ofNat 23) (.ofNat 3) (.ofNat 3) (.ofNat 1)) = true := by kernel_rfl
theorem r13_2_2_1 : K (R (n 0) (n 31)) (R (n 0) (n 31)) (R (n 0) (n 31)) (GM (.ofNat 4) (.ofNat 23) (.ofNat 3) (.ofNat 3) (.ofNat 2)) = true := by kernel_rfl
theorem r13_2_2_2 : K (R (n 0) (n 31)) (R (n 0) (n 31)) (R XT1 (n 0)) (GM (.ofNat 4) (.ofNat 23) (.ofNat 3) (.ofNat 3) (.ofNat 3)) = true := by kernel_rfl
theorem r14_0_0_0 : K (R (n 0) (n 31)) (R (n 3) (n 0)) (R (n 0) (n 31)) (GM (.ofNat 5) (.ofNat 24) (.ofNat 1) (.ofNat 1) (.ofNat 1)) = true := by kernel_rfl
theorem r14_0_0_1 : K (R (n 0) (n 31)) (R (n 3) (n 0)) (R (n 0) (n 31)) (GM (.ofNat 5) (.ofNat 24) (.ofNat 1) (.ofNat 1) (.ofNat 2)) = true := by kernel_rfl
theorem r14_0_0_2 : K (R (n 0) (n 31)) (R (n 3) (n 0)) (R (n 0) (n 31)) (GM (.ofNat 5) (.ofNat 24) (.ofNat 1) (.ofNat 1) (.ofNat 3)) = true := by kernel_rfl
theorem r14_0_1_0 : K (R (n 0) (n 31)) (R (n 0) (n 31)) (R (n 0) (n 31)) (GM (.ofNat 5) (.ofNat 24) (.ofNat 1) (.ofNat 2) (.ofNat 1)) = true := by kernel_rfl
theorem r14_0_1_1 : K (R (n 0) (n 31)) (R (n 0) (n 31)) (R (n 0) (n 31)) (GM (.ofNat 5) (.ofNat 24) (.ofNat 1) (.ofNat 2) (.ofNat 2)) = true := by kernel_rfl
theorem r14_0_1_2 : K (R (n 0) (n 31)) (R (n 0) (n 31)) (R (n 0) (n 31)) (GM (.ofNat 5) (.ofNat 24) (.ofNat 1) (.ofNat 2) (.ofNat 3)) = true := by kernel_rfl
theorem r14_0_2_0 : K (R (n 0) (n 31)) (R (n 0) (n 31)) (R (n 0) (n 31)) (GM (.ofNat 5) (.ofNat 24) (.ofNat 1) (.ofNat 3) (.ofNat 1)) = true := by kernel_rfl
theorem r14_0_2_1 : K (R (n 0) (n 31)) (R (n 0) (n 31)) (R (n 0) (n 31)) (GM (.ofNat 5) (.ofNat 24) (.ofNat 1) (.ofNat 3) (.ofNat 2)) = true := by kernel_rfl
theorem r14_0_2_2 : K (R (n 0) (n 31)) (R (n 0) (n 31)) (R (n 0) (n 31)) (GM (.ofNat 5) (.ofNat 24) (.ofNat 1) (.ofNat 3) (.ofNat 3)) = true := by kernel_rfl
theorem r14_1_0_0 : K (R (n 1) (n 0)) (R (n 0) (n 31)) (R (n 0) (n 31)) (GM (.ofNat 5) (.ofNat 24) (.ofNat 2) (.ofNat 1) (.ofNat 1)) = true := by kernel_rfl
theorem r14_1_0_1 : K (R (n 1) (n 0)) (R (n 0) (n 31)) (R (n 0) (n 31)) (GM (.ofNat 5) (.ofNat 24) (.ofNat 2) (.ofNat 1) (.ofNat 2)) = true := by kernel_rfl
theorem r14_1_0_2 : K (R (n 1) (n 0)) (R (n 0) (n 31)) (R (n 0) (n 31)) (GM (.ofNat 5) (.ofNat 24) (.ofNat 2) (.ofNat 1) (.ofNat 3)) = true := by kernel_rfl
theorem r14_1_1_0 : K (R (n 1) (n 0)) (R (n 3) (n 0)) (R (n 0) (n 31)) (GM (.ofNat 5) (.ofNat 24) (.ofNat 2) (.ofNat 2) (.ofNat 1)) = true := by kernel_rfl
theorem r14_1_1_1 : K (R (n 1) (n 0)) (R (n 3) (n 0)) (R (n 0) (n 31)) (GM (.ofNat 5) (.ofNat 24) (.ofNat 2) (.ofNat 2) (.ofNat 2)) = true := by kernel_rfl
theorem r14_1_1_2 : K (R (n 1) (n 0)) (R (n 3) (n 0)) (R (n 0) (n 31)) (GM (.ofNat 5) (.ofNat 24) (.ofNat 2) (.ofNat 2) (.ofNat 3)) = true := by kernel_rfl
theorem r14_1_2_0 : K (R (n 1) (n 0)) (R (n 0) (n 31)) (R (n 0) (n 31)) (GM (.ofNat 5) (.ofNat 24) (.ofNat 2) (.ofNat 3) (.ofNat 1)) = true := by kernel_rfl
theorem r14_1_2_1 : K (R (n 1) (n 0)) (R (n 0) (n 31)) (R (n 0) (n 31)) (GM (.ofNat 5) (.ofNat 24) (.ofNat 2) (.ofNat 3) (.ofNat 2)) = true := by kernel_rfl
theorem r14_1_2_2 : K (R (n 1) (n 0)) (R (n 0) (n 31)) (R (n 0) (n 31)) (GM (.ofNat 5) (.ofNat 24) (.ofNat 2) (.ofNat 3) (.ofNat 3)) = true := by kernel_rfl
theorem r14_2_0_0 : K (R (n 0) (n 31)) (R (n 0) (n 31)) (R XT1 (n 0)) (GM (.ofNat 5) (.ofNat 24) (.ofNat 3) (.ofNat 1) (.ofNat 1)) = true := by kernel_rfl
theorem r14_2_0_1 : K (R (n 0) (n 31)) (R (n 0) (n 31)) (R (n 0) (n 31)) (GM (.ofNat 5) (.ofNat 24) (.ofNat 3) (.ofNat 1) (.ofNat 2)) = true := by kernel_rfl
theorem r14_2_0_2 : K (R (n 0) (n 31)) (R (n 0) (n 31)) (R (n 0) (n 31)) (GM (.ofNat 5) (.ofNat 24) (.ofNat 3) (.ofNat 1) (.ofNat 3)) = true := by kernel_rfl
theorem r14_2_1_0 : K (R (n 0) (n 31)) (R (n 0) (n 31)) (R (n 0) (n 31)) (GM (.ofNat 5) (.ofNat 24) (.ofNat 3) (.ofNat 2) (.ofNat 1)) = true := by kernel_rfl
theorem r14_2_1_1 : K (R (n 0) (n 31)) (R (n 0) (n 31)) (R XT1 (n 0)) (GM (.ofNat 5) (.ofNat 24) (.ofNat 3) (.ofNat 2) (.ofNat 2)) = true := by kernel_rfl
theorem r14_2_1_2 : K (R (n 0) (n 31)) (R (n 0) (n 31)) (R (n 0) (n 31)) (GM (.ofNat 5) (.ofNat 24) (.ofNat 3) (.ofNat 2) (.ofNat 3)) = true := by kernel_rfl
theorem r14_2_2_0 : K (R (n 0) (n 31)) (R (n 3) (n 0)) (R (n 0) (n 31)) (GM (.ofNat 5) (.ofNat 24) (.ofNat 3) (.ofNat 3) (.ofNat 1)) = true := by kernel_rfl
theorem r14_2_2_1 : K (R (n 0) (n 31)) (R (n 3) (n 0)) (R (n 0) (n 31)) (GM (.ofNat 5) (.ofNat 24) (.ofNat 3) (.ofNat 3) (.ofNat 2)) = true := by kernel_rfl
theorem r14_2_2_2 : K (R (n 0) (n 31)) (R (n 3) (n 0)) (R XT1 (n 0)) (GM (.ofNat 5) (.ofNat 24) (.ofNat 3) (.ofNat 3) (.ofNat 3)) = true := by kernel_rfl
theorem r15_0_0_0 : K (R XT0 (n 0)) (R (n 3) (n 0)) (R (n 0) (n 31)) (GM (.ofNat 1) (.ofNat 25) (.ofNat 1) (.ofNat 1) (.ofNat 1)) = true := by kernel_rfl
theorem r15_0_0_1 : K (R XT0 (n 0)) (R (n 3) (n 0)) (R (n 0) (n 31)) (GM (.ofNat 1) (.ofNat 25) (.ofNat 1) (.ofNat 1) (.ofNat 2)) = true := by kernel_rfl
theorem r15_0_0_2 : K (R XT0 (n 0)) (R (n 3) (n 0)) (R (n 0) (n 31)) (GM (.ofNat 1) (.ofNat 25) (.ofNat 1) (.ofNat 1) (.ofNat 3)) = true := by kernel_rfl
theorem r15_0_1_0 : K (R XT0 (n 0)) (R (n 0) (n 31)) (R (n 0) (n 31)) (GM (.ofNat 1) (.ofNat 25) (.ofNat 1) (.ofNat 2) (.ofNat 1)) = true := by kernel_rfl
theorem r15_0_1_1 : K (R XT0 (n 0)) (R (n 0) (n 31)) (R (n 0) (n 31)) (GM (.ofNat 1) (.ofNat 25) (.ofNat 1) (.ofNat 2) (.ofNat 2)) = true := by kernel_rfl
theorem r15_0_1_2 : K (R XT0 (n 0)) (R (n 0) (n 31)) (R (n 0) (n 31)) (GM (.ofNat 1) (.ofNat 25) (.ofNat 1) (.ofNat 2) (.ofNat 3)) = true := by kernel_rfl
theorem r15_0_2_0 : K (R XT0 (n 0)) (R (n 0) (n 31)) (R (n 0) (n 31)) (GM (.ofNat 1) (.ofNat 25) (.ofNat 1) (.ofNat 3) (.ofNat 1)) = true := by kernel_rfl
theorem r15_0_2_1 : K (R XT0 (n 0)) (R (n 0) (n 31)) (R (n 0) (n 31)) (GM (.ofNat 1) (.ofNat 25) (.ofNat 1) (.ofNat 3) (.ofNat 2)) = true := by kernel_rfl
theorem r15_0_2_2 : K (R XT0 (n 0)) (R (n 0) (n 31)) (R (n 0) (n 31)) (GM (.ofNat 1) (.ofNat 25) (.ofNat 1) (.ofNat 3) (.ofNat 3)) = true := by kernel_rfl
theorem r15_1_0_0 : K (R XT0 (n 0)) (R (n 0) (n 31)) (R (n 0) (n 31)) (GM (.ofNat 1) (.ofNat 25) (.ofNat 2) (.ofNat 1) (.ofNat 1)) = true := by kernel_rfl
theorem r15_1_0_1 : K (R XT0 (n 0)) (R (n 0) (n 31)) (R (n 0) (n 31)) (GM (.ofNat 1) (.ofNat 25) (.ofNat 2) (.ofNat 1) (.ofNat 2)) = true := by kernel_rfl
theorem r15_1_0_2 : K (R XT0 (n 0)) (R (n 0) (n 31)) (R (n 0) (n 31)) (GM (.ofNat 1) (.ofNat 25) (.ofNat 2) (.ofNat 1) (.ofNat 3)) = true := by kernel_rfl
theorem r15_1_1_0 : K (R XT0 (n 0)) (R (n 3) (n 0)) (R (n 0) (n 31)) (GM (.ofNat 1) (.ofNat 25) (.ofNat 2) (.ofNat 2) (.ofNat 1)) = true := by kernel_rfl
theorem r15_1_1_1 : K (R XT0 (n 0)) (R (n 3) (n 0)) (R (n 0) (n 31)) (GM (.ofNat 1) (.ofNat 25) (.ofNat 2) (.ofNat 2) (.ofNat 2)) = true := by kernel_rfl
theorem r15_1_1_2 : K (R XT0 (n 0)) (R (n 3) (n 0)) (R (n 0) (n 31)) (GM (.ofNat 1) (.ofNat 25) (.ofNat 2) (.ofNat 2) (.ofNat 3)) = true := by kernel_rfl
theorem r15_1_2_0 : K (R XT0 (n 0)) (R (n 0) (n 31)) (R (n 0) (n 31)) (GM (.ofNat 1) (.ofNat 25) (.ofNat 2) (.ofNat 3) (.ofNat 1)) = true := by kernel_rfl
theorem r15_1_2_1 : K (R XT0 (n 0)) (R (n 0) (n 31)) (R (n 0) (n 31)) (GM (.ofNat 1) (.ofNat 25) (.ofNat 2) (.ofNat 3) (.ofNat 2)) = true := by kernel_rfl
theorem r15_1_2_2 : K (R XT0 (n 0)) (R (n 0) (n 31)) (R (n 0) (n 31)) (GM (.ofNat 1) (.ofNat 25) (.ofNat 2) (.ofNat 3) (.ofNat 3)) = true := by kernel_rfl
theorem r15_2_0_0 : K (R (n 0) (n 31)) (R (n 0) (n 31)) (R XT1 (n 0)) (GM (.ofNat 1) (.ofNat 25) (.ofNat 3) (.ofNat 1) (.ofNat 1)) = true := by kernel_rfl
theorem r15_2_0_1 : K (R (n 0) (n 31)) (R (n 0) (n 31)) (R (n 0) (n 31)) (GM (.ofNat 1) (.ofNat 25) (.ofNat 3) (.ofNat 1) (.ofNat 2)) = true := by kernel_rfl
theorem r15_2_0_2 : K (R (n 0) (n 31)) (R (n 0) (n 31)) (R (n 0) (n 31)) (GM (.ofNat 1) (.ofNat 25) (.ofNat 3) (.ofNat 1) (.ofNat 3)) = true := by kernel_rfl
theorem r15_2_1_0 : K (R (n 0) (n 31)) (R (n 0) (n 31)) (R (n 0) (n 31)) (GM (.ofNat 1) (.ofNat 25) (.ofNat 3) (.ofNat 2) (.ofNat 1)) = true := by kernel_rfl
theorem r15_2_1_1 : K (R (n 0) (n 31)) (R (n 0) (n 31)) (R XT1 (n 0)) (GM (.ofNat 1) (.ofNat 25) (.ofNat 3) (.ofNat 2) (.ofNat 2)) = true := by kernel_rfl
theorem r15_2_1_2 : K (R (n 0) (n 31)) (R (n 0) (n 31)) (R (n 0) (n 31)) (GM (.ofNat 1) (.ofNat 25) (.ofNat 3) (.ofNat 2) (.ofNat 3)) = true := by kernel_rfl
theorem r15_2_2_0 : K (R (n 0) (n 31)) (R (n 3) (n 0)) (R (n 0) (n 31)) (GM (.ofNat 1) (.ofNat 25) (.ofNat 3) (.ofNat 3) (.ofNat 1)) = true := by kernel_rfl
theorem r15_2_2_1 : K (R (n 0) (n 31)) (R (n 3) (n 0)) (R (n 0) (n 31)) (GM (.ofNat 1) (.ofNat 25) (.ofNat 3) (.ofNat 3) (.ofNat 2)) = true := by kernel_rfl
theorem r15_2_2_2 : K (R (n 0) (n 31)) (R (n 3) (n 0)) (R XT1 (n 0)) (GM (.ofNat 1) (.ofNat 25) (.ofNat 3) (.ofNat 3) (.ofNat 3)) = true := by kernel_rfl
end Go.Proofs.YtphhdonkpijhhaaGreatDoor.Am.TypesOperators
