/- Known calls: runs on pieces of memory. -/
import Derived.Test.YtphhdonkpijhhaaGreatDoorTypesOperatorsF
set_option linter.all false
namespace Go.Proofs.YtphhdonkpijhhaaGreatDoor.Am.TypesOperators
open Go.AM
set_option maxRecDepth 100000
theorem eB17_0_0 : KB (GB (.ofNat 27) (.ofNat 17) (.ofNat 5) (.ofNat 1) (.ofNat 1)) (R (n 3) (n 0)) = true := by kernel_rfl
theorem eB17_0_1 : KB (GB (.ofNat 27) (.ofNat 17) (.ofNat 5) (.ofNat 1) (.ofNat 2)) (R (n 0) (n 31)) = true := by kernel_rfl
theorem eB17_0_2 : KB (GB (.ofNat 27) (.ofNat 17) (.ofNat 5) (.ofNat 1) (.ofNat 3)) (R (n 0) (n 31)) = true := by kernel_rfl
theorem eB17_1_0 : KB (GB (.ofNat 27) (.ofNat 17) (.ofNat 5) (.ofNat 2) (.ofNat 1)) (R (n 0) (n 31)) = true := by kernel_rfl
theorem eB17_1_1 : KB (GB (.ofNat 27) (.ofNat 17) (.ofNat 5) (.ofNat 2) (.ofNat 2)) (R (n 3) (n 0)) = true := by kernel_rfl
theorem eB17_1_2 : KB (GB (.ofNat 27) (.ofNat 17) (.ofNat 5) (.ofNat 2) (.ofNat 3)) (R (n 0) (n 31)) = true := by kernel_rfl
theorem eB17_2_0 : KB (GB (.ofNat 27) (.ofNat 17) (.ofNat 5) (.ofNat 3) (.ofNat 1)) (R (n 0) (n 31)) = true := by kernel_rfl
theorem eB17_2_1 : KB (GB (.ofNat 27) (.ofNat 17) (.ofNat 5) (.ofNat 3) (.ofNat 2)) (R (n 0) (n 31)) = true := by kernel_rfl
theorem eB17_2_2 : KB (GB (.ofNat 27) (.ofNat 17) (.ofNat 5) (.ofNat 3) (.ofNat 3)) (R (n 0) (n 31)) = true := by kernel_rfl
theorem eB18_0_0 : KB (GB (.ofNat 28) (.ofNat 18) (.ofNat 6) (.ofNat 1) (.ofNat 1)) (R (n 3) (n 0)) = true := by kernel_rfl
theorem eB18_0_1 : KB (GB (.ofNat 28) (.ofNat 18) (.ofNat 6) (.ofNat 1) (.ofNat 2)) (R (n 0) (n 31)) = true := by kernel_rfl
theorem eB18_0_2 : KB (GB (.ofNat 28) (.ofNat 18) (.ofNat 6) (.ofNat 1) (.ofNat 3)) (R (n 0) (n 31)) = true := by kernel_rfl
theorem eB18_1_0 : KB (GB (.ofNat 28) (.ofNat 18) (.ofNat 6) (.ofNat 2) (.ofNat 1)) (R (n 0) (n 31)) = true := by kernel_rfl
theorem eB18_1_1 : KB (GB (.ofNat 28) (.ofNat 18) (.ofNat 6) (.ofNat 2) (.ofNat 2)) (R (n 3) (n 0)) = true := by kernel_rfl
theorem eB18_1_2 : KB (GB (.ofNat 28) (.ofNat 18) (.ofNat 6) (.ofNat 2) (.ofNat 3)) (R (n 0) (n 31)) = true := by kernel_rfl
theorem eB18_2_0 : KB (GB (.ofNat 28) (.ofNat 18) (.ofNat 6) (.ofNat 3) (.ofNat 1)) (R (n 0) (n 31)) = true := by kernel_rfl
theorem eB18_2_1 : KB (GB (.ofNat 28) (.ofNat 18) (.ofNat 6) (.ofNat 3) (.ofNat 2)) (R (n 0) (n 31)) = true := by kernel_rfl
theorem eB18_2_2 : KB (GB (.ofNat 28) (.ofNat 18) (.ofNat 6) (.ofNat 3) (.ofNat 3)) (R (n 0) (n 31)) = true := by kernel_rfl
theorem eB19_0_0 : KB (GB (.ofNat 29) (.ofNat 19) (.ofNat 7) (.ofNat 1) (.ofNat 1)) (R (n 3) (n 0)) = true := by kernel_rfl
theorem eB19_0_1 : KB (GB (.ofNat 29) (.ofNat 19) (.ofNat 7) (.ofNat 1) (.ofNat 2)) (R (n 0) (n 31)) = true := by kernel_rfl
theorem eB19_0_2 : KB (GB (.ofNat 29) (.ofNat 19) (.ofNat 7) (.ofNat 1) (.ofNat 3)) (R (n 0) (n 31)) = true := by kernel_rfl
theorem eB19_1_0 : KB (GB (.ofNat 29) (.ofNat 19) (.ofNat 7) (.ofNat 2) (.ofNat 1)) (R (n 0) (n 31)) = true := by kernel_rfl
theorem eB19_1_1 : KB (GB (.ofNat 29) (.ofNat 19) (.ofNat 7) (.ofNat 2) (.ofNat 2)) (R (n 3) (n 0)) = true := by kernel_rfl
theorem eB19_1_2 : KB (GB (.ofNat 29) (.ofNat 19) (.ofNat 7) (.ofNat 2) (.ofNat 3)) (R (n 0) (n 31)) = true := by kernel_rfl
theorem eB19_2_0 : KB (GB (.ofNat 29) (.ofNat 19) (.ofNat 7) (.ofNat 3) (.ofNat 1)) (R (n 0) (n 31)) = true := by kernel_rfl
theorem eB19_2_1 : KB (GB (.ofNat 29) (.ofNat 19) (.ofNat 7) (.ofNat 3) (.ofNat 2)) (R (n 0) (n 31)) = true := by kernel_rfl
theorem eB19_2_2 : KB (GB (.ofNat 29) (.ofNat 19) (.ofNat 7) (.ofNat 3) (.ofNat 3)) (R (n 0) (n 31)) = true := by kernel_rfl
theorem eC0_0_0 : KC (GC (.ofNat 1) (.ofNat 1) (.ofNat 1)) (R (n 0) (n 31)) = true := by kernel_rfl
end Go.Proofs.YtphhdonkpijhhaaGreatDoor.Am.TypesOperators
