/- Known calls: runs on pieces of memory. -/
import Derived.Test.YtphhdonkpijhhaaGreatDoorTypesOperatorsF
set_option linter.all false
namespace Go.Proofs.YtphhdonkpijhhaaGreatDoor.Am.TypesOperators
open Go.AM
set_option maxRecDepth 100000
theorem eB13_2_2 : KB (GB (.ofNat 23) (.ofNat 13) (.ofNat 1) (.ofNat 3) (.ofNat 3)) (R (n 0) (n 31)) = true := by kernel_rfl
theorem eB14_0_0 : KB (GB (.ofNat 24) (.ofNat 14) (.ofNat 2) (.ofNat 1) (.ofNat 1)) (R (n 3) (n 0)) = true := by kernel_rfl
theorem eB14_0_1 : KB (GB (.ofNat 24) (.ofNat 14) (.ofNat 2) (.ofNat 1) (.ofNat 2)) (R (n 0) (n 31)) = true := by kernel_rfl
theorem eB14_0_2 : KB (GB (.ofNat 24) (.ofNat 14) (.ofNat 2) (.ofNat 1) (.ofNat 3)) (R (n 0) (n 31)) = true := by kernel_rfl
theorem eB14_1_0 : KB (GB (.ofNat 24) (.ofNat 14) (.ofNat 2) (.ofNat 2) (.ofNat 1)) (R (n 0) (n 31)) = true := by kernel_rfl
theorem eB14_1_1 : KB (GB (.ofNat 24) (.ofNat 14) (.ofNat 2) (.ofNat 2) (.ofNat 2)) (R (n 3) (n 0)) = true := by kernel_rfl
theorem eB14_1_2 : KB (GB (.ofNat 24) (.ofNat 14) (.ofNat 2) (.ofNat 2) (.ofNat 3)) (R (n 0) (n 31)) = true := by kernel_rfl
theorem eB14_2_0 : KB (GB (.ofNat 24) (.ofNat 14) (.ofNat 2) (.ofNat 3) (.ofNat 1)) (R (n 0) (n 31)) = true := by kernel_rfl
theorem eB14_2_1 : KB (GB (.ofNat 24) (.ofNat 14) (.ofNat 2) (.ofNat 3) (.ofNat 2)) (R (n 0) (n 31)) = true := by kernel_rfl
theorem eB14_2_2 : KB (GB (.ofNat 24) (.ofNat 14) (.ofNat 2) (.ofNat 3) (.ofNat 3)) (R (n 3) (n 0)) = true := by kernel_rfl
theorem eB15_0_0 : KB (GB (.ofNat 25) (.ofNat 15) (.ofNat 3) (.ofNat 1) (.ofNat 1)) (R (n 3) (n 0)) = true := by kernel_rfl
theorem eB15_0_1 : KB (GB (.ofNat 25) (.ofNat 15) (.ofNat 3) (.ofNat 1) (.ofNat 2)) (R (n 0) (n 31)) = true := by kernel_rfl
theorem eB15_0_2 : KB (GB (.ofNat 25) (.ofNat 15) (.ofNat 3) (.ofNat 1) (.ofNat 3)) (R (n 0) (n 31)) = true := by kernel_rfl
theorem eB15_1_0 : KB (GB (.ofNat 25) (.ofNat 15) (.ofNat 3) (.ofNat 2) (.ofNat 1)) (R (n 0) (n 31)) = true := by kernel_rfl
theorem eB15_1_1 : KB (GB (.ofNat 25) (.ofNat 15) (.ofNat 3) (.ofNat 2) (.ofNat 2)) (R (n 3) (n 0)) = true := by kernel_rfl
theorem eB15_1_2 : KB (GB (.ofNat 25) (.ofNat 15) (.ofNat 3) (.ofNat 2) (.ofNat 3)) (R (n 0) (n 31)) = true := by kernel_rfl
theorem eB15_2_0 : KB (GB (.ofNat 25) (.ofNat 15) (.ofNat 3) (.ofNat 3) (.ofNat 1)) (R (n 0) (n 31)) = true := by kernel_rfl
theorem eB15_2_1 : KB (GB (.ofNat 25) (.ofNat 15) (.ofNat 3) (.ofNat 3) (.ofNat 2)) (R (n 0) (n 31)) = true := by kernel_rfl
theorem eB15_2_2 : KB (GB (.ofNat 25) (.ofNat 15) (.ofNat 3) (.ofNat 3) (.ofNat 3)) (R (n 3) (n 0)) = true := by kernel_rfl
theorem eB16_0_0 : KB (GB (.ofNat 26) (.ofNat 16) (.ofNat 4) (.ofNat 1) (.ofNat 1)) (R (n 3) (n 0)) = true := by kernel_rfl
theorem eB16_0_1 : KB (GB (.ofNat 26) (.ofNat 16) (.ofNat 4) (.ofNat 1) (.ofNat 2)) (R (n 0) (n 31)) = true := by kernel_rfl
theorem eB16_0_2 : KB (GB (.ofNat 26) (.ofNat 16) (.ofNat 4) (.ofNat 1) (.ofNat 3)) (R (n 0) (n 31)) = true := by kernel_rfl
theorem eB16_1_0 : KB (GB (.ofNat 26) (.ofNat 16) (.ofNat 4) (.ofNat 2) (.ofNat 1)) (R (n 0) (n 31)) = true := by kernel_rfl
theorem eB16_1_1 : KB (GB (.ofNat 26) (.ofNat 16) (.ofNat 4) (.ofNat 2) (.ofNat 2)) (R (n 3) (n 0)) = true := by kernel_rfl
theorem eB16_1_2 : KB (GB (.ofNat 26) (.ofNat 16) (.ofNat 4) (.ofNat 2) (.ofNat 3)) (R (n 0) (n 31)) = true := by kernel_rfl
theorem eB16_2_0 : KB (GB (.ofNat 26) (.ofNat 16) (.ofNat 4) (.ofNat 3) (.ofNat 1)) (R (n 0) (n 31)) = true := by kernel_rfl
theorem eB16_2_1 : KB (GB (.ofNat 26) (.ofNat 16) (.ofNat 4) (.ofNat 3) (.ofNat 2)) (R (n 0) (n 31)) = true := by kernel_rfl
theorem eB16_2_2 : KB (GB (.ofNat 26) (.ofNat 16) (.ofNat 4) (.ofNat 3) (.ofNat 3)) (R (n 0) (n 31)) = true := by kernel_rfl
end Go.Proofs.YtphhdonkpijhhaaGreatDoor.Am.TypesOperators
