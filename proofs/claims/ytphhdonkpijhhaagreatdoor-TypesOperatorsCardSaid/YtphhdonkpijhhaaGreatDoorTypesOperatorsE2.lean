/- Known calls: runs on pieces of memory. -/
import Derived.Test.YtphhdonkpijhhaaGreatDoorTypesOperatorsF
set_option linter.all false
namespace Go.Proofs.YtphhdonkpijhhaaGreatDoor.Am.TypesOperators
open Go.AM
set_option maxRecDepth 100000
theorem eB4_1_2 : KB (GB (.ofNat 14) (.ofNat 4) (.negSucc 7) (.ofNat 2) (.ofNat 3)) (R (n 0) (n 31)) = true := by kernel_rfl
theorem eB4_2_0 : KB (GB (.ofNat 14) (.ofNat 4) (.negSucc 7) (.ofNat 3) (.ofNat 1)) (R (n 0) (n 31)) = true := by kernel_rfl
theorem eB4_2_1 : KB (GB (.ofNat 14) (.ofNat 4) (.negSucc 7) (.ofNat 3) (.ofNat 2)) (R (n 0) (n 31)) = true := by kernel_rfl
theorem eB4_2_2 : KB (GB (.ofNat 14) (.ofNat 4) (.negSucc 7) (.ofNat 3) (.ofNat 3)) (R (n 0) (n 31)) = true := by kernel_rfl
theorem eB5_0_0 : KB (GB (.ofNat 15) (.ofNat 5) (.negSucc 6) (.ofNat 1) (.ofNat 1)) (R (n 0) (n 31)) = true := by kernel_rfl
theorem eB5_0_1 : KB (GB (.ofNat 15) (.ofNat 5) (.negSucc 6) (.ofNat 1) (.ofNat 2)) (R (n 0) (n 31)) = true := by kernel_rfl
theorem eB5_0_2 : KB (GB (.ofNat 15) (.ofNat 5) (.negSucc 6) (.ofNat 1) (.ofNat 3)) (R (n 0) (n 31)) = true := by kernel_rfl
theorem eB5_1_0 : KB (GB (.ofNat 15) (.ofNat 5) (.negSucc 6) (.ofNat 2) (.ofNat 1)) (R (n 0) (n 31)) = true := by kernel_rfl
theorem eB5_1_1 : KB (GB (.ofNat 15) (.ofNat 5) (.negSucc 6) (.ofNat 2) (.ofNat 2)) (R XT0 (n 0)) = true := by kernel_rfl
theorem eB5_1_2 : KB (GB (.ofNat 15) (.ofNat 5) (.negSucc 6) (.ofNat 2) (.ofNat 3)) (R (n 0) (n 31)) = true := by kernel_rfl
theorem eB5_2_0 : KB (GB (.ofNat 15) (.ofNat 5) (.negSucc 6) (.ofNat 3) (.ofNat 1)) (R (n 0) (n 31)) = true := by kernel_rfl
theorem eB5_2_1 : KB (GB (.ofNat 15) (.ofNat 5) (.negSucc 6) (.ofNat 3) (.ofNat 2)) (R (n 0) (n 31)) = true := by kernel_rfl
theorem eB5_2_2 : KB (GB (.ofNat 15) (.ofNat 5) (.negSucc 6) (.ofNat 3) (.ofNat 3)) (R (n 0) (n 31)) = true := by kernel_rfl
theorem eB6_0_0 : KB (GB (.ofNat 16) (.ofNat 6) (.negSucc 5) (.ofNat 1) (.ofNat 1)) (R (n 0) (n 31)) = true := by kernel_rfl
theorem eB6_0_1 : KB (GB (.ofNat 16) (.ofNat 6) (.negSucc 5) (.ofNat 1) (.ofNat 2)) (R (n 0) (n 31)) = true := by kernel_rfl
theorem eB6_0_2 : KB (GB (.ofNat 16) (.ofNat 6) (.negSucc 5) (.ofNat 1) (.ofNat 3)) (R (n 0) (n 31)) = true := by kernel_rfl
theorem eB6_1_0 : KB (GB (.ofNat 16) (.ofNat 6) (.negSucc 5) (.ofNat 2) (.ofNat 1)) (R (n 0) (n 31)) = true := by kernel_rfl
theorem eB6_1_1 : KB (GB (.ofNat 16) (.ofNat 6) (.negSucc 5) (.ofNat 2) (.ofNat 2)) (R XT0 (n 0)) = true := by kernel_rfl
theorem eB6_1_2 : KB (GB (.ofNat 16) (.ofNat 6) (.negSucc 5) (.ofNat 2) (.ofNat 3)) (R (n 0) (n 31)) = true := by kernel_rfl
theorem eB6_2_0 : KB (GB (.ofNat 16) (.ofNat 6) (.negSucc 5) (.ofNat 3) (.ofNat 1)) (R (n 0) (n 31)) = true := by kernel_rfl
theorem eB6_2_1 : KB (GB (.ofNat 16) (.ofNat 6) (.negSucc 5) (.ofNat 3) (.ofNat 2)) (R (n 0) (n 31)) = true := by kernel_rfl
theorem eB6_2_2 : KB (GB (.ofNat 16) (.ofNat 6) (.negSucc 5) (.ofNat 3) (.ofNat 3)) (R (n 0) (n 31)) = true := by kernel_rfl
theorem eB7_0_0 : KB (GB (.ofNat 17) (.ofNat 7) (.negSucc 4) (.ofNat 1) (.ofNat 1)) (R XT0 (n 0)) = true := by kernel_rfl
theorem eB7_0_1 : KB (GB (.ofNat 17) (.ofNat 7) (.negSucc 4) (.ofNat 1) (.ofNat 2)) (R (n 0) (n 31)) = true := by kernel_rfl
theorem eB7_0_2 : KB (GB (.ofNat 17) (.ofNat 7) (.negSucc 4) (.ofNat 1) (.ofNat 3)) (R (n 0) (n 31)) = true := by kernel_rfl
theorem eB7_1_0 : KB (GB (.ofNat 17) (.ofNat 7) (.negSucc 4) (.ofNat 2) (.ofNat 1)) (R (n 0) (n 31)) = true := by kernel_rfl
theorem eB7_1_1 : KB (GB (.ofNat 17) (.ofNat 7) (.negSucc 4) (.ofNat 2) (.ofNat 2)) (R (n 0) (n 31)) = true := by kernel_rfl
theorem eB7_1_2 : KB (GB (.ofNat 17) (.ofNat 7) (.negSucc 4) (.ofNat 2) (.ofNat 3)) (R (n 0) (n 31)) = true := by kernel_rfl
end Go.Proofs.YtphhdonkpijhhaaGreatDoor.Am.TypesOperators
