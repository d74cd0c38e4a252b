/- Known calls: runs on pieces of memory. -/
import Derived.Test.YtphhdonkpijhhaaGreatDoorTypesOperatorsF
set_option linter.all false
namespace Go.Proofs.YtphhdonkpijhhaaGreatDoor.Am.TypesOperators
open Go.AM
set_option maxRecDepth 100000
theorem eB1_1_1 : KB (GB (.ofNat 11) (.ofNat 1) (.negSucc 10) (.ofNat 2) (.ofNat 2)) (R XT0 (n 0)) = true := by kernel_rfl
theorem eB1_1_2 : KB (GB (.ofNat 11) (.ofNat 1) (.negSucc 10) (.ofNat 2) (.ofNat 3)) (R (n 0) (n 31)) = true := by kernel_rfl
theorem eB1_2_0 : KB (GB (.ofNat 11) (.ofNat 1) (.negSucc 10) (.ofNat 3) (.ofNat 1)) (R (n 0) (n 31)) = true := by kernel_rfl
theorem eB1_2_1 : KB (GB (.ofNat 11) (.ofNat 1) (.negSucc 10) (.ofNat 3) (.ofNat 2)) (R (n 0) (n 31)) = true := by kernel_rfl
theorem eB1_2_2 : KB (GB (.ofNat 11) (.ofNat 1) (.negSucc 10) (.ofNat 3) (.ofNat 3)) (R (n 0) (n 31)) = true := by kernel_rfl
theorem eB2_0_0 : KB (GB (.ofNat 12) (.ofNat 2) (.negSucc 9) (.ofNat 1) (.ofNat 1)) (R XT0 (n 0)) = true := by kernel_rfl
theorem eB2_0_1 : KB (GB (.ofNat 12) (.ofNat 2) (.negSucc 9) (.ofNat 1) (.ofNat 2)) (R (n 0) (n 31)) = true := by kernel_rfl
theorem eB2_0_2 : KB (GB (.ofNat 12) (.ofNat 2) (.negSucc 9) (.ofNat 1) (.ofNat 3)) (R (n 0) (n 31)) = true := by kernel_rfl
theorem eB2_1_0 : KB (GB (.ofNat 12) (.ofNat 2) (.negSucc 9) (.ofNat 2) (.ofNat 1)) (R (n 0) (n 31)) = true := by kernel_rfl
theorem eB2_1_1 : KB (GB (.ofNat 12) (.ofNat 2) (.negSucc 9) (.ofNat 2) (.ofNat 2)) (R (n 0) (n 31)) = true := by kernel_rfl
theorem eB2_1_2 : KB (GB (.ofNat 12) (.ofNat 2) (.negSucc 9) (.ofNat 2) (.ofNat 3)) (R (n 0) (n 31)) = true := by kernel_rfl
theorem eB2_2_0 : KB (GB (.ofNat 12) (.ofNat 2) (.negSucc 9) (.ofNat 3) (.ofNat 1)) (R (n 0) (n 31)) = true := by kernel_rfl
theorem eB2_2_1 : KB (GB (.ofNat 12) (.ofNat 2) (.negSucc 9) (.ofNat 3) (.ofNat 2)) (R (n 0) (n 31)) = true := by kernel_rfl
theorem eB2_2_2 : KB (GB (.ofNat 12) (.ofNat 2) (.negSucc 9) (.ofNat 3) (.ofNat 3)) (R (n 0) (n 31)) = true := by kernel_rfl
theorem eB3_0_0 : KB (GB (.ofNat 13) (.ofNat 3) (.negSucc 8) (.ofNat 1) (.ofNat 1)) (R XT0 (n 0)) = true := by kernel_rfl
theorem eB3_0_1 : KB (GB (.ofNat 13) (.ofNat 3) (.negSucc 8) (.ofNat 1) (.ofNat 2)) (R (n 0) (n 31)) = true := by kernel_rfl
theorem eB3_0_2 : KB (GB (.ofNat 13) (.ofNat 3) (.negSucc 8) (.ofNat 1) (.ofNat 3)) (R (n 0) (n 31)) = true := by kernel_rfl
theorem eB3_1_0 : KB (GB (.ofNat 13) (.ofNat 3) (.negSucc 8) (.ofNat 2) (.ofNat 1)) (R (n 0) (n 31)) = true := by kernel_rfl
theorem eB3_1_1 : KB (GB (.ofNat 13) (.ofNat 3) (.negSucc 8) (.ofNat 2) (.ofNat 2)) (R (n 0) (n 31)) = true := by kernel_rfl
theorem eB3_1_2 : KB (GB (.ofNat 13) (.ofNat 3) (.negSucc 8) (.ofNat 2) (.ofNat 3)) (R (n 0) (n 31)) = true := by kernel_rfl
theorem eB3_2_0 : KB (GB (.ofNat 13) (.ofNat 3) (.negSucc 8) (.ofNat 3) (.ofNat 1)) (R (n 0) (n 31)) = true := by kernel_rfl
theorem eB3_2_1 : KB (GB (.ofNat 13) (.ofNat 3) (.negSucc 8) (.ofNat 3) (.ofNat 2)) (R (n 0) (n 31)) = true := by kernel_rfl
theorem eB3_2_2 : KB (GB (.ofNat 13) (.ofNat 3) (.negSucc 8) (.ofNat 3) (.ofNat 3)) (R (n 0) (n 31)) = true := by kernel_rfl
theorem eB4_0_0 : KB (GB (.ofNat 14) (.ofNat 4) (.negSucc 7) (.ofNat 1) (.ofNat 1)) (R XT0 (n 0)) = true := by kernel_rfl
theorem eB4_0_1 : KB (GB (.ofNat 14) (.ofNat 4) (.negSucc 7) (.ofNat 1) (.ofNat 2)) (R (n 0) (n 31)) = true := by kernel_rfl
theorem eB4_0_2 : KB (GB (.ofNat 14) (.ofNat 4) (.negSucc 7) (.ofNat 1) (.ofNat 3)) (R (n 0) (n 31)) = true := by kernel_rfl
theorem eB4_1_0 : KB (GB (.ofNat 14) (.ofNat 4) (.negSucc 7) (.ofNat 2) (.ofNat 1)) (R (n 0) (n 31)) = true := by kernel_rfl
theorem eB4_1_1 : KB (GB (.ofNat 14) (.ofNat 4) (.negSucc 7) (.ofNat 2) (.ofNat 2)) (R (n 0) (n 31)) = true := by kernel_rfl
end Go.Proofs.YtphhdonkpijhhaaGreatDoor.Am.TypesOperators
