/- Known calls: runs on pieces of memory. -/
import Derived.Test.YtphhdonkpijhhaaGreatDoorTypesOperatorsF
set_option linter.all false
namespace Go.Proofs.YtphhdonkpijhhaaGreatDoor.Am.TypesOperators
open Go.AM
set_option maxRecDepth 100000
theorem eB7_2_0 : KB (GB (.ofNat 17) (.ofNat 7) (.negSucc 4) (.ofNat 3) (.ofNat 1)) (R (n 0) (n 31)) = true := by kernel_rfl
theorem eB7_2_1 : KB (GB (.ofNat 17) (.ofNat 7) (.negSucc 4) (.ofNat 3) (.ofNat 2)) (R (n 0) (n 31)) = true := by kernel_rfl
theorem eB7_2_2 : KB (GB (.ofNat 17) (.ofNat 7) (.negSucc 4) (.ofNat 3) (.ofNat 3)) (R XT0 (n 0)) = true := by kernel_rfl
theorem eB8_0_0 : KB (GB (.ofNat 18) (.ofNat 8) (.negSucc 3) (.ofNat 1) (.ofNat 1)) (R XT0 (n 0)) = true := by kernel_rfl
theorem eB8_0_1 : KB (GB (.ofNat 18) (.ofNat 8) (.negSucc 3) (.ofNat 1) (.ofNat 2)) (R (n 0) (n 31)) = true := by kernel_rfl
theorem eB8_0_2 : KB (GB (.ofNat 18) (.ofNat 8) (.negSucc 3) (.ofNat 1) (.ofNat 3)) (R (n 0) (n 31)) = true := by kernel_rfl
theorem eB8_1_0 : KB (GB (.ofNat 18) (.ofNat 8) (.negSucc 3) (.ofNat 2) (.ofNat 1)) (R (n 0) (n 31)) = true := by kernel_rfl
theorem eB8_1_1 : KB (GB (.ofNat 18) (.ofNat 8) (.negSucc 3) (.ofNat 2) (.ofNat 2)) (R (n 0) (n 31)) = true := by kernel_rfl
theorem eB8_1_2 : KB (GB (.ofNat 18) (.ofNat 8) (.negSucc 3) (.ofNat 2) (.ofNat 3)) (R (n 0) (n 31)) = true := by kernel_rfl
theorem eB8_2_0 : KB (GB (.ofNat 18) (.ofNat 8) (.negSucc 3) (.ofNat 3) (.ofNat 1)) (R (n 0) (n 31)) = true := by kernel_rfl
theorem eB8_2_1 : KB (GB (.ofNat 18) (.ofNat 8) (.negSucc 3) (.ofNat 3) (.ofNat 2)) (R (n 0) (n 31)) = true := by kernel_rfl
theorem eB8_2_2 : KB (GB (.ofNat 18) (.ofNat 8) (.negSucc 3) (.ofNat 3) (.ofNat 3)) (R XT0 (n 0)) = true := by kernel_rfl
theorem eB9_0_0 : KB (GB (.ofNat 19) (.ofNat 9) (.negSucc 2) (.ofNat 1) (.ofNat 1)) (R XT0 (n 0)) = true := by kernel_rfl
theorem eB9_0_1 : KB (GB (.ofNat 19) (.ofNat 9) (.negSucc 2) (.ofNat 1) (.ofNat 2)) (R (n 0) (n 31)) = true := by kernel_rfl
theorem eB9_0_2 : KB (GB (.ofNat 19) (.ofNat 9) (.negSucc 2) (.ofNat 1) (.ofNat 3)) (R (n 0) (n 31)) = true := by kernel_rfl
theorem eB9_1_0 : KB (GB (.ofNat 19) (.ofNat 9) (.negSucc 2) (.ofNat 2) (.ofNat 1)) (R (n 0) (n 31)) = true := by kernel_rfl
theorem eB9_1_1 : KB (GB (.ofNat 19) (.ofNat 9) (.negSucc 2) (.ofNat 2) (.ofNat 2)) (R (n 0) (n 31)) = true := by kernel_rfl
theorem eB9_1_2 : KB (GB (.ofNat 19) (.ofNat 9) (.negSucc 2) (.ofNat 2) (.ofNat 3)) (R (n 0) (n 31)) = true := by kernel_rfl
theorem eB9_2_0 : KB (GB (.ofNat 19) (.ofNat 9) (.negSucc 2) (.ofNat 3) (.ofNat 1)) (R (n 0) (n 31)) = true := by kernel_rfl
theorem eB9_2_1 : KB (GB (.ofNat 19) (.ofNat 9) (.negSucc 2) (.ofNat 3) (.ofNat 2)) (R (n 0) (n 31)) = true := by kernel_rfl
theorem eB9_2_2 : KB (GB (.ofNat 19) (.ofNat 9) (.negSucc 2) (.ofNat 3) (.ofNat 3)) (R XT0 (n 0)) = true := by kernel_rfl
theorem eB10_0_0 : KB (GB (.ofNat 20) (.ofNat 10) (.negSucc 1) (.ofNat 1) (.ofNat 1)) (R XT0 (n 0)) = true := by kernel_rfl
theorem eB10_0_1 : KB (GB (.ofNat 20) (.ofNat 10) (.negSucc 1) (.ofNat 1) (.ofNat 2)) (R (n 0) (n 31)) = true := by kernel_rfl
theorem eB10_0_2 : KB (GB (.ofNat 20) (.ofNat 10) (.negSucc 1) (.ofNat 1) (.ofNat 3)) (R (n 0) (n 31)) = true := by kernel_rfl
theorem eB10_1_0 : KB (GB (.ofNat 20) (.ofNat 10) (.negSucc 1) (.ofNat 2) (.ofNat 1)) (R (n 0) (n 31)) = true := by kernel_rfl
theorem eB10_1_1 : KB (GB (.ofNat 20) (.ofNat 10) (.negSucc 1) (.ofNat 2) (.ofNat 2)) (R (n 0) (n 31)) = true := by kernel_rfl
theorem eB10_1_2 : KB (GB (.ofNat 20) (.ofNat 10) (.negSucc 1) (.ofNat 2) (.ofNat 3)) (R (n 0) (n 31)) = true := by kernel_rfl
theorem eB10_2_0 : KB (GB (.ofNat 20) (.ofNat 10) (.negSucc 1) (.ofNat 3) (.ofNat 1)) (R (n 0) (n 31)) = true := by kernel_rfl
end Go.Proofs.YtphhdonkpijhhaaGreatDoor.Am.TypesOperators
