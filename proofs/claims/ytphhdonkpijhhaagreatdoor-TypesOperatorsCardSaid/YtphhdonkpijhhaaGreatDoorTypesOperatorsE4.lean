/- Known calls: runs on pieces of memory. -/
import Derived.Test.YtphhdonkpijhhaaGreatDoorTypesOperatorsF
set_option linter.all false
namespace Go.Proofs.YtphhdonkpijhhaaGreatDoor.Am.TypesOperators
open Go.AM
set_option maxRecDepth 100000
theorem eB10_2_1 : KB (GB (.ofNat 20) (.ofNat 10) (.negSucc 1) (.ofNat 3) (.ofNat 2)) (R (n 0) (n 31)) = true := by kernel_rfl
theorem eB10_2_2 : KB (GB (.ofNat 20) (.ofNat 10) (.negSucc 1) (.ofNat 3) (.ofNat 3)) (R (n 0) (n 31)) = true := by kernel_rfl
theorem eB11_0_0 : KB (GB (.ofNat 21) (.ofNat 11) (.negSucc 0) (.ofNat 1) (.ofNat 1)) (R XT0 (n 0)) = true := by kernel_rfl
theorem eB11_0_1 : KB (GB (.ofNat 21) (.ofNat 11) (.negSucc 0) (.ofNat 1) (.ofNat 2)) (R (n 0) (n 31)) = true := by kernel_rfl
theorem eB11_0_2 : KB (GB (.ofNat 21) (.ofNat 11) (.negSucc 0) (.ofNat 1) (.ofNat 3)) (R (n 0) (n 31)) = true := by kernel_rfl
theorem eB11_1_0 : KB (GB (.ofNat 21) (.ofNat 11) (.negSucc 0) (.ofNat 2) (.ofNat 1)) (R (n 0) (n 31)) = true := by kernel_rfl
theorem eB11_1_1 : KB (GB (.ofNat 21) (.ofNat 11) (.negSucc 0) (.ofNat 2) (.ofNat 2)) (R (n 0) (n 31)) = true := by kernel_rfl
theorem eB11_1_2 : KB (GB (.ofNat 21) (.ofNat 11) (.negSucc 0) (.ofNat 2) (.ofNat 3)) (R (n 0) (n 31)) = true := by kernel_rfl
theorem eB11_2_0 : KB (GB (.ofNat 21) (.ofNat 11) (.negSucc 0) (.ofNat 3) (.ofNat 1)) (R (n 0) (n 31)) = true := by kernel_rfl
theorem eB11_2_1 : KB (GB (.ofNat 21) (.ofNat 11) (.negSucc 0) (.ofNat 3) (.ofNat 2)) (R (n 0) (n 31)) = true := by kernel_rfl
theorem eB11_2_2 : KB (GB (.ofNat 21) (.ofNat 11) (.negSucc 0) (.ofNat 3) (.ofNat 3)) (R (n 0) (n 31)) = true := by kernel_rfl
theorem eB12_0_0 : KB (GB (.ofNat 22) (.ofNat 12) (.ofNat 0) (.ofNat 1) (.ofNat 1)) (R XT0 (n 0)) = true := by kernel_rfl
theorem eB12_0_1 : KB (GB (.ofNat 22) (.ofNat 12) (.ofNat 0) (.ofNat 1) (.ofNat 2)) (R (n 0) (n 31)) = true := by kernel_rfl
theorem eB12_0_2 : KB (GB (.ofNat 22) (.ofNat 12) (.ofNat 0) (.ofNat 1) (.ofNat 3)) (R (n 0) (n 31)) = true := by kernel_rfl
theorem eB12_1_0 : KB (GB (.ofNat 22) (.ofNat 12) (.ofNat 0) (.ofNat 2) (.ofNat 1)) (R (n 0) (n 31)) = true := by kernel_rfl
theorem eB12_1_1 : KB (GB (.ofNat 22) (.ofNat 12) (.ofNat 0) (.ofNat 2) (.ofNat 2)) (R XT0 (n 0)) = true := by kernel_rfl
theorem eB12_1_2 : KB (GB (.ofNat 22) (.ofNat 12) (.ofNat 0) (.ofNat 2) (.ofNat 3)) (R (n 0) (n 31)) = true := by kernel_rfl
theorem eB12_2_0 : KB (GB (.ofNat 22) (.ofNat 12) (.ofNat 0) (.ofNat 3) (.ofNat 1)) (R (n 0) (n 31)) = true := by kernel_rfl
theorem eB12_2_1 : KB (GB (.ofNat 22) (.ofNat 12) (.ofNat 0) (.ofNat 3) (.ofNat 2)) (R (n 0) (n 31)) = true := by kernel_rfl
theorem eB12_2_2 : KB (GB (.ofNat 22) (.ofNat 12) (.ofNat 0) (.ofNat 3) (.ofNat 3)) (R (n 0) (n 31)) = true := by kernel_rfl
theorem eB13_0_0 : KB (GB (.ofNat 23) (.ofNat 13) (.ofNat 1) (.ofNat 1) (.ofNat 1)) (R XT0 (n 0)) = true := by kernel_rfl
theorem eB13_0_1 : KB (GB (.ofNat 23) (.ofNat 13) (.ofNat 1) (.ofNat 1) (.ofNat 2)) (R (n 0) (n 31)) = true := by kernel_rfl
theorem eB13_0_2 : KB (GB (.ofNat 23) (.ofNat 13) (.ofNat 1) (.ofNat 1) (.ofNat 3)) (R (n 0) (n 31)) = true := by kernel_rfl
theorem eB13_1_0 : KB (GB (.ofNat 23) (.ofNat 13) (.ofNat 1) (.ofNat 2) (.ofNat 1)) (R (n 0) (n 31)) = true := by kernel_rfl
theorem eB13_1_1 : KB (GB (.ofNat 23) (.ofNat 13) (.ofNat 1) (.ofNat 2) (.ofNat 2)) (R XT0 (n 0)) = true := by kernel_rfl
theorem eB13_1_2 : KB (GB (.ofNat 23) (.ofNat 13) (.ofNat 1) (.ofNat 2) (.ofNat 3)) (R (n 0) (n 31)) = true := by kernel_rfl
theorem eB13_2_0 : KB (GB (.ofNat 23) (.ofNat 13) (.ofNat 1) (.ofNat 3) (.ofNat 1)) (R (n 0) (n 31)) = true := by kernel_rfl
theorem eB13_2_1 : KB (GB (.ofNat 23) (.ofNat 13) (.ofNat 1) (.ofNat 3) (.ofNat 2)) (R (n 0) (n 31)) = true := by kernel_rfl
end Go.Proofs.YtphhdonkpijhhaaGreatDoor.Am.TypesOperators
