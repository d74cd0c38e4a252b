/- Known calls: runs on pieces of memory. -/
import Derived.Test.YtphhdonkpijhhaaGreatDoorTypesOperatorsF
set_option linter.all false
namespace Go.Proofs.YtphhdonkpijhhaaGreatDoor.Am.TypesOperators
open Go.AM
set_option maxRecDepth 100000
theorem eU0_0 : KU (GU (.ofNat 1) (.ofNat 0) (.ofNat 1)) (R XT0 (n 0)) = true := by kernel_rfl
theorem eU0_1 : KU (GU (.ofNat 1) (.ofNat 0) (.ofNat 2)) (R XT0 (n 0)) = true := by kernel_rfl
theorem eU0_2 : KU (GU (.ofNat 1) (.ofNat 0) (.ofNat 3)) (R (n 0) (n 31)) = true := by kernel_rfl
theorem eU1_0 : KU (GU (.ofNat 2) (.ofNat 1) (.ofNat 1)) (R XT0 (n 0)) = true := by kernel_rfl
theorem eU1_1 : KU (GU (.ofNat 2) (.ofNat 1) (.ofNat 2)) (R (n 0) (n 31)) = true := by kernel_rfl
theorem eU1_2 : KU (GU (.ofNat 2) (.ofNat 1) (.ofNat 3)) (R XT0 (n 0)) = true := by kernel_rfl
theorem eU2_0 : KU (GU (.ofNat 3) (.ofNat 2) (.ofNat 1)) (R XT0 (n 0)) = true := by kernel_rfl
theorem eU2_1 : KU (GU (.ofNat 3) (.ofNat 2) (.ofNat 2)) (R XT0 (n 0)) = true := by kernel_rfl
theorem eU2_2 : KU (GU (.ofNat 3) (.ofNat 2) (.ofNat 3)) (R (n 0) (n 31)) = true := by kernel_rfl
theorem eU3_0 : KU (GU (.ofNat 4) (.ofNat 3) (.ofNat 1)) (R (n 2) (n 0)) = true := by kernel_rfl
theorem eU3_1 : KU (GU (.ofNat 4) (.ofNat 3) (.ofNat 2)) (R (n 0) (n 31)) = true := by kernel_rfl
theorem eU3_2 : KU (GU (.ofNat 4) (.ofNat 3) (.ofNat 3)) (R (n 0) (n 31)) = true := by kernel_rfl
theorem eU4_0 : KU (GU (.ofNat 5) (.ofNat 4) (.ofNat 1)) (R (n 0) (n 31)) = true := by kernel_rfl
theorem eU4_1 : KU (GU (.ofNat 5) (.ofNat 4) (.ofNat 2)) (R (n 1) (n 0)) = true := by kernel_rfl
theorem eU4_2 : KU (GU (.ofNat 5) (.ofNat 4) (.ofNat 3)) (R (n 0) (n 31)) = true := by kernel_rfl
theorem eB0_0_0 : KB (GB (.ofNat 10) (.ofNat 0) (.negSucc 11) (.ofNat 1) (.ofNat 1)) (R XT0 (n 0)) = true := by kernel_rfl
theorem eB0_0_1 : KB (GB (.ofNat 10) (.ofNat 0) (.negSucc 11) (.ofNat 1) (.ofNat 2)) (R (n 0) (n 31)) = true := by kernel_rfl
theorem eB0_0_2 : KB (GB (.ofNat 10) (.ofNat 0) (.negSucc 11) (.ofNat 1) (.ofNat 3)) (R (n 0) (n 31)) = true := by kernel_rfl
theorem eB0_1_0 : KB (GB (.ofNat 10) (.ofNat 0) (.negSucc 11) (.ofNat 2) (.ofNat 1)) (R (n 0) (n 31)) = true := by kernel_rfl
theorem eB0_1_1 : KB (GB (.ofNat 10) (.ofNat 0) (.negSucc 11) (.ofNat 2) (.ofNat 2)) (R XT0 (n 0)) = true := by kernel_rfl
theorem eB0_1_2 : KB (GB (.ofNat 10) (.ofNat 0) (.negSucc 11) (.ofNat 2) (.ofNat 3)) (R (n 0) (n 31)) = true := by kernel_rfl
theorem eB0_2_0 : KB (GB (.ofNat 10) (.ofNat 0) (.negSucc 11) (.ofNat 3) (.ofNat 1)) (R (n 0) (n 31)) = true := by kernel_rfl
theorem eB0_2_1 : KB (GB (.ofNat 10) (.ofNat 0) (.negSucc 11) (.ofNat 3) (.ofNat 2)) (R (n 0) (n 31)) = true := by kernel_rfl
theorem eB0_2_2 : KB (GB (.ofNat 10) (.ofNat 0) (.negSucc 11) (.ofNat 3) (.ofNat 3)) (R (n 0) (n 31)) = true := by kernel_rfl
theorem eB1_0_0 : KB (GB (.ofNat 11) (.ofNat 1) (.negSucc 10) (.ofNat 1) (.ofNat 1)) (R XT0 (n 0)) = true := by kernel_rfl
theorem eB1_0_1 : KB (GB (.ofNat 11) (.ofNat 1) (.negSucc 10) (.ofNat 1) (.ofNat 2)) (R (n 0) (n 31)) = true := by kernel_rfl
theorem eB1_0_2 : KB (GB (.ofNat 11) (.ofNat 1) (.negSucc 10) (.ofNat 1) (.ofNat 3)) (R (n 0) (n 31)) = true := by kernel_rfl
theorem eB1_1_0 : KB (GB (.ofNat 11) (.ofNat 1) (.negSucc 10) (.ofNat 2) (.ofNat 1)) (R (n 0) (n 31)) = true := by kernel_rfl
end Go.Proofs.YtphhdonkpijhhaaGreatDoor.Am.TypesOperators
