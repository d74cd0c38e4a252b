/- Known calls: runs on pieces of memory. -/
import Derived.Test.YtphhdonkpijhhaaGreatDoorTypesOperatorsF
set_option linter.all false
namespace Go.Proofs.YtphhdonkpijhhaaGreatDoor.Am.TypesOperators
open Go.AM
set_option maxRecDepth 100000
theorem eC0_0_1 : KC (GC (.ofNat 1) (.ofNat 1) (.ofNat 2)) (R (n 0) (n 31)) = true := by kernel_rfl
theorem eC0_0_2 : KC (GC (.ofNat 1) (.ofNat 1) (.ofNat 3)) (R (n 0) (n 31)) = true := by kernel_rfl
theorem eC0_1_0 : KC (GC (.ofNat 1) (.ofNat 2) (.ofNat 1)) (R (n 0) (n 31)) = true := by kernel_rfl
theorem eC0_1_1 : KC (GC (.ofNat 1) (.ofNat 2) (.ofNat 2)) (R (n 0) (n 31)) = true := by kernel_rfl
theorem eC0_1_2 : KC (GC (.ofNat 1) (.ofNat 2) (.ofNat 3)) (R (n 0) (n 31)) = true := by kernel_rfl
theorem eC0_2_0 : KC (GC (.ofNat 1) (.ofNat 3) (.ofNat 1)) (R (n 0) (n 31)) = true := by kernel_rfl
theorem eC0_2_1 : KC (GC (.ofNat 1) (.ofNat 3) (.ofNat 2)) (R (n 0) (n 31)) = true := by kernel_rfl
theorem eC0_2_2 : KC (GC (.ofNat 1) (.ofNat 3) (.ofNat 3)) (R (n 0) (n 31)) = true := by kernel_rfl
theorem eC1_0_0 : KC (GC (.ofNat 2) (.ofNat 1) (.ofNat 1)) (R (n 0) (n 31)) = true := by kernel_rfl
theorem eC1_0_1 : KC (GC (.ofNat 2) (.ofNat 1) (.ofNat 2)) (R (n 0) (n 31)) = true := by kernel_rfl
theorem eC1_0_2 : KC (GC (.ofNat 2) (.ofNat 1) (.ofNat 3)) (R (n 0) (n 31)) = true := by kernel_rfl
theorem eC1_1_0 : KC (GC (.ofNat 2) (.ofNat 2) (.ofNat 1)) (R (n 0) (n 31)) = true := by kernel_rfl
theorem eC1_1_1 : KC (GC (.ofNat 2) (.ofNat 2) (.ofNat 2)) (R (n 0) (n 31)) = true := by kernel_rfl
theorem eC1_1_2 : KC (GC (.ofNat 2) (.ofNat 2) (.ofNat 3)) (R (n 0) (n 31)) = true := by kernel_rfl
theorem eC1_2_0 : KC (GC (.ofNat 2) (.ofNat 3) (.ofNat 1)) (R (n 0) (n 31)) = true := by kernel_rfl
theorem eC1_2_1 : KC (GC (.ofNat 2) (.ofNat 3) (.ofNat 2)) (R (n 0) (n 31)) = true := by kernel_rfl
theorem eC1_2_2 : KC (GC (.ofNat 2) (.ofNat 3) (.ofNat 3)) (R (n 0) (n 31)) = true := by kernel_rfl
theorem eC2_0_0 : KC (GC (.ofNat 3) (.ofNat 1) (.ofNat 1)) (R XT1 (n 0)) = true := by kernel_rfl
theorem eC2_0_1 : KC (GC (.ofNat 3) (.ofNat 1) (.ofNat 2)) (R (n 0) (n 31)) = true := by kernel_rfl
theorem eC2_0_2 : KC (GC (.ofNat 3) (.ofNat 1) (.ofNat 3)) (R (n 0) (n 31)) = true := by kernel_rfl
theorem eC2_1_0 : KC (GC (.ofNat 3) (.ofNat 2) (.ofNat 1)) (R (n 0) (n 31)) = true := by kernel_rfl
theorem eC2_1_1 : KC (GC (.ofNat 3) (.ofNat 2) (.ofNat 2)) (R XT1 (n 0)) = true := by kernel_rfl
theorem eC2_1_2 : KC (GC (.ofNat 3) (.ofNat 2) (.ofNat 3)) (R (n 0) (n 31)) = true := by kernel_rfl
theorem eC2_2_0 : KC (GC (.ofNat 3) (.ofNat 3) (.ofNat 1)) (R (n 0) (n 31)) = true := by kernel_rfl
theorem eC2_2_1 : KC (GC (.ofNat 3) (.ofNat 3) (.ofNat 2)) (R (n 0) (n 31)) = true := by kernel_rfl
theorem eC2_2_2 : KC (GC (.ofNat 3) (.ofNat 3) (.ofNat 3)) (R XT1 (n 0)) = true := by kernel_rfl
end Go.Proofs.YtphhdonkpijhhaaGreatDoor.Am.TypesOperators
