/- Known calls: runs on pieces of memory. -/
import Derived.Test.YtphhdonkpijhhaaGreatDoorTypesRefusesF
set_option linter.all false
namespace Go.Proofs.YtphhdonkpijhhaaGreatDoor.Am.TypesRefuses
open Go.AM
set_option maxRecDepth 100000
theorem egl : E Ggl (x 0 1) = true := by kernel_rfl
theorem egb : E Ggb (x 0 1) = true := by kernel_rfl
theorem esl : E Gsl (x 0 1) = true := by kernel_rfl
theorem esb : E Gsb (x 0 1) = true := by kernel_rfl
theorem esn : E Gsn (x 0 1) = true := by kernel_rfl
theorem ep1y : E Gp1y (x 1 0) = true := by kernel_rfl
theorem ep2y : E Gp2y (x 2 0) = true := by kernel_rfl
theorem ep2n : E Gp2n (x 2 1) = true := by kernel_rfl
theorem ep4y : E Gp4y (x 3 0) = true := by kernel_rfl
theorem ep4n : E Gp4n (x 3 1) = true := by kernel_rfl
theorem ep8y : E Gp8y (x 4 0) = true := by kernel_rfl
theorem ep8n : E Gp8n (x 4 1) = true := by kernel_rfl
theorem ep16y : E Gp16y (x 5 0) = true := by kernel_rfl
theorem ep16n : E Gp16n (x 5 1) = true := by kernel_rfl
theorem ep32y : E Gp32y (x 6 0) = true := by kernel_rfl
theorem ep32n : E Gp32n (x 6 1) = true := by kernel_rfl
theorem eLl : E GLl (x 7 1) = true := by kernel_rfl
theorem eBl : E GBl (x 8 1) = true := by kernel_rfl
theorem eLi : E GLi (x 7 0) = true := by kernel_rfl
theorem eBi : E GBi (x 8 0) = true := by kernel_rfl
theorem eLb : E GLb (x 7 1) = true := by kernel_rfl
theorem eBb : E GBb (x 8 1) = true := by kernel_rfl
end Go.Proofs.YtphhdonkpijhhaaGreatDoor.Am.TypesRefuses
