/- Runs of the law on the abstract machine, a case each. -/
import Derived.Test.YtgpipljcgbaebaaGreatDoorBase
set_option linter.all false
namespace Go.Proofs.YtgpipljcgbaebaaGreatDoor.Am.MeaningRefuses
open Go.AM
set_option maxRecDepth 100000
def Gllx : Facts := { nums := [], tests := [(.lss, (.var 0), (.lit (.ofNat 1)), true), (.lss, (.var 2), (.lit (.ofNat 0)), true)] }
theorem rllx : isTrue (callN Gllx (fun f => orcOf f (orcs Gllx)) (Tr.get Ftab) 2000 100 4 [.int .i64 (.var 0), .int .i64 (.var 1), .int .i32 (.var 2)] (empty 12)) = true := by kernel_rfl
def Glin : Facts := { nums := [], tests := [(.lss, (.var 0), (.lit (.ofNat 1)), false), (.gtr, (.var 0), (.lit (.ofNat 1024)), false), (.lss, (.var 1), (.lit (.ofNat 0)), true), (.lss, (.var 2), (.lit (.ofNat 0)), true)] }
theorem rlin : isTrue (callN Glin (fun f => orcOf f (orcs Glin)) (Tr.get Ftab) 2000 100 4 [.int .i64 (.var 0), .int .i64 (.var 1), .int .i32 (.var 2)] (empty 12)) = true := by kernel_rfl
def Glii : Facts := { nums := [], tests := [(.geq, (.var 1), (.bin .mul .i64 (.lit (.ofNat 4)) (.var 0)), false), (.geq, (.var 1), (.bin .mul .i64 (.var 0) (.lit (.ofNat 4))), false), (.lss, (.var 0), (.lit (.ofNat 1)), false), (.gtr, (.var 0), (.lit (.ofNat 1024)), false), (.lss, (.var 1), (.lit (.ofNat 0)), false), (.lss, (.var 2), (.lit (.ofNat 0)), true)] }
theorem rlii : isTrue (callN Glii (fun f => orcOf f (orcs Glii)) (Tr.get Ftab) 2000 100 4 [.int .i64 (.var 0), .int .i64 (.var 1), .int .i32 (.var 2)] (empty 12)) = true := by kernel_rfl
def Glib : Facts := { nums := [], tests := [(.geq, (.var 1), (.bin .mul .i64 (.lit (.ofNat 4)) (.var 0)), true), (.geq, (.var 1), (.bin .mul .i64 (.var 0) (.lit (.ofNat 4))), true), (.lss, (.var 0), (.lit (.ofNat 1)), false), (.gtr, (.var 0), (.lit (.ofNat 1024)), false), (.lss, (.var 1), (.lit (.ofNat 0)), false), (.lss, (.var 2), (.lit (.ofNat 0)), true)] }
theorem rlib : isTrue (callN Glib (fun f => orcOf f (orcs Glib)) (Tr.get Ftab) 2000 100 4 [.int .i64 (.var 0), .int .i64 (.var 1), .int .i32 (.var 2)] (empty 12)) = true := by kernel_rfl
def Glbx : Facts := { nums := [], tests := [(.lss, (.var 0), (.lit (.ofNat 1)), false), (.gtr, (.var 0), (.lit (.ofNat 1024)), true), (.lss, (.var 2), (.lit (.ofNat 0)), true)] }
theorem rlbx : isTrue (callN Glbx (fun f => orcOf f (orcs Glbx)) (Tr.get Ftab) 2000 100 4 [.int .i64 (.var 0), .int .i64 (.var 1), .int .i32 (.var 2)] (empty 12)) = true := by kernel_rfl
end Go.Proofs.YtgpipljcgbaebaaGreatDoor.Am.MeaningRefuses
