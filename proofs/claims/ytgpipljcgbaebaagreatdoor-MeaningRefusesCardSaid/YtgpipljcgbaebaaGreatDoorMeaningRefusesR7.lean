/- Runs of the law on the abstract machine, a case each. -/
import Derived.Test.YtgpipljcgbaebaaGreatDoorBase
set_option linter.all false
namespace Go.Proofs.YtgpipljcgbaebaaGreatDoor.Am.MeaningRefuses
open Go.AM
set_option maxRecDepth 100000
def G5lx : Facts := { nums := [], tests := [(.lss, (.var 0), (.lit (.ofNat 1)), true)] }
theorem r5lx : isTrue (callN G5lx (fun f => orcOf f (orcs G5lx)) (Tr.get Ftab) 2000 100 4 [.int .i64 (.var 0), .int .i64 (.var 1), .int .i32 (.lit (.ofNat 5))] (empty 12)) = true := by kernel_rfl
def G5in : Facts := { nums := [], tests := [(.lss, (.var 0), (.lit (.ofNat 1)), false), (.gtr, (.var 0), (.lit (.ofNat 1024)), false), (.lss, (.var 1), (.lit (.ofNat 0)), true)] }
theorem r5in : isTrue (callN G5in (fun f => orcOf f (orcs G5in)) (Tr.get Ftab) 2000 100 4 [.int .i64 (.var 0), .int .i64 (.var 1), .int .i32 (.lit (.ofNat 5))] (empty 12)) = true := by kernel_rfl
def G5ii : Facts := { nums := [], tests := [(.geq, (.var 1), (.bin .mul .i64 (.lit (.ofNat 4)) (.var 0)), false), (.geq, (.var 1), (.bin .mul .i64 (.var 0) (.lit (.ofNat 4))), false), (.lss, (.var 0), (.lit (.ofNat 1)), false), (.gtr, (.var 0), (.lit (.ofNat 1024)), false), (.lss, (.var 1), (.lit (.ofNat 0)), false)] }
theorem r5ii : isTrue (callN G5ii (fun f => orcOf f (orcs G5ii)) (Tr.get Ftab) 2000 100 4 [.int .i64 (.var 0), .int .i64 (.var 1), .int .i32 (.lit (.ofNat 5))] (empty 12)) = true := by kernel_rfl
def G5ib : Facts := { nums := [], tests := [(.geq, (.var 1), (.bin .mul .i64 (.lit (.ofNat 4)) (.var 0)), true), (.geq, (.var 1), (.bin .mul .i64 (.var 0) (.lit (.ofNat 4))), true), (.lss, (.var 0), (.lit (.ofNat 1)), false), (.gtr, (.var 0), (.lit (.ofNat 1024)), false), (.lss, (.var 1), (.lit (.ofNat 0)), false)] }
theorem r5ib : isTrue (callN G5ib (fun f => orcOf f (orcs G5ib)) (Tr.get Ftab) 2000 100 4 [.int .i64 (.var 0), .int .i64 (.var 1), .int .i32 (.lit (.ofNat 5))] (empty 12)) = true := by kernel_rfl
def G5bx : Facts := { nums := [], tests := [(.lss, (.var 0), (.lit (.ofNat 1)), false), (.gtr, (.var 0), (.lit (.ofNat 1024)), true)] }
theorem r5bx : isTrue (callN G5bx (fun f => orcOf f (orcs G5bx)) (Tr.get Ftab) 2000 100 4 [.int .i64 (.var 0), .int .i64 (.var 1), .int .i32 (.lit (.ofNat 5))] (empty 12)) = true := by kernel_rfl
end Go.Proofs.YtgpipljcgbaebaaGreatDoor.Am.MeaningRefuses
