/- Runs of the law on the abstract machine, a case each. -/
import Derived.Test.YtgpipljcgbaebaaGreatDoorBase
set_option linter.all false
namespace Go.Proofs.YtgpipljcgbaebaaGreatDoor.Am.MeaningRefuses
open Go.AM
set_option maxRecDepth 100000
def G1lx : Facts := { nums := [], tests := [(.lss, (.var 0), (.lit (.ofNat 1)), true)] }
theorem r1lx : isTrue (callN G1lx (fun f => orcOf f (orcs G1lx)) (Tr.get Ftab) 2000 100 4 [.int .i64 (.var 0), .int .i64 (.var 1), .int .i32 (.lit (.ofNat 1))] (empty 12)) = true := by kernel_rfl
def G1in : Facts := { nums := [], tests := [(.lss, (.var 0), (.lit (.ofNat 1)), false), (.gtr, (.var 0), (.lit (.ofNat 1024)), false), (.lss, (.var 1), (.lit (.ofNat 0)), true)] }
theorem r1in : isTrue (callN G1in (fun f => orcOf f (orcs G1in)) (Tr.get Ftab) 2000 100 4 [.int .i64 (.var 0), .int .i64 (.var 1), .int .i32 (.lit (.ofNat 1))] (empty 12)) = true := by kernel_rfl
def G1ii : Facts := { nums := [], tests := [(.geq, (.var 1), (.bin .mul .i64 (.lit (.ofNat 4)) (.var 0)), false), (.geq, (.var 1), (.bin .mul .i64 (.var 0) (.lit (.ofNat 4))), false), (.lss, (.var 0), (.lit (.ofNat 1)), false), (.gtr, (.var 0), (.lit (.ofNat 1024)), false), (.lss, (.var 1), (.lit (.ofNat 0)), false)] }
theorem r1ii : isTrue (callN G1ii (fun f => orcOf f (orcs G1ii)) (Tr.get Ftab) 2000 100 4 [.int .i64 (.var 0), .int .i64 (.var 1), .int .i32 (.lit (.ofNat 1))] (empty 12)) = true := by kernel_rfl
def G1ib : Facts := { nums := [], tests := [(.geq, (.var 1), (.bin .mul .i64 (.lit (.ofNat 4)) (.var 0)), true), (.geq, (.var 1), (.bin .mul .i64 (.var 0) (.lit (.ofNat 4))), true), (.lss, (.var 0), (.lit (.ofNat 1)), false), (.gtr, (.var 0), (.lit (.ofNat 1024)), false), (.lss, (.var 1), (.lit (.ofNat 0)), false)] }
theorem r1ib : isTrue (callN G1ib (fun f => orcOf f (orcs G1ib)) (Tr.get Ftab) 2000 100 4 [.int .i64 (.var 0), .int .i64 (.var 1), .int .i32 (.lit (.ofNat 1))] (empty 12)) = true := by kernel_rfl
def G1bx : Facts := { nums := [], tests := [(.lss, (.var 0), (.lit (.ofNat 1)), false), (.gtr, (.var 0), (.lit (.ofNat 1024)), true)] }
theorem r1bx : isTrue (callN G1bx (fun f => orcOf f (orcs G1bx)) (Tr.get Ftab) 2000 100 4 [.int .i64 (.var 0), .int .i64 (.var 1), .int .i32 (.lit (.ofNat 1))] (empty 12)) = true := by kernel_rfl
end Go.Proofs.YtgpipljcgbaebaaGreatDoor.Am.MeaningRefuses
