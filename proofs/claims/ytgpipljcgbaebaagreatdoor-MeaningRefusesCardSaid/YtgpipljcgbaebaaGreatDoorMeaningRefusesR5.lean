/- Runs of the law on the abstract machine, a case each. -/
import Derived.Test.YtgpipljcgbaebaaGreatDoorBase
set_option linter.all false
namespace Go.Proofs.YtgpipljcgbaebaaGreatDoor.Am.MeaningRefuses
open Go.AM
set_option maxRecDepth 100000
def G3lx : Facts := { nums := [], tests := [(.lss, (.var 0), (.lit (.ofNat 1)), true)] }
theorem r3lx : isTrue (callN G3lx (fun f => orcOf f (orcs G3lx)) (Tr.get Ftab) 2000 100 4 [.int .i64 (.var 0), .int .i64 (.var 1), .int .i32 (.lit (.ofNat 3))] (empty 12)) = true := by kernel_rfl
def G3in : Facts := { nums := [], tests := [(.lss, (.var 0), (.lit (.ofNat 1)), false), (.gtr, (.var 0), (.lit (.ofNat 1024)), false), (.lss, (.var 1), (.lit (.ofNat 0)), true)] }
theorem r3in : isTrue (callN G3in (fun f => orcOf f (orcs G3in)) (Tr.get Ftab) 2000 100 4 [.int .i64 (.var 0), .int .i64 (.var 1), .int .i32 (.lit (.ofNat 3))] (empty 12)) = true := by kernel_rfl
def G3ii : Facts := { nums := [], tests := [(.geq, (.var 1), (.bin .mul .i64 (.lit (.ofNat 4)) (.var 0)), false), (.geq, (.var 1), (.bin .mul .i64 (.var 0) (.lit (.ofNat 4))), false), (.lss, (.var 0), (.lit (.ofNat 1)), false), (.gtr, (.var 0), (.lit (.ofNat 1024)), false), (.lss, (.var 1), (.lit (.ofNat 0)), false)] }
theorem r3ii : isTrue (callN G3ii (fun f => orcOf f (orcs G3ii)) (Tr.get Ftab) 2000 100 4 [.int .i64 (.var 0), .int .i64 (.var 1), .int .i32 (.lit (.ofNat 3))] (empty 12)) = true := by kernel_rfl
def G3ib : Facts := { nums := [], tests := [(.geq, (.var 1), (.bin .mul .i64 (.lit (.ofNat 4)) (.var 0)), true), (.geq, (.var 1), (.bin .mul .i64 (.var 0) (.lit (.ofNat 4))), true), (.lss, (.var 0), (.lit (.ofNat 1)), false), (.gtr, (.var 0), (.lit (.ofNat 1024)), false), (.lss, (.var 1), (.lit (.ofNat 0)), false)] }
theorem r3ib : isTrue (callN G3ib (fun f => orcOf f (orcs G3ib)) (Tr.get Ftab) 2000 100 4 [.int .i64 (.var 0), .int .i64 (.var 1), .int .i32 (.lit (.ofNat 3))] (empty 12)) = true := by kernel_rfl
def G3bx : Facts := { nums := [], tests := [(.lss, (.var 0), (.lit (.ofNat 1)), false), (.gtr, (.var 0), (.lit (.ofNat 1024)), true)] }
theorem r3bx : isTrue (callN G3bx (fun f => orcOf f (orcs G3bx)) (Tr.get Ftab) 2000 100 4 [.int .i64 (.var 0), .int .i64 (.var 1), .int .i32 (.lit (.ofNat 3))] (empty 12)) = true := by kernel_rfl
end Go.Proofs.YtgpipljcgbaebaaGreatDoor.Am.MeaningRefuses
