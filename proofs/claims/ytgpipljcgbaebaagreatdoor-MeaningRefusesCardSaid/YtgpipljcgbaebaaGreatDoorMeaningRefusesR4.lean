/- Runs of the law on the abstract machine, a case each. -/
import Derived.Test.YtgpipljcgbaebaaGreatDoorBase
set_option linter.all false
namespace Go.Proofs.YtgpipljcgbaebaaGreatDoor.Am.MeaningRefuses
open Go.AM
set_option maxRecDepth 100000
def G2lx : Facts := { nums := [], tests := [(.lss, (.var 0), (.lit (.ofNat 1)), true)] }
theorem r2lx : isTrue (callN G2lx (fun f => orcOf f (orcs G2lx)) (Tr.get Ftab) 2000 100 4 [.int .i64 (.var 0), .int .i64 (.var 1), .int .i32 (.lit (.ofNat 2))] (empty 12)) = true := by kernel_rfl
def G2in : Facts := { nums := [], tests := [(.lss, (.var 0), (.lit (.ofNat 1)), false), (.gtr, (.var 0), (.lit (.ofNat 1024)), false), (.lss, (.var 1), (.lit (.ofNat 0)), true)] }
theorem r2in : isTrue (callN G2in (fun f => orcOf f (orcs G2in)) (Tr.get Ftab) 2000 100 4 [.int .i64 (.var 0), .int .i64 (.var 1), .int .i32 (.lit (.ofNat 2))] (empty 12)) = true := by kernel_rfl
def G2ii : Facts := { nums := [], tests := [(.geq, (.var 1), (.bin .mul .i64 (.lit (.ofNat 4)) (.var 0)), false), (.geq, (.var 1), (.bin .mul .i64 (.var 0) (.lit (.ofNat 4))), false), (.lss, (.var 0), (.lit (.ofNat 1)), false), (.gtr, (.var 0), (.lit (.ofNat 1024)), false), (.lss, (.var 1), (.lit (.ofNat 0)), false)] }
theorem r2ii : isTrue (callN G2ii (fun f => orcOf f (orcs G2ii)) (Tr.get Ftab) 2000 100 4 [.int .i64 (.var 0), .int .i64 (.var 1), .int .i32 (.lit (.ofNat 2))] (empty 12)) = true := by kernel_rfl
def G2ib : Facts := { nums := [], tests := [(.geq, (.var 1), (.bin .mul .i64 (.lit (.ofNat 4)) (.var 0)), true), (.geq, (.var 1), (.bin .mul .i64 (.var 0) (.lit (.ofNat 4))), true), (.lss, (.var 0), (.lit (.ofNat 1)), false), (.gtr, (.var 0), (.lit (.ofNat 1024)), false), (.lss, (.var 1), (.lit (.ofNat 0)), false)] }
theorem r2ib : isTrue (callN G2ib (fun f => orcOf f (orcs G2ib)) (Tr.get Ftab) 2000 100 4 [.int .i64 (.var 0), .int .i64 (.var 1), .int .i32 (.lit (.ofNat 2))] (empty 12)) = true := by kernel_rfl
def G2bx : Facts := { nums := [], tests := [(.lss, (.var 0), (.lit (.ofNat 1)), false), (.gtr, (.var 0), (.lit (.ofNat 1024)), true)] }
theorem r2bx : isTrue (callN G2bx (fun f => orcOf f (orcs G2bx)) (Tr.get Ftab) 2000 100 4 [.int .i64 (.var 0), .int .i64 (.var 1), .int .i32 (.lit (.ofNat 2))] (empty 12)) = true := by kernel_rfl
end Go.Proofs.YtgpipljcgbaebaaGreatDoor.Am.MeaningRefuses
