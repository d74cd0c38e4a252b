/- Runs of the law on the abstract machine, a case each. -/
import Derived.Test.YtgpipljcgbaebaaGreatDoorBase
set_option linter.all false
namespace Go.Proofs.YtgpipljcgbaebaaGreatDoor.Am.MeaningRefuses
open Go.AM
set_option maxRecDepth 100000
def Gblx : Facts := { nums := [], tests := [(.lss, (.var 0), (.lit (.ofNat 1)), true), (.lss, (.var 2), (.lit (.ofNat 0)), false), (.geq, (.conv .i64 (.var 2)), (.lit (.ofNat 8)), true), (.gtr, (.var 2), (.lit (.ofNat 7)), true)] }
theorem rblx : isTrue (callN Gblx (fun f => orcOf f (orcs Gblx)) (Tr.get Ftab) 2000 100 4 [.int .i64 (.var 0), .int .i64 (.var 1), .int .i32 (.var 2)] (empty 12)) = true := by kernel_rfl
def Gbin : Facts := { nums := [], tests := [(.lss, (.var 0), (.lit (.ofNat 1)), false), (.gtr, (.var 0), (.lit (.ofNat 1024)), false), (.lss, (.var 1), (.lit (.ofNat 0)), true), (.lss, (.var 2), (.lit (.ofNat 0)), false), (.geq, (.conv .i64 (.var 2)), (.lit (.ofNat 8)), true), (.gtr, (.var 2), (.lit (.ofNat 7)), true)] }
theorem rbin : isTrue (callN Gbin (fun f => orcOf f (orcs Gbin)) (Tr.get Ftab) 2000 100 4 [.int .i64 (.var 0), .int .i64 (.var 1), .int .i32 (.var 2)] (empty 12)) = true := by kernel_rfl
def Gbii : Facts := { nums := [], tests := [(.geq, (.var 1), (.bin .mul .i64 (.lit (.ofNat 4)) (.var 0)), false), (.geq, (.var 1), (.bin .mul .i64 (.var 0) (.lit (.ofNat 4))), false), (.lss, (.var 0), (.lit (.ofNat 1)), false), (.gtr, (.var 0), (.lit (.ofNat 1024)), false), (.lss, (.var 1), (.lit (.ofNat 0)), false), (.lss, (.var 2), (.lit (.ofNat 0)), false), (.geq, (.conv .i64 (.var 2)), (.lit (.ofNat 8)), true), (.gtr, (.var 2), (.lit (.ofNat 7)), true)] }
theorem rbii : isTrue (callN Gbii (fun f => orcOf f (orcs Gbii)) (Tr.get Ftab) 2000 100 4 [.int .i64 (.var 0), .int .i64 (.var 1), .int .i32 (.var 2)] (empty 12)) = true := by kernel_rfl
def Gbib : Facts := { nums := [], tests := [(.geq, (.var 1), (.bin .mul .i64 (.lit (.ofNat 4)) (.var 0)), true), (.geq, (.var 1), (.bin .mul .i64 (.var 0) (.lit (.ofNat 4))), true), (.lss, (.var 0), (.lit (.ofNat 1)), false), (.gtr, (.var 0), (.lit (.ofNat 1024)), false), (.lss, (.var 1), (.lit (.ofNat 0)), false), (.lss, (.var 2), (.lit (.ofNat 0)), false), (.geq, (.conv .i64 (.var 2)), (.lit (.ofNat 8)), true), (.gtr, (.var 2), (.lit (.ofNat 7)), true)] }
theorem rbib : isTrue (callN Gbib (fun f => orcOf f (orcs Gbib)) (Tr.get Ftab) 2000 100 4 [.int .i64 (.var 0), .int .i64 (.var 1), .int .i32 (.var 2)] (empty 12)) = true := by kernel_rfl
def Gbbx : Facts := { nums := [], tests := [(.lss, (.var 0), (.lit (.ofNat 1)), false), (.gtr, (.var 0), (.lit (.ofNat 1024)), true), (.lss, (.var 2), (.lit (.ofNat 0)), false), (.geq, (.conv .i64 (.var 2)), (.lit (.ofNat 8)), true), (.gtr, (.var 2), (.lit (.ofNat 7)), true)] }
theorem rbbx : isTrue (callN Gbbx (fun f => orcOf f (orcs Gbbx)) (Tr.get Ftab) 2000 100 4 [.int .i64 (.var 0), .int .i64 (.var 1), .int .i32 (.var 2)] (empty 12)) = true := by kernel_rfl
end Go.Proofs.YtgpipljcgbaebaaGreatDoor.Am.MeaningRefuses
