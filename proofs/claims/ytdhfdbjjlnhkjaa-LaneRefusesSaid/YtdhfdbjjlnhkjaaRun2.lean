/- Runs of the law on the abstract machine, a case each. -/
import Derived.Test.YtdhfdbjjlnhkjaaTab
set_option linter.all false
namespace Go.Proofs.Ytdhfdbjjlnhkjaa.Am
open Go.AM
set_option maxRecDepth 100000
def G1nn : Facts := { nums := [((.bin .rem .i64 (.bin .and .i64 (.var 1) (.lit (.ofNat 255))) (.lit (.ofNat 3))), .ofNat 1)], tests := [(.lss, (.var 2), (.lit (.ofNat 0)), true), (.lss, (.var 0), (.lit (.ofNat 0)), true), (.geq, (.var 2), (.lit (.ofNat 0)), false), (.neq, (.var 0), (.var 0), false)] }
theorem r1nn : isTrue (callN G1nn (Tr.get Ftab) 1000 20 3 [.int .i32 (.var 0), .int .i64 (.var 1), .int .i64 (.var 2)] (empty 12)) = true := by kernel_rfl
def G1nb : Facts := { nums := [((.bin .rem .i64 (.bin .and .i64 (.var 1) (.lit (.ofNat 255))) (.lit (.ofNat 3))), .ofNat 1)], tests := [(.lss, (.var 2), (.lit (.ofNat 0)), true), (.lss, (.var 0), (.lit (.ofNat 0)), false), (.geq, (.conv .i64 (.var 0)), (.lit (.ofNat 4)), true), (.geq, (.var 2), (.lit (.ofNat 0)), false), (.gtr, (.var 0), (.lit (.ofNat 3)), true), (.neq, (.var 0), (.var 0), false)] }
theorem r1nb : isTrue (callN G1nb (Tr.get Ftab) 1000 20 3 [.int .i32 (.var 0), .int .i64 (.var 1), .int .i64 (.var 2)] (empty 12)) = true := by kernel_rfl
def G1n0 : Facts := { nums := [((.bin .rem .i64 (.bin .and .i64 (.var 1) (.lit (.ofNat 255))) (.lit (.ofNat 3))), .ofNat 1)], tests := [(.lss, (.var 2), (.lit (.ofNat 0)), true), (.geq, (.var 2), (.lit (.ofNat 0)), false)] }
theorem r1n0 : isTrue (callN G1n0 (Tr.get Ftab) 1000 20 3 [.int .i32 (.lit (.ofNat 0)), .int .i64 (.var 1), .int .i64 (.var 2)] (empty 12)) = true := by kernel_rfl
def G1n1 : Facts := { nums := [((.bin .rem .i64 (.bin .and .i64 (.var 1) (.lit (.ofNat 255))) (.lit (.ofNat 3))), .ofNat 1)], tests := [(.lss, (.var 2), (.lit (.ofNat 0)), true), (.geq, (.var 2), (.lit (.ofNat 0)), false)] }
theorem r1n1 : isTrue (callN G1n1 (Tr.get Ftab) 1000 20 3 [.int .i32 (.lit (.ofNat 1)), .int .i64 (.var 1), .int .i64 (.var 2)] (empty 12)) = true := by kernel_rfl
def G1n2 : Facts := { nums := [((.bin .rem .i64 (.bin .and .i64 (.var 1) (.lit (.ofNat 255))) (.lit (.ofNat 3))), .ofNat 1)], tests := [(.lss, (.var 2), (.lit (.ofNat 0)), true), (.geq, (.var 2), (.lit (.ofNat 0)), false)] }
theorem r1n2 : isTrue (callN G1n2 (Tr.get Ftab) 1000 20 3 [.int .i32 (.lit (.ofNat 2)), .int .i64 (.var 1), .int .i64 (.var 2)] (empty 12)) = true := by kernel_rfl
def G1n3 : Facts := { nums := [((.bin .rem .i64 (.bin .and .i64 (.var 1) (.lit (.ofNat 255))) (.lit (.ofNat 3))), .ofNat 1)], tests := [(.lss, (.var 2), (.lit (.ofNat 0)), true), (.geq, (.var 2), (.lit (.ofNat 0)), false)] }
theorem r1n3 : isTrue (callN G1n3 (Tr.get Ftab) 1000 20 3 [.int .i32 (.lit (.ofNat 3)), .int .i64 (.var 1), .int .i64 (.var 2)] (empty 12)) = true := by kernel_rfl
def G1in : Facts := { nums := [((.bin .rem .i64 (.bin .and .i64 (.var 1) (.lit (.ofNat 255))) (.lit (.ofNat 3))), .ofNat 1)], tests := [(.lss, (.var 2), (.lit (.ofNat 0)), false), (.geq, (.var 2), (.lit (.ofNat 4)), false), (.lss, (.var 0), (.lit (.ofNat 0)), true), (.geq, (.var 2), (.lit (.ofNat 0)), true), (.lss, (.var 2), (.lit (.ofNat 4)), true), (.neq, (.var 0), (.var 0), false)] }
theorem r1in : isTrue (callN G1in (Tr.get Ftab) 1000 20 3 [.int .i32 (.var 0), .int .i64 (.var 1), .int .i64 (.var 2)] (empty 12)) = true := by kernel_rfl
def G1ib : Facts := { nums := [((.bin .rem .i64 (.bin .and .i64 (.var 1) (.lit (.ofNat 255))) (.lit (.ofNat 3))), .ofNat 1)], tests := [(.lss, (.var 2), (.lit (.ofNat 0)), false), (.geq, (.var 2), (.lit (.ofNat 4)), false), (.lss, (.var 0), (.lit (.ofNat 0)), false), (.geq, (.conv .i64 (.var 0)), (.lit (.ofNat 4)), true), (.geq, (.var 2), (.lit (.ofNat 0)), true), (.lss, (.var 2), (.lit (.ofNat 4)), true), (.gtr, (.var 0), (.lit (.ofNat 3)), true), (.neq, (.var 0), (.var 0), false)] }
theorem r1ib : isTrue (callN G1ib (Tr.get Ftab) 1000 20 3 [.int .i32 (.var 0), .int .i64 (.var 1), .int .i64 (.var 2)] (empty 12)) = true := by kernel_rfl
def G1i0 : Facts := { nums := [((.bin .rem .i64 (.bin .and .i64 (.var 1) (.lit (.ofNat 255))) (.lit (.ofNat 3))), .ofNat 1)], tests := [(.lss, (.var 2), (.lit (.ofNat 0)), false), (.geq, (.var 2), (.lit (.ofNat 4)), false), (.geq, (.var 2), (.lit (.ofNat 0)), true), (.lss, (.var 2), (.lit (.ofNat 4)), true)] }
theorem r1i0 : isTrue (callN G1i0 (Tr.get Ftab) 1000 20 3 [.int .i32 (.lit (.ofNat 0)), .int .i64 (.var 1), .int .i64 (.var 2)] (empty 12)) = true := by kernel_rfl
end Go.Proofs.Ytdhfdbjjlnhkjaa.Am
