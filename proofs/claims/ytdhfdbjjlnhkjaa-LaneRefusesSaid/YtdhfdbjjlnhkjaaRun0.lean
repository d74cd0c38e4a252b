/- Runs of the law on the abstract machine, a case each. -/
import Derived.Test.YtdhfdbjjlnhkjaaTab
set_option linter.all false
namespace Go.Proofs.Ytdhfdbjjlnhkjaa.Am
open Go.AM
set_option maxRecDepth 100000
def G0nn : Facts := { nums := [((.bin .rem .i64 (.bin .and .i64 (.var 1) (.lit (.ofNat 255))) (.lit (.ofNat 3))), .ofNat 0)], tests := [(.lss, (.var 2), (.lit (.ofNat 0)), true), (.lss, (.var 0), (.lit (.ofNat 0)), true), (.geq, (.var 2), (.lit (.ofNat 0)), false), (.neq, (.var 0), (.var 0), false)] }
theorem r0nn : isTrue (callN G0nn (Tr.get Ftab) 1000 20 3 [.int .i32 (.var 0), .int .i64 (.var 1), .int .i64 (.var 2)] (empty 12)) = true := by kernel_rfl
def G0nb : Facts := { nums := [((.bin .rem .i64 (.bin .and .i64 (.var 1) (.lit (.ofNat 255))) (.lit (.ofNat 3))), .ofNat 0)], tests := [(.lss, (.var 2), (.lit (.ofNat 0)), true), (.lss, (.var 0), (.lit (.ofNat 0)), false), (.geq, (.conv .i64 (.var 0)), (.lit (.ofNat 4)), true), (.geq, (.var 2), (.lit (.ofNat 0)), false), (.gtr, (.var 0), (.lit (.ofNat 3)), true), (.neq, (.var 0), (.var 0), false)] }
theorem r0nb : isTrue (callN G0nb (Tr.get Ftab) 1000 20 3 [.int .i32 (.var 0), .int .i64 (.var 1), .int .i64 (.var 2)] (empty 12)) = true := by kernel_rfl
def G0n0 : Facts := { nums := [((.bin .rem .i64 (.bin .and .i64 (.var 1) (.lit (.ofNat 255))) (.lit (.ofNat 3))), .ofNat 0)], tests := [(.lss, (.var 2), (.lit (.ofNat 0)), true), (.geq, (.var 2), (.lit (.ofNat 0)), false)] }
theorem r0n0 : isTrue (callN G0n0 (Tr.get Ftab) 1000 20 3 [.int .i32 (.lit (.ofNat 0)), .int .i64 (.var 1), .int .i64 (.var 2)] (empty 12)) = true := by kernel_rfl
def G0n1 : Facts := { nums := [((.bin .rem .i64 (.bin .and .i64 (.var 1) (.lit (.ofNat 255))) (.lit (.ofNat 3))), .ofNat 0)], tests := [(.lss, (.var 2), (.lit (.ofNat 0)), true), (.geq, (.var 2), (.lit (.ofNat 0)), false)] }
theorem r0n1 : isTrue (callN G0n1 (Tr.get Ftab) 1000 20 3 [.int .i32 (.lit (.ofNat 1)), .int .i64 (.var 1), .int .i64 (.var 2)] (empty 12)) = true := by kernel_rfl
def G0n2 : Facts := { nums := [((.bin .rem .i64 (.bin .and .i64 (.var 1) (.lit (.ofNat 255))) (.lit (.ofNat 3))), .ofNat 0)], tests := [(.lss, (.var 2), (.lit (.ofNat 0)), true), (.geq, (.var 2), (.lit (.ofNat 0)), false)] }
theorem r0n2 : isTrue (callN G0n2 (Tr.get Ftab) 1000 20 3 [.int .i32 (.lit (.ofNat 2)), .int .i64 (.var 1), .int .i64 (.var 2)] (empty 12)) = true := by kernel_rfl
def G0n3 : Facts := { nums := [((.bin .rem .i64 (.bin .and .i64 (.var 1) (.lit (.ofNat 255))) (.lit (.ofNat 3))), .ofNat 0)], tests := [(.lss, (.var 2), (.lit (.ofNat 0)), true), (.geq, (.var 2), (.lit (.ofNat 0)), false)] }
theorem r0n3 : isTrue (callN G0n3 (Tr.get Ftab) 1000 20 3 [.int .i32 (.lit (.ofNat 3)), .int .i64 (.var 1), .int .i64 (.var 2)] (empty 12)) = true := by kernel_rfl
def G0in : Facts := { nums := [((.bin .rem .i64 (.bin .and .i64 (.var 1) (.lit (.ofNat 255))) (.lit (.ofNat 3))), .ofNat 0)], tests := [(.lss, (.var 2), (.lit (.ofNat 0)), false), (.geq, (.var 2), (.lit (.ofNat 4)), false), (.lss, (.var 0), (.lit (.ofNat 0)), true), (.geq, (.var 2), (.lit (.ofNat 0)), true), (.lss, (.var 2), (.lit (.ofNat 4)), true), (.neq, (.var 0), (.var 0), false)] }
theorem r0in : isTrue (callN G0in (Tr.get Ftab) 1000 20 3 [.int .i32 (.var 0), .int .i64 (.var 1), .int .i64 (.var 2)] (empty 12)) = true := by kernel_rfl
def G0ib : Facts := { nums := [((.bin .rem .i64 (.bin .and .i64 (.var 1) (.lit (.ofNat 255))) (.lit (.ofNat 3))), .ofNat 0)], tests := [(.lss, (.var 2), (.lit (.ofNat 0)), false), (.geq, (.var 2), (.lit (.ofNat 4)), false), (.lss, (.var 0), (.lit (.ofNat 0)), false), (.geq, (.conv .i64 (.var 0)), (.lit (.ofNat 4)), true), (.geq, (.var 2), (.lit (.ofNat 0)), true), (.lss, (.var 2), (.lit (.ofNat 4)), true), (.gtr, (.var 0), (.lit (.ofNat 3)), true), (.neq, (.var 0), (.var 0), false)] }
theorem r0ib : isTrue (callN G0ib (Tr.get Ftab) 1000 20 3 [.int .i32 (.var 0), .int .i64 (.var 1), .int .i64 (.var 2)] (empty 12)) = true := by kernel_rfl
def G0i0 : Facts := { nums := [((.bin .rem .i64 (.bin .and .i64 (.var 1) (.lit (.ofNat 255))) (.lit (.ofNat 3))), .ofNat 0)], tests := [(.lss, (.var 2), (.lit (.ofNat 0)), false), (.geq, (.var 2), (.lit (.ofNat 4)), false), (.geq, (.var 2), (.lit (.ofNat 0)), true), (.lss, (.var 2), (.lit (.ofNat 4)), true)] }
theorem r0i0 : isTrue (callN G0i0 (Tr.get Ftab) 1000 20 3 [.int .i32 (.lit (.ofNat 0)), .int .i64 (.var 1), .int .i64 (.var 2)] (empty 12)) = true := by kernel_rfl
end Go.Proofs.Ytdhfdbjjlnhkjaa.Am
