/- Runs of the law on the abstract machine, a case each. -/
import Derived.Test.YtdhfdbjjlnhkjaaTab
set_option linter.all false
namespace Go.Proofs.Ytdhfdbjjlnhkjaa.Am
open Go.AM
set_option maxRecDepth 100000
def G0i1 : Facts := { nums := [((.bin .rem .i64 (.bin .and .i64 (.var 1) (.lit (.ofNat 255))) (.lit (.ofNat 3))), .ofNat 0)], tests := [(.lss, (.var 2), (.lit (.ofNat 0)), false), (.geq, (.var 2), (.lit (.ofNat 4)), false), (.geq, (.var 2), (.lit (.ofNat 0)), true), (.lss, (.var 2), (.lit (.ofNat 4)), true)] }
theorem r0i1 : isTrue (callN G0i1 (Tr.get Ftab) 1000 20 3 [.int .i32 (.lit (.ofNat 1)), .int .i64 (.var 1), .int .i64 (.var 2)] (empty 12)) = true := by kernel_rfl
def G0i2 : Facts := { nums := [((.bin .rem .i64 (.bin .and .i64 (.var 1) (.lit (.ofNat 255))) (.lit (.ofNat 3))), .ofNat 0)], tests := [(.lss, (.var 2), (.lit (.ofNat 0)), false), (.geq, (.var 2), (.lit (.ofNat 4)), false), (.geq, (.var 2), (.lit (.ofNat 0)), true), (.lss, (.var 2), (.lit (.ofNat 4)), true)] }
theorem r0i2 : isTrue (callN G0i2 (Tr.get Ftab) 1000 20 3 [.int .i32 (.lit (.ofNat 2)), .int .i64 (.var 1), .int .i64 (.var 2)] (empty 12)) = true := by kernel_rfl
def G0i3 : Facts := { nums := [((.bin .rem .i64 (.bin .and .i64 (.var 1) (.lit (.ofNat 255))) (.lit (.ofNat 3))), .ofNat 0)], tests := [(.lss, (.var 2), (.lit (.ofNat 0)), false), (.geq, (.var 2), (.lit (.ofNat 4)), false), (.geq, (.var 2), (.lit (.ofNat 0)), true), (.lss, (.var 2), (.lit (.ofNat 4)), true)] }
theorem r0i3 : isTrue (callN G0i3 (Tr.get Ftab) 1000 20 3 [.int .i32 (.lit (.ofNat 3)), .int .i64 (.var 1), .int .i64 (.var 2)] (empty 12)) = true := by kernel_rfl
def G0bn : Facts := { nums := [((.bin .rem .i64 (.bin .and .i64 (.var 1) (.lit (.ofNat 255))) (.lit (.ofNat 3))), .ofNat 0)], tests := [(.lss, (.var 2), (.lit (.ofNat 0)), false), (.geq, (.var 2), (.lit (.ofNat 4)), true), (.lss, (.var 0), (.lit (.ofNat 0)), true), (.geq, (.var 2), (.lit (.ofNat 0)), true), (.lss, (.var 2), (.lit (.ofNat 4)), false), (.neq, (.var 0), (.var 0), false)] }
theorem r0bn : isTrue (callN G0bn (Tr.get Ftab) 1000 20 3 [.int .i32 (.var 0), .int .i64 (.var 1), .int .i64 (.var 2)] (empty 12)) = true := by kernel_rfl
def G0bb : Facts := { nums := [((.bin .rem .i64 (.bin .and .i64 (.var 1) (.lit (.ofNat 255))) (.lit (.ofNat 3))), .ofNat 0)], tests := [(.lss, (.var 2), (.lit (.ofNat 0)), false), (.geq, (.var 2), (.lit (.ofNat 4)), true), (.lss, (.var 0), (.lit (.ofNat 0)), false), (.geq, (.conv .i64 (.var 0)), (.lit (.ofNat 4)), true), (.geq, (.var 2), (.lit (.ofNat 0)), true), (.lss, (.var 2), (.lit (.ofNat 4)), false), (.gtr, (.var 0), (.lit (.ofNat 3)), true), (.neq, (.var 0), (.var 0), false)] }
theorem r0bb : isTrue (callN G0bb (Tr.get Ftab) 1000 20 3 [.int .i32 (.var 0), .int .i64 (.var 1), .int .i64 (.var 2)] (empty 12)) = true := by kernel_rfl
def G0b0 : Facts := { nums := [((.bin .rem .i64 (.bin .and .i64 (.var 1) (.lit (.ofNat 255))) (.lit (.ofNat 3))), .ofNat 0)], tests := [(.lss, (.var 2), (.lit (.ofNat 0)), false), (.geq, (.var 2), (.lit (.ofNat 4)), true), (.geq, (.var 2), (.lit (.ofNat 0)), true), (.lss, (.var 2), (.lit (.ofNat 4)), false)] }
theorem r0b0 : isTrue (callN G0b0 (Tr.get Ftab) 1000 20 3 [.int .i32 (.lit (.ofNat 0)), .int .i64 (.var 1), .int .i64 (.var 2)] (empty 12)) = true := by kernel_rfl
def G0b1 : Facts := { nums := [((.bin .rem .i64 (.bin .and .i64 (.var 1) (.lit (.ofNat 255))) (.lit (.ofNat 3))), .ofNat 0)], tests := [(.lss, (.var 2), (.lit (.ofNat 0)), false), (.geq, (.var 2), (.lit (.ofNat 4)), true), (.geq, (.var 2), (.lit (.ofNat 0)), true), (.lss, (.var 2), (.lit (.ofNat 4)), false)] }
theorem r0b1 : isTrue (callN G0b1 (Tr.get Ftab) 1000 20 3 [.int .i32 (.lit (.ofNat 1)), .int .i64 (.var 1), .int .i64 (.var 2)] (empty 12)) = true := by kernel_rfl
def G0b2 : Facts := { nums := [((.bin .rem .i64 (.bin .and .i64 (.var 1) (.lit (.ofNat 255))) (.lit (.ofNat 3))), .ofNat 0)], tests := [(.lss, (.var 2), (.lit (.ofNat 0)), false), (.geq, (.var 2), (.lit (.ofNat 4)), true), (.geq, (.var 2), (.lit (.ofNat 0)), true), (.lss, (.var 2), (.lit (.ofNat 4)), false)] }
theorem r0b2 : isTrue (callN G0b2 (Tr.get Ftab) 1000 20 3 [.int .i32 (.lit (.ofNat 2)), .int .i64 (.var 1), .int .i64 (.var 2)] (empty 12)) = true := by kernel_rfl
def G0b3 : Facts := { nums := [((.bin .rem .i64 (.bin .and .i64 (.var 1) (.lit (.ofNat 255))) (.lit (.ofNat 3))), .ofNat 0)], tests := [(.lss, (.var 2), (.lit (.ofNat 0)), false), (.geq, (.var 2), (.lit (.ofNat 4)), true), (.geq, (.var 2), (.lit (.ofNat 0)), true), (.lss, (.var 2), (.lit (.ofNat 4)), false)] }
theorem r0b3 : isTrue (callN G0b3 (Tr.get Ftab) 1000 20 3 [.int .i32 (.lit (.ofNat 3)), .int .i64 (.var 1), .int .i64 (.var 2)] (empty 12)) = true := by kernel_rfl
end Go.Proofs.Ytdhfdbjjlnhkjaa.Am
