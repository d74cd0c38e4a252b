/- Runs of the law on the abstract machine, a case each. -/
import Derived.Test.YtdhfdbjjlnhkjaaTab
set_option linter.all false
namespace Go.Proofs.Ytdhfdbjjlnhkjaa.Am
open Go.AM
set_option maxRecDepth 100000
def G2nn : Facts := { nums := [((.bin .rem .i64 (.bin .and .i64 (.var 1) (.lit (.ofNat 255))) (.lit (.ofNat 3))), .ofNat 2)], tests := [(.lss, (.var 2), (.lit (.ofNat 0)), true), (.lss, (.var 0), (.lit (.ofNat 0)), true), (.geq, (.var 2), (.lit (.ofNat 0)), false), (.neq, (.var 0), (.var 0), false)] }
theorem r2nn : isTrue (callN G2nn (Tr.get Ftab) 1000 20 3 [.int .i32 (.var 0), .int .i64 (.var 1), .int .i64 (.var 2)] (empty 12)) = true := by kernel_rfl
def G2nb : Facts := { nums := [((.bin .rem .i64 (.bin .and .i64 (.var 1) (.lit (.ofNat 255))) (.lit (.ofNat 3))), .ofNat 2)], tests := [(.lss, (.var 2), (.lit (.ofNat 0)), true), (.lss, (.var 0), (.lit (.ofNat 0)), false), (.geq, (.conv .i64 (.var 0)), (.lit (.ofNat 4)), true), (.geq, (.var 2), (.lit (.ofNat 0)), false), (.gtr, (.var 0), (.lit (.ofNat 3)), true), (.neq, (.var 0), (.var 0), false)] }
theorem r2nb : isTrue (callN G2nb (Tr.get Ftab) 1000 20 3 [.int .i32 (.var 0), .int .i64 (.var 1), .int .i64 (.var 2)] (empty 12)) = true := by kernel_rfl
def G2n0 : Facts := { nums := [((.bin .rem .i64 (.bin .and .i64 (.var 1) (.lit (.ofNat 255))) (.lit (.ofNat 3))), .ofNat 2)], tests := [(.lss, (.var 2), (.lit (.ofNat 0)), true), (.geq, (.var 2), (.lit (.ofNat 0)), false)] }
theorem r2n0 : isTrue (callN G2n0 (Tr.get Ftab) 1000 20 3 [.int .i32 (.lit (.ofNat 0)), .int .i64 (.var 1), .int .i64 (.var 2)] (empty 12)) = true := by kernel_rfl
def G2n1 : Facts := { nums := [((.bin .rem .i64 (.bin .and .i64 (.var 1) (.lit (.ofNat 255))) (.lit (.ofNat 3))), .ofNat 2)], tests := [(.lss, (.var 2), (.lit (.ofNat 0)), true), (.geq, (.var 2), (.lit (.ofNat 0)), false)] }
theorem r2n1 : isTrue (callN G2n1 (Tr.get Ftab) 1000 20 3 [.int .i32 (.lit (.ofNat 1)), .int .i64 (.var 1), .int .i64 (.var 2)] (empty 12)) = true := by kernel_rfl
def G2n2 : Facts := { nums := [((.bin .rem .i64 (.bin .and .i64 (.var 1) (.lit (.ofNat 255))) (.lit (.ofNat 3))), .ofNat 2)], tests := [(.lss, (.var 2), (.lit (.ofNat 0)), true), (.geq, (.var 2), (.lit (.ofNat 0)), false)] }
theorem r2n2 : isTrue (callN G2n2 (Tr.get Ftab) 1000 20 3 [.int .i32 (.lit (.ofNat 2)), .int .i64 (.var 1), .int .i64 (.var 2)] (empty 12)) = true := by kernel_rfl
def G2n3 : Facts := { nums := [((.bin .rem .i64 (.bin .and .i64 (.var 1) (.lit (.ofNat 255))) (.lit (.ofNat 3))), .ofNat 2)], tests := [(.lss, (.var 2), (.lit (.ofNat 0)), true), (.geq, (.var 2), (.lit (.ofNat 0)), false)] }
theorem r2n3 : isTrue (callN G2n3 (Tr.get Ftab) 1000 20 3 [.int .i32 (.lit (.ofNat 3)), .int .i64 (.var 1), .int .i64 (.var 2)] (empty 12)) = true := by kernel_rfl
def G2in : Facts := { nums := [((.bin .rem .i64 (.bin .and .i64 (.var 1) (.lit (.ofNat 255))) (.lit (.ofNat 3))), .ofNat 2)], tests := [(.lss, (.var 2), (.lit (.ofNat 0)), false), (.geq, (.var 2), (.lit (.ofNat 4)), false), (.lss, (.var 0), (.lit (.ofNat 0)), true), (.geq, (.var 2), (.lit (.ofNat 0)), true), (.lss, (.var 2), (.lit (.ofNat 4)), true), (.neq, (.var 0), (.var 0), false)] }
theorem r2in : isTrue (callN G2in (Tr.get Ftab) 1000 20 3 [.int .i32 (.var 0), .int .i64 (.var 1), .int .i64 (.var 2)] (empty 12)) = true := by kernel_rfl
def G2ib : Facts := { nums := [((.bin .rem .i64 (.bin .and .i64 (.var 1) (.lit (.ofNat 255))) (.lit (.ofNat 3))), .ofNat 2)], tests := [(.lss, (.var 2), (.lit (.ofNat 0)), false), (.geq, (.var 2), (.lit (.ofNat 4)), false), (.lss, (.var 0), (.lit (.ofNat 0)), false), (.geq, (.conv .i64 (.var 0)), (.lit (.ofNat 4)), true), (.geq, (.var 2), (.lit (.ofNat 0)), true), (.lss, (.var 2), (.lit (.ofNat 4)), true), (.gtr, (.var 0), (.lit (.ofNat 3)), true), (.neq, (.var 0), (.var 0), false)] }
theorem r2ib : isTrue (callN G2ib (Tr.get Ftab) 1000 20 3 [.int .i32 (.var 0), .int .i64 (.var 1), .int .i64 (.var 2)] (empty 12)) = true := by kernel_rfl
def G2i0 : Facts := { nums := [((.bin .rem .i64 (.bin .and .i64 (.var 1) (.lit (.ofNat 255))) (.lit (.ofNat 3))), .ofNat 2)], tests := [(.lss, (.var 2), (.lit (.ofNat 0)), false), (.geq, (.var 2), (.lit (.ofNat 4)), false), (.geq, (.var 2), (.lit (.ofNat 0)), true), (.lss, (.var 2), (.lit (.ofNat 4)), true)] }
theorem r2i0 : isTrue (callN G2i0 (Tr.get Ftab) 1000 20 3 [.int .i32 (.lit (.ofNat 0)), .int .i64 (.var 1), .int .i64 (.var 2)] (empty 12)) = true := by kernel_rfl
end Go.Proofs.Ytdhfdbjjlnhkjaa.Am
