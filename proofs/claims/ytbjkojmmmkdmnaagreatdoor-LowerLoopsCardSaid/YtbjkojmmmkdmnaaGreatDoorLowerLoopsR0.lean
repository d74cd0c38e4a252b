/- Runs of the law on the abstract machine, a case each. -/
import Derived.Test.YtbjkojmmmkdmnaaGreatDoorBase
set_option linter.all false
namespace Go.Proofs.YtbjkojmmmkdmnaaGreatDoor.Am.LowerLoops
open Go.AM
set_option maxRecDepth 100000
def GT : Facts := { nums := [], tests := [(.lss, (.bin .add .i64 (.lit (.ofNat 1)) (.conv .i64 (.bin .rem .u16 (.var 0) (.lit (.ofNat 1024))))), (.lit (.ofNat 1)), false), (.gtr, (.bin .add .i64 (.lit (.ofNat 1)) (.conv .i64 (.bin .rem .u16 (.var 0) (.lit (.ofNat 1024))))), (.lit (.ofNat 1024)), false), (.eql, (.bin .add .i64 (.lit (.ofNat 1)) (.conv .i64 (.bin .rem .u16 (.var 0) (.lit (.ofNat 1024))))), (.bin .add .i64 (.lit (.ofNat 1)) (.conv .i64 (.bin .rem .u16 (.var 0) (.lit (.ofNat 1024))))), true), (.eql, (.conv .i32 (.bin .add .i64 (.lit (.ofNat 1)) (.conv .i64 (.bin .rem .u16 (.var 0) (.lit (.ofNat 1024)))))), (.conv .i32 (.bin .add .i64 (.lit (.ofNat 1)) (.conv .i64 (.bin .rem .u16 (.var 0) (.lit (.ofNat 1024)))))), true)] }
theorem rT : isTrue (callN GT (fun f => orcOf f (orcs GT)) (Tr.get Ftab) 2000 100 4 [.int .u16 (.var 0), yes] (empty 12)) = true := by kernel_rfl
end Go.Proofs.YtbjkojmmmkdmnaaGreatDoor.Am.LowerLoops
