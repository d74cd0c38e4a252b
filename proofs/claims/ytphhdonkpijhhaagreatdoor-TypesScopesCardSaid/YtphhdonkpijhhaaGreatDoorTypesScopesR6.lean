/- Runs of the law on the abstract machine, a case each. -/
import Derived.Test.YtphhdonkpijhhaaGreatDoorBase
set_option linter.all false
namespace Go.Proofs.YtphhdonkpijhhaaGreatDoor.Am.TypesScopes
open Go.AM
set_option maxRecDepth 100000
def G20T : Facts := { nums := [((.bin .rem .u8 (.var 0) (.lit (.ofNat 3))), .ofNat 2), ((.bin .rem .u8 (.var 1) (.lit (.ofNat 3))), .ofNat 0)], tests := [(.lss, (.bin .add .i64 (.lit (.ofNat 1)) (.conv .i64 (.bin .rem .u8 (.var 1) (.lit (.ofNat 100))))), (.lit (.ofNat 1)), false), (.gtr, (.bin .add .i64 (.lit (.ofNat 1)) (.conv .i64 (.bin .rem .u8 (.var 1) (.lit (.ofNat 100))))), (.lit (.ofNat 1024)), false)] }
theorem r20T : isTrue (callN G20T (fun f => orcOf f (orcs G20T)) (Tr.get Ftab) 2000 100 3 [.int .u8 (.var 0), .int .u8 (.var 1), yes] (empty 12)) = true := by kernel_rfl
def G20F : Facts := { nums := [((.bin .rem .u8 (.var 0) (.lit (.ofNat 3))), .ofNat 2), ((.bin .rem .u8 (.var 1) (.lit (.ofNat 3))), .ofNat 0)], tests := [(.lss, (.bin .add .i64 (.lit (.ofNat 1)) (.conv .i64 (.bin .rem .u8 (.var 1) (.lit (.ofNat 100))))), (.lit (.ofNat 1)), false), (.gtr, (.bin .add .i64 (.lit (.ofNat 1)) (.conv .i64 (.bin .rem .u8 (.var 1) (.lit (.ofNat 100))))), (.lit (.ofNat 1024)), false)] }
theorem r20F : isTrue (callN G20F (fun f => orcOf f (orcs G20F)) (Tr.get Ftab) 2000 100 3 [.int .u8 (.var 0), .int .u8 (.var 1), nay] (empty 12)) = true := by kernel_rfl
end Go.Proofs.YtphhdonkpijhhaaGreatDoor.Am.TypesScopes
