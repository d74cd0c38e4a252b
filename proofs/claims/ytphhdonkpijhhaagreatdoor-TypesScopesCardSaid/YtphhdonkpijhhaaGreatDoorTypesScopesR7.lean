/- Runs of the law on the abstract machine, a case each. -/
import Derived.Test.YtphhdonkpijhhaaGreatDoorBase
set_option linter.all false
namespace Go.Proofs.YtphhdonkpijhhaaGreatDoor.Am.TypesScopes
open Go.AM
set_option maxRecDepth 100000
def G21T : Facts := { nums := [((.bin .rem .u8 (.var 0) (.lit (.ofNat 3))), .ofNat 2), ((.bin .rem .u8 (.var 1) (.lit (.ofNat 3))), .ofNat 1)], tests := [(.lss, (.bin .add .i64 (.lit (.ofNat 1)) (.conv .i64 (.bin .rem .u8 (.var 1) (.lit (.ofNat 100))))), (.lit (.ofNat 1)), false), (.gtr, (.bin .add .i64 (.lit (.ofNat 1)) (.conv .i64 (.bin .rem .u8 (.var 1) (.lit (.ofNat 100))))), (.lit (.ofNat 1024)), false)] }
theorem r21T : isTrue (callN G21T (fun f => orcOf f (orcs G21T)) (Tr.get Ftab) 2000 100 3 [.int .u8 (.var 0), .int .u8 (.var 1), yes] (empty 12)) = true := by kernel_rfl
def G21F : Facts := { nums := [((.bin .rem .u8 (.var 0) (.lit (.ofNat 3))), .ofNat 2), ((.bin .rem .u8 (.var 1) (.lit (.ofNat 3))), .ofNat 1)], tests := [(.lss, (.bin .add .i64 (.lit (.ofNat 1)) (.conv .i64 (.bin .rem .u8 (.var 1) (.lit (.ofNat 100))))), (.lit (.ofNat 1)), false), (.gtr, (.bin .add .i64 (.lit (.ofNat 1)) (.conv .i64 (.bin .rem .u8 (.var 1) (.lit (.ofNat 100))))), (.lit (.ofNat 1024)), false)] }
theorem r21F : isTrue (callN G21F (fun f => orcOf f (orcs G21F)) (Tr.get Ftab) 2000 100 3 [.int .u8 (.var 0), .int .u8 (.var 1), nay] (empty 12)) = true := by kernel_rfl
end Go.Proofs.YtphhdonkpijhhaaGreatDoor.Am.TypesScopes
