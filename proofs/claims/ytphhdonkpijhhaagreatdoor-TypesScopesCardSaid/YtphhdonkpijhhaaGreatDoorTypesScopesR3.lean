/- Runs of the law on the abstract machine, a case each. -/
import Derived.Test.YtphhdonkpijhhaaGreatDoorBase
set_option linter.all false
namespace Go.Proofs.YtphhdonkpijhhaaGreatDoor.Am.TypesScopes
open Go.AM
set_option maxRecDepth 100000
def G10T : Facts := { nums := [((.bin .rem .u8 (.var 0) (.lit (.ofNat 3))), .ofNat 1), ((.bin .rem .u8 (.var 1) (.lit (.ofNat 3))), .ofNat 0)], tests := [] }
theorem r10T : isTrue (callN G10T (fun f => orcOf f (orcs G10T)) (Tr.get Ftab) 2000 100 3 [.int .u8 (.var 0), .int .u8 (.var 1), yes] (empty 12)) = true := by kernel_rfl
def G10F : Facts := { nums := [((.bin .rem .u8 (.var 0) (.lit (.ofNat 3))), .ofNat 1), ((.bin .rem .u8 (.var 1) (.lit (.ofNat 3))), .ofNat 0)], tests := [] }
theorem r10F : isTrue (callN G10F (fun f => orcOf f (orcs G10F)) (Tr.get Ftab) 2000 100 3 [.int .u8 (.var 0), .int .u8 (.var 1), nay] (empty 12)) = true := by kernel_rfl
end Go.Proofs.YtphhdonkpijhhaaGreatDoor.Am.TypesScopes
