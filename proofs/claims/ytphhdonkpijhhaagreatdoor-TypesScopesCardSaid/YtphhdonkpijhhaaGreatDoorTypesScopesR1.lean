/- Runs of the law on the abstract machine, a case each. -/
import Derived.Test.YtphhdonkpijhhaaGreatDoorBase
set_option linter.all false
namespace Go.Proofs.YtphhdonkpijhhaaGreatDoor.Am.TypesScopes
open Go.AM
set_option maxRecDepth 100000
def G01T : Facts := { nums := [((.bin .rem .u8 (.var 0) (.lit (.ofNat 3))), .ofNat 0), ((.bin .rem .u8 (.var 1) (.lit (.ofNat 3))), .ofNat 1)], tests := [] }
theorem r01T : isTrue (callN G01T (fun f => orcOf f (orcs G01T)) (Tr.get Ftab) 2000 100 3 [.int .u8 (.var 0), .int .u8 (.var 1), yes] (empty 12)) = true := by kernel_rfl
def G01F : Facts := { nums := [((.bin .rem .u8 (.var 0) (.lit (.ofNat 3))), .ofNat 0), ((.bin .rem .u8 (.var 1) (.lit (.ofNat 3))), .ofNat 1)], tests := [] }
theorem r01F : isTrue (callN G01F (fun f => orcOf f (orcs G01F)) (Tr.get Ftab) 2000 100 3 [.int .u8 (.var 0), .int .u8 (.var 1), nay] (empty 12)) = true := by kernel_rfl
end Go.Proofs.YtphhdonkpijhhaaGreatDoor.Am.TypesScopes
