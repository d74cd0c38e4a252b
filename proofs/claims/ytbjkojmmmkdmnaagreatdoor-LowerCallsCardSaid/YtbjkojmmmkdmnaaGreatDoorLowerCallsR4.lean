/- Runs of the law on the abstract machine, a case each. -/
import Derived.Test.YtbjkojmmmkdmnaaGreatDoorBase
set_option linter.all false
namespace Go.Proofs.YtbjkojmmmkdmnaaGreatDoor.Am.LowerCalls
open Go.AM
set_option maxRecDepth 100000
def G4 : Facts := { nums := [((.bin .rem .u8 (.var 1) (.lit (.ofNat 5))), .ofNat 4)], tests := [(.eql, (.var 0), (.var 0), true)] }
theorem r4 : isTrue (callN G4 (fun f => orcOf f (orcs G4)) (Tr.get Ftab) 2000 100 3 [.int .i32 (.var 0), .int .u8 (.var 1)] (empty 12)) = true := by kernel_rfl
end Go.Proofs.YtbjkojmmmkdmnaaGreatDoor.Am.LowerCalls
