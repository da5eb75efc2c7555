/- Cd: rff rfg -/
import Derived.Test.YtpieeldbamklkaaGreatDoorVCc
import Derived.Test.YtpieeldbamklkaaGreatDoorVBe
open Go.Proofs.Tryz
namespace Go.Proofs.YtpieeldbamklkaaGreatDoor
open Go.RowKit Num
section
variable {l l' k k':List UInt8}
end
end Go.Proofs.YtpieeldbamklkaaGreatDoor
