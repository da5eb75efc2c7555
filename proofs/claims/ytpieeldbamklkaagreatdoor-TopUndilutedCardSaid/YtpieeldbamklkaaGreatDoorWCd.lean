/- Cd: rff rfg -/
import Derived.Test.YtpieeldbamklkaaGreatDoorWCc
import Derived.Test.YtpieeldbamklkaaGreatDoorWBe
namespace Go.Proofs.YtpieeldbamklkaaGreatDoor
open Go.RowKit Num
section
variable {l l' k k':List UInt8}
end
end Go.Proofs.YtpieeldbamklkaaGreatDoor
