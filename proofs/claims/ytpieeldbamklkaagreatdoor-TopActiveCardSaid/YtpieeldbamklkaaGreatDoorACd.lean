/- Cd: rff rfg -/
import Derived.Test.YtpieeldbamklkaaGreatDoorACc
import Derived.Test.YtpieeldbamklkaaGreatDoorABe
namespace Go.Proofs.YtpieeldbamklkaaGreatDoor
open Go.RowKit Num
section
variable {l l' k k':List UInt8}
end
end Go.Proofs.YtpieeldbamklkaaGreatDoor
