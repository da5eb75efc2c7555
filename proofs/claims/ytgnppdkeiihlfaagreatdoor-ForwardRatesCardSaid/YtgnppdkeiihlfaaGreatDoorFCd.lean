/- Cd: rff rfg -/
import Derived.Test.YtgnppdkeiihlfaaGreatDoorFCc
import Derived.Test.YtgnppdkeiihlfaaGreatDoorFBe
/- trancheref02: Parse. -/
namespace Go.Proofs.YtgnppdkeiihlfaaGreatDoor
open Go.RowKit Num
end Go.Proofs.YtgnppdkeiihlfaaGreatDoor
/- Both packages at once: New, Quo, Parse. -/
namespace Go.Proofs.YtgnppdkeiihlfaaGreatDoor
open Go.RowKit Num
section
variable {l l' k k' : List UInt8}
end
end Go.Proofs.YtgnppdkeiihlfaaGreatDoor
