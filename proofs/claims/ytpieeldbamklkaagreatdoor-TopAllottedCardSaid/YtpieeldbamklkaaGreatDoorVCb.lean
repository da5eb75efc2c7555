/- Cb: refi refj refk refl refm refn refo -/
import Derived.Test.YtpieeldbamklkaaGreatDoorVCa
import Derived.Deep.RegionHeld3
open Go.Proofs.Tryz
namespace Go.Proofs.YtpieeldbamklkaaGreatDoor
open Go.RowKit Num
section
variable {l l':List UInt8}
end
section
variable {l l':List UInt8}
end
section
variable {l l':List UInt8}
end
section
variable {l l':List UInt8}
end
end Go.Proofs.YtpieeldbamklkaaGreatDoor
