/- Cb: refi refj refk refl refm refn refo -/
import Derived.Test.YtpieeldbamklkaaGreatDoorACa
import Derived.Deep.RegionHeld3
namespace Go.Proofs.YtpieeldbamklkaaGreatDoor
open Go.RowKit Num
section
variable {l l':List UInt8}
end
section
variable {l l':List UInt8}
end
section
variable {l l':List UInt8}
end
section
variable {l l':List UInt8}
end
end Go.Proofs.YtpieeldbamklkaaGreatDoor
