/- Cc: refp refq refr refs reft refu refv refw refx refy refz rfa rfb rfc rfd rfe -/
import Derived.Test.YtpieeldbamklkaaGreatDoorVCb
import Derived.Test.YtpieeldbamklkaaGreatDoorVBd
open Go.Proofs.Tryz
namespace Go.Proofs.YtpieeldbamklkaaGreatDoor
open Go.RowKit Num
section
variable {l l':List UInt8}
end
section
variable {l l':List UInt8}
end
section
variable {l l':List UInt8}
end
section
variable {l l':List UInt8} {q:Rat}
end
section
variable {l l':List UInt8} {q:Rat}
end
section
variable {l l' k k':List UInt8} {q:Rat}
end
section
variable {l l' k k':List UInt8} {q:Rat}
end
section
variable {l l' k k':List UInt8}
end
section
variable {l:List UInt8} {q:Rat}
end
section
variable {l l':List UInt8} {q:Rat}
end
section
variable {l l' k k':List UInt8} {q:Rat}
end
section
variable {l l' k k':List UInt8} {q:Rat}
end
section
variable {l l' k k':List UInt8} {q:Rat}
end
section
variable {l l':List UInt8} {q:Rat}
end
section
variable {l l' k:List UInt8} {q:Rat}
end
end Go.Proofs.YtpieeldbamklkaaGreatDoor
