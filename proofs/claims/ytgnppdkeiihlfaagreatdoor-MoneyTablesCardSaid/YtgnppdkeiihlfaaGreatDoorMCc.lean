/- Cc: refp refq refr refs reft refu refv refw refx refy refz rfa rfb rfc rfd rfe -/
import Derived.Test.YtgnppdkeiihlfaaGreatDoorMCb
import Derived.Test.YtgnppdkeiihlfaaGreatDoorMBd
/- trancheref02: one, zero, exact, Raw. -/
namespace Go.Proofs.YtgnppdkeiihlfaaGreatDoor
open Go.RowKit Num

section
variable {l l' : List UInt8}
end
end Go.Proofs.YtgnppdkeiihlfaaGreatDoor
/- trancheref02: Raw. -/
namespace Go.Proofs.YtgnppdkeiihlfaaGreatDoor
open Go.RowKit Num
section
variable {l l' : List UInt8}
end
end Go.Proofs.YtgnppdkeiihlfaaGreatDoor
/- trancheref02: reduced. -/
namespace Go.Proofs.YtgnppdkeiihlfaaGreatDoor
open Go.RowKit Num
section
variable {l l' : List UInt8}
end
end Go.Proofs.YtgnppdkeiihlfaaGreatDoor
/- trancheref02: Canonical, Neg, Of. -/
namespace Go.Proofs.YtgnppdkeiihlfaaGreatDoor
open Go.RowKit Num
section
variable {l l' : List UInt8} {q : Rat}
end
end Go.Proofs.YtgnppdkeiihlfaaGreatDoor
/- trancheref02: Neg. -/
namespace Go.Proofs.YtgnppdkeiihlfaaGreatDoor
open Go.RowKit Num
section
variable {l l' : List UInt8} {q : Rat}
end
end Go.Proofs.YtgnppdkeiihlfaaGreatDoor
/- trancheref02: Mul. -/
namespace Go.Proofs.YtgnppdkeiihlfaaGreatDoor
open Go.RowKit Num
section
variable {l l' k k' : List UInt8} {q : Rat}
end
end Go.Proofs.YtgnppdkeiihlfaaGreatDoor
/- trancheref02: Add. -/
namespace Go.Proofs.YtgnppdkeiihlfaaGreatDoor
open Go.RowKit Num
section
variable {l l' k k' : List UInt8} {q : Rat}
end
end Go.Proofs.YtgnppdkeiihlfaaGreatDoor
/- trancheref02: Compare's plain law. -/
namespace Go.Proofs.YtgnppdkeiihlfaaGreatDoor
open Go.RowKit Num
end Go.Proofs.YtgnppdkeiihlfaaGreatDoor
/- trancheref02: Compare. -/
namespace Go.Proofs.YtgnppdkeiihlfaaGreatDoor
open Go.RowKit Num
section
variable {l l' k k' : List UInt8}
end
end Go.Proofs.YtgnppdkeiihlfaaGreatDoor
/- trancheref02: Of. -/
namespace Go.Proofs.YtgnppdkeiihlfaaGreatDoor
open Go.RowKit Num
section
variable {l : List UInt8} {q : Rat}
end
end Go.Proofs.YtgnppdkeiihlfaaGreatDoor
/- trancheref02: New. -/
namespace Go.Proofs.YtgnppdkeiihlfaaGreatDoor
open Go.RowKit Num
section
variable {l l' : List UInt8} {q : Rat}
end
end Go.Proofs.YtgnppdkeiihlfaaGreatDoor
/- trancheref02: Sub. -/
namespace Go.Proofs.YtgnppdkeiihlfaaGreatDoor
open Go.RowKit Num
section
variable {l l' k k' : List UInt8} {q : Rat}
end
end Go.Proofs.YtgnppdkeiihlfaaGreatDoor
/- trancheref02: Parts, Floor, Quo. -/
namespace Go.Proofs.YtgnppdkeiihlfaaGreatDoor
open Go.RowKit Num
section
variable {l l' k k' : List UInt8} {q : Rat}
end
end Go.Proofs.YtgnppdkeiihlfaaGreatDoor
/- trancheref02: Quo, Check. -/
namespace Go.Proofs.YtgnppdkeiihlfaaGreatDoor
open Go.RowKit Num
section
variable {l l' k k' : List UInt8} {q : Rat}
end
end Go.Proofs.YtgnppdkeiihlfaaGreatDoor
/- trancheref02: Print, Power. -/
namespace Go.Proofs.YtgnppdkeiihlfaaGreatDoor
open Go.RowKit Num
section
variable {l l' : List UInt8} {q : Rat}
end
/-! Power. -/
end Go.Proofs.YtgnppdkeiihlfaaGreatDoor
/- trancheref02: Power. -/
namespace Go.Proofs.YtgnppdkeiihlfaaGreatDoor
open Go.RowKit Num
section
variable {l l' k : List UInt8} {q : Rat}
end
end Go.Proofs.YtgnppdkeiihlfaaGreatDoor
