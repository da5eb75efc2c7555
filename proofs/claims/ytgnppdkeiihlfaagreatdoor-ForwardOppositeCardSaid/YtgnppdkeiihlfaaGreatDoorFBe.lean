/- Be: shelfcut parsea parse -/
import Derived.Test.YtgnppdkeiihlfaaGreatDoorFBd
import Derived.Shelf.LaysM
import Derived.Shelf.Strings.Cut
import Derived.Shelf.Strings.Shaped
import Derived.Test.YtgnppdkeiihlfaaGreatDoorProg
import Derived.Lib.IndexMore
/- strings.Cut, laid at this seat's numbers. -/
namespace Go.Proofs
open Go.Shelf
end Go.Proofs
/- Plain: the texts of fractions. -/
namespace Go.Proofs.YtgnppdkeiihlfaaGreatDoor
open Num
end Go.Proofs.YtgnppdkeiihlfaaGreatDoor
/- Package fraction: Parse. -/
namespace Go.Proofs.YtgnppdkeiihlfaaGreatDoor
open Go.RowKit Num
end Go.Proofs.YtgnppdkeiihlfaaGreatDoor
