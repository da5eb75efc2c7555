/- Be: shelfcut parsea parse -/
import Derived.Test.YtpieeldbamklkaaGreatDoorABd
import Derived.Shelf.LaysM
import Derived.Shelf.Strings.Cut
import Derived.Shelf.Strings.Shaped
import Derived.Test.YtpieeldbamklkaaGreatDoorProg
import Derived.Lib.IndexMore
namespace Go.Proofs
open Go.Shelf
end Go.Proofs
namespace Go.Proofs.YtpieeldbamklkaaGreatDoor
open Num
open Go.RowKit
end Go.Proofs.YtpieeldbamklkaaGreatDoor
