/- Be: shelfcut parsea parse -/
import Derived.Test.YtpieeldbamklkaaGreatDoorYBd
import Derived.Shelf.LaysM
import Derived.Shelf.Strings.Cut
import Derived.Shelf.Strings.Shaped
import Derived.Test.YtpieeldbamklkaaGreatDoorProg
import Derived.Lib.IndexMore
open Go.Proofs.Tryz
namespace Go.Proofs
open Go.Shelf
end Go.Proofs
namespace Go.Proofs.YtpieeldbamklkaaGreatDoor
open Num
theorem Jj (z:Int):val (Z7 z)=z:=by
 unfold Z7;split
 ·next h=>rw[h];decide
 ·exact Zh z
open Go.RowKit
end Go.Proofs.YtpieeldbamklkaaGreatDoor
