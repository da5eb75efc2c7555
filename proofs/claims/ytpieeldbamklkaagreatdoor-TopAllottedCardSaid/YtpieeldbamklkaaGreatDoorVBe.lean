/- Be: shelfcut parsea parse -/
import Derived.Test.YtpieeldbamklkaaGreatDoorVBd
import Derived.Shelf.LaysM
import Derived.Shelf.Strings.Cut
import Derived.Shelf.Strings.Shaped
import Derived.Test.YtpieeldbamklkaaGreatDoorProg
import Derived.Lib.IndexMore
open Go.Proofs.Tryz
namespace Go.Proofs
open Go.Shelf
end Go.Proofs
namespace Go.Proofs.YtpieeldbamklkaaGreatDoor
open Num
theorem Jq (z:Int):val (Z3 z)=z:=by
 unfold Z3;split
 ·next h=>rw[h];decide
 ·exact Zm z
open Go.RowKit
end Go.Proofs.YtpieeldbamklkaaGreatDoor
