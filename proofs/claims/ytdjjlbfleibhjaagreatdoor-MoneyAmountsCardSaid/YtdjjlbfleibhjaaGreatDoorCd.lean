/- Cd: rff rfg -/
import Derived.Test.YtdjjlbfleibhjaaGreatDoorCc
import Derived.Test.YtdjjlbfleibhjaaGreatDoorBe
/- trancheref02: Parse. -/
namespace Go.Proofs.YtdjjlbfleibhjaaGreatDoor
open Go.RowKit Num
end Go.Proofs.YtdjjlbfleibhjaaGreatDoor
/- Both packages at once: New, Quo, Parse. -/
namespace Go.Proofs.YtdjjlbfleibhjaaGreatDoor
open Go.RowKit Num
theorem divInt_one (z : Int) : Rat.divInt z 1 = (z : Rat) := Rat.num_divInt_den (z : Rat)
section
variable {l l' k k' : List UInt8}
end
end Go.Proofs.YtdjjlbfleibhjaaGreatDoor
