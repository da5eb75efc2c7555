/- slices.Equal at strings, for equal lists. -/
import Derived.Test.YtmjglcgdcclinaaGreatDoorIr
namespace Go.Proofs.YtmjglcgdcclinaaGreatDoor
open Go.RowKit Num
end Go.Proofs.YtmjglcgdcclinaaGreatDoor
