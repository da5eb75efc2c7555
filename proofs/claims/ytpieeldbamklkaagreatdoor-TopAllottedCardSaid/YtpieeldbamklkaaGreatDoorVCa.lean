/- Ca: jmag rcut rdig refa refb refc refd refe reff refg refh -/
import Derived.Test.YtpieeldbamklkaaGreatDoorVBk
import Derived.Laws.Cover1
import Derived.IntWalk
open Go.Proofs.Tryz
namespace Go.Proofs.YtpieeldbamklkaaGreatDoor
open Go.RowKit Num
section
variable {w w':World} {base n c:Nat} {A:Option Addr} {l:List Nat} {e:TypeId}
end
section
variable {w w':World} {g:Nat} {xs:List Nat}
end
section
variable {l l':List UInt8}
end
end Go.Proofs.YtpieeldbamklkaaGreatDoor
