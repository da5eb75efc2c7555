/- Facts of the program that every card asks: once. -/
import Derived.Test.YtpieeldbamklkaaGreatDoorYWit
open Go.Proofs.Tryz
namespace Go.Proofs.YtpieeldbamklkaaGreatDoor
theorem ZbJ {a b:Bool} (h:a=true) (k:b=true):(a&&b)=true:=by rw[h,k];rfl
theorem Iy:laidOutB prog=true:=by kernel_rfl
theorem BU:mapsRowed prog=true:=by kernel_rfl
theorem Ee:prog.stopsHeard=true:=by kernel_rfl
theorem Ef:prog.mayEnter=true:=by kernel_rfl
theorem Eg:prog.liftsFinal=false:=by kernel_rfl
theorem BW:prog.plainKeys=true:=by kernel_rfl
end Go.Proofs.YtpieeldbamklkaaGreatDoor
