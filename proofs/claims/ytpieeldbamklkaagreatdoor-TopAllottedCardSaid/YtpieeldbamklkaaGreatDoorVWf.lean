/- Facts of the program that every card asks: once. -/
import Derived.Test.YtpieeldbamklkaaGreatDoorVWit
open Go.Proofs.Tryz
namespace Go.Proofs.YtpieeldbamklkaaGreatDoor
theorem Zcl {a b:Bool} (h:a=true) (k:b=true):(a&&b)=true:=by rw[h,k];rfl
theorem IF:laidOutB prog=true:=by kernel_rfl
theorem AH:mapsRowed prog=true:=by kernel_rfl
theorem EF:prog.stopsHeard=true:=by kernel_rfl
theorem EG:prog.mayEnter=true:=by kernel_rfl
theorem EH:prog.liftsFinal=false:=by kernel_rfl
theorem AJ:prog.plainKeys=true:=by kernel_rfl
end Go.Proofs.YtpieeldbamklkaaGreatDoor
