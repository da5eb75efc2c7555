/- Facts of the program that every card asks: once. -/
import Derived.Test.YtpieeldbamklkaaGreatDoorWWit
namespace Go.Proofs.YtpieeldbamklkaaGreatDoor
theorem BK {a b:Bool} (h:a=true) (k:b=true):(a&&b)=true:=by rw[h,k];rfl
theorem Q3:laidOutB Tryz.prog=true:=by kernel_rfl
theorem JL:mapsRowed Tryz.prog=true:=by kernel_rfl
theorem MC:Tryz.prog.stopsHeard=true:=by kernel_rfl
theorem ME:Tryz.prog.mayEnter=true:=by kernel_rfl
theorem MF:Tryz.prog.liftsFinal=false:=by kernel_rfl
theorem JM:Tryz.prog.plainKeys=true:=by kernel_rfl
end Go.Proofs.YtpieeldbamklkaaGreatDoor
