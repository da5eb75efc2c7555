/- Facts of the program that every card asks: once. -/
import Derived.Test.YtpieeldbamklkaaGreatDoorAWit
namespace Go.Proofs.YtpieeldbamklkaaGreatDoor
theorem Zb5 {a b:Bool} (h:a=true) (k:b=true):(a&&b)=true:=by rw[h,k];rfl
theorem Iw:laidOutB Tryz.prog=true:=by kernel_rfl
theorem Aw:mapsRowed Tryz.prog=true:=by kernel_rfl
theorem EI:Tryz.prog.stopsHeard=true:=by kernel_rfl
theorem EJ:Tryz.prog.mayEnter=true:=by kernel_rfl
theorem EK:Tryz.prog.liftsFinal=false:=by kernel_rfl
theorem Ax:Tryz.prog.plainKeys=true:=by kernel_rfl
end Go.Proofs.YtpieeldbamklkaaGreatDoor
