/- Facts of the program that every card asks: once. -/
import Derived.Test.YtgnppdkeiihlfaaGreatDoorFWit
namespace Go.Proofs.YtgnppdkeiihlfaaGreatDoor
theorem and_t {a b : Bool} (h : a = true) (k : b = true) : (a && b) = true := by rw [h, k]; rfl
theorem pf_laid : laidOutB Tryz.prog = true := by kernel_rfl
theorem pf_maps : mapsRowed Tryz.prog = true := by kernel_rfl
theorem pf_heard : Tryz.prog.stopsHeard = true := by kernel_rfl
theorem pf_enter : Tryz.prog.mayEnter = true := by kernel_rfl
theorem pf_lifts : Tryz.prog.liftsFinal = false := by kernel_rfl
theorem pf_keys : Tryz.prog.plainKeys = true := by kernel_rfl
end Go.Proofs.YtgnppdkeiihlfaaGreatDoor
