/- A period as an argument. -/
import Derived.Test.YtmjglcgdcclinaaGreatDoorOpt
namespace Go.Proofs.YtmjglcgdcclinaaGreatDoor
open Go.ChangeShapes Go.WideShapes Go.ChangeAt Go.RowKit Go.Deep
section
variable {H : Type} {enc : TypeId × Value → H} {w : World} {base : Nat} {spare : Nat → Bool} {held : Bool}
theorem czk_per : Tryz.prog.cellsOf 72 = 2 := by kernel_rfl
set_option maxRecDepth 10000 in
theorem per_of_trod {fuel : Nat} {cs : List Value} {x : DataW H × List MemPlace} (h : DataW.trod enc Tryz.prog w base spare held fuel 72 cs = some x) : ∃ a b : Int, cs = [.int .i64 a, .int .i64 b] := by
  obtain ⟨xs, n, -, -, hlen, hxl, hf⟩ := DataW.trod_struct Tryz.underlying72 h
  rw [czk_per] at hlen
  have hxl : xs.length = 2 := hxl
  match cs, hlen with
  | [c0, c1], _ =>
    have h0 : DataW.trod enc Tryz.prog w base spare held n 29 [c0] = some (xs[0]'(by omega)) := field_at' hf 0 29 0 _ rfl rfl rfl 1 czk_day (by omega)
    have h1 : DataW.trod enc Tryz.prog w base spare held n 29 [c1] = some (xs[1]'(by omega)) := field_at' hf 1 29 1 _ rfl rfl rfl 1 czk_day (by omega)
    obtain ⟨s0, e0, -, -⟩ := DataW.trod_int Tryz.underlying29 h0
    injection e0 with e0
    obtain ⟨s1, e1, -, -⟩ := DataW.trod_int Tryz.underlying29 h1
    injection e1 with e1
    subst e0 e1
    exact ⟨s0, s1, rfl⟩
set_option maxRecDepth 10000 in
theorem open_per {r : Reach} {b0 : Nat} {v : Value} {d : DataW H} {p : List MemPlace} (hv : Value.okWide Tryz.prog w r b0 72 v) (h : DataW.Trod enc Tryz.prog w base spare held 72 v d p) : ∃ a b : Int, v = .agg #[.int .i64 a, .int .i64 b] := by
  obtain ⟨cs, rfl, hsz⟩ := okWide_struct Tryz.underlying72 hv
  obtain ⟨fuel, hf⟩ := h
  obtain ⟨a, b, hx⟩ := per_of_trod hf
  obtain ⟨l⟩ := cs
  exact ⟨a, b, by rw [show l = _ from hx]⟩
end
end Go.Proofs.YtmjglcgdcclinaaGreatDoor
