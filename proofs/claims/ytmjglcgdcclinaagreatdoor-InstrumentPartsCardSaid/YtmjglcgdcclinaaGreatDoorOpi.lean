/- Instruments as arguments. -/
import Derived.Test.YtmjglcgdcclinaaGreatDoorIe
import Derived.OpenShut
import Derived.Lib.SmallJoins
import Derived.ChangeSame
namespace Go.Proofs.YtmjglcgdcclinaaGreatDoor
open Go.ChangeShapes Go.WideShapes Go.ChangeAt Go.RowKit
section
variable {H : Type} {enc : TypeId × Value → H} {w : World} {base : Nat} {spare : Nat → Bool} {held : Bool}
theorem cz_str : Tryz.prog.cellsOf 9 = 1 := by kernel_rfl
theorem cz_int : Tryz.prog.cellsOf 3 = 1 := by kernel_rfl
theorem cz_day : Tryz.prog.cellsOf 29 = 1 := by kernel_rfl
theorem cz_ai : Tryz.prog.cellsOf 30 = 1 := by kernel_rfl
theorem cz_frac : Tryz.prog.cellsOf 32 = 2 := by kernel_rfl
theorem cz_ins : Tryz.prog.cellsOf 34 = 15 := by kernel_rfl
theorem field_at {n : Nat} {fs : Array Field} {cs : List Value} {xs : List (DataW H × List MemPlace)} (hf : ∀ (i : Nat) (f : Field), fs[i]? = some f → DataW.trod enc Tryz.prog w base spare held n f.type ((cs.drop f.offset).take (Tryz.prog.cellsOf f.type)) = xs[i]?)
    (i : Nat) (ty : TypeId) (off : Nat) (f : Field) (h1 : fs[i]? = some f) (h2 : f.type = ty) (h3 : f.offset = off) (k : Nat) (h4 : Tryz.prog.cellsOf ty = k) (h5 : i < xs.length) : DataW.trod enc Tryz.prog w base spare held n ty ((cs.drop off).take k) = some (xs[i]'h5) := by
  have h := hf i f h1
  rw [h2, h3, h4, List.getElem?_eq_getElem h5] at h
  exact h
set_option maxRecDepth 10000 in
theorem frac_of_trod {fuel : Nat} {c0 c1 : Value} {x : DataW H × List MemPlace} (h : DataW.trod enc Tryz.prog w base spare held fuel 32 [c0, c1] = some x) : ∃ l l' : List UInt8, c0 = .string ⟨l.toArray⟩ ∧ c1 = .string ⟨l'.toArray⟩ := by
  obtain ⟨xs, n, -, -, -, hxl, hf⟩ := DataW.trod_struct Tryz.underlying32 h
  have hxl : xs.length = 2 := hxl
  have h0 : DataW.trod enc Tryz.prog w base spare held n 30 [c0] = some (xs[0]'(by omega)) := field_at hf 0 30 0 _ rfl rfl rfl 1 cz_ai (by omega)
  have h1 : DataW.trod enc Tryz.prog w base spare held n 30 [c1] = some (xs[1]'(by omega)) := field_at hf 1 30 1 _ rfl rfl rfl 1 cz_ai (by omega)
  obtain ⟨s0, e0, -, -⟩ := DataW.trod_string Tryz.underlying30 h0
  obtain ⟨s1, e1, -, -⟩ := DataW.trod_string Tryz.underlying30 h1
  injection e0 with e0
  injection e1 with e1
  exact ⟨s0.data.toList, s1.data.toList, e0, e1⟩
set_option maxRecDepth 10000 in
theorem ins_of_trod {fuel : Nat} {cs : List Value} {x : DataW H × List MemPlace} (h : DataW.trod enc Tryz.prog w base spare held fuel 34 cs = some x) : ∃ y : Ins, cs = (#[Value.string ⟨List.toArray y.id⟩, Value.int .i64 y.kind, Value.string ⟨List.toArray y.cur⟩, Value.int .i64 y.places, Value.int .i64 y.issued, Value.int .i64 y.matures, Value.string ⟨List.toArray y.fn⟩, Value.string ⟨List.toArray y.fd⟩, Value.string ⟨List.toArray y.cn⟩, Value.string ⟨List.toArray y.cd⟩, Value.int .i64 y.months, Value.int .i64 y.count, Value.string ⟨List.toArray y.other⟩, Value.string ⟨List.toArray y.sn⟩, Value.string ⟨List.toArray y.sd⟩]).toList := by
  obtain ⟨xs, n, -, -, hlen, hxl, hf⟩ := DataW.trod_struct Tryz.underlying34 h
  rw [cz_ins] at hlen
  have hxl : xs.length = 12 := hxl
  match cs, hlen with
  | [c0, c1, c2, c3, c4, c5, c6, c7, c8, c9, c10, c11, c12, c13, c14], _ =>
    have h0 : DataW.trod enc Tryz.prog w base spare held n 9 [c0] = some (xs[0]'(by omega)) := field_at hf 0 9 0 _ rfl rfl rfl 1 cz_str (by omega)
    have h1 : DataW.trod enc Tryz.prog w base spare held n 3 [c1] = some (xs[1]'(by omega)) := field_at hf 1 3 1 _ rfl rfl rfl 1 cz_int (by omega)
    have h2 : DataW.trod enc Tryz.prog w base spare held n 9 [c2] = some (xs[2]'(by omega)) := field_at hf 2 9 2 _ rfl rfl rfl 1 cz_str (by omega)
    have h3 : DataW.trod enc Tryz.prog w base spare held n 3 [c3] = some (xs[3]'(by omega)) := field_at hf 3 3 3 _ rfl rfl rfl 1 cz_int (by omega)
    have h4 : DataW.trod enc Tryz.prog w base spare held n 29 [c4] = some (xs[4]'(by omega)) := field_at hf 4 29 4 _ rfl rfl rfl 1 cz_day (by omega)
    have h5 : DataW.trod enc Tryz.prog w base spare held n 29 [c5] = some (xs[5]'(by omega)) := field_at hf 5 29 5 _ rfl rfl rfl 1 cz_day (by omega)
    have h6 : DataW.trod enc Tryz.prog w base spare held n 32 [c6, c7] = some (xs[6]'(by omega)) := field_at hf 6 32 6 _ rfl rfl rfl 2 cz_frac (by omega)
    have h7 : DataW.trod enc Tryz.prog w base spare held n 32 [c8, c9] = some (xs[7]'(by omega)) := field_at hf 7 32 8 _ rfl rfl rfl 2 cz_frac (by omega)
    have h8 : DataW.trod enc Tryz.prog w base spare held n 3 [c10] = some (xs[8]'(by omega)) := field_at hf 8 3 10 _ rfl rfl rfl 1 cz_int (by omega)
    have h9 : DataW.trod enc Tryz.prog w base spare held n 3 [c11] = some (xs[9]'(by omega)) := field_at hf 9 3 11 _ rfl rfl rfl 1 cz_int (by omega)
    have h10 : DataW.trod enc Tryz.prog w base spare held n 9 [c12] = some (xs[10]'(by omega)) := field_at hf 10 9 12 _ rfl rfl rfl 1 cz_str (by omega)
    have h11 : DataW.trod enc Tryz.prog w base spare held n 32 [c13, c14] = some (xs[11]'(by omega)) := field_at hf 11 32 13 _ rfl rfl rfl 2 cz_frac (by omega)
    obtain ⟨s0, e0, -, -⟩ := DataW.trod_string Tryz.underlying9 h0
    obtain ⟨s1, e1, -, -⟩ := DataW.trod_int Tryz.underlying3 h1
    obtain ⟨s2, e2, -, -⟩ := DataW.trod_string Tryz.underlying9 h2
    obtain ⟨s3, e3, -, -⟩ := DataW.trod_int Tryz.underlying3 h3
    obtain ⟨s4, e4, -, -⟩ := DataW.trod_int Tryz.underlying29 h4
    obtain ⟨s5, e5, -, -⟩ := DataW.trod_int Tryz.underlying29 h5
    obtain ⟨s6, s7, e6, e7⟩ := frac_of_trod h6
    obtain ⟨s8, s9, e8, e9⟩ := frac_of_trod h7
    obtain ⟨s10, e10, -, -⟩ := DataW.trod_int Tryz.underlying3 h8
    obtain ⟨s11, e11, -, -⟩ := DataW.trod_int Tryz.underlying3 h9
    obtain ⟨s12, e12, -, -⟩ := DataW.trod_string Tryz.underlying9 h10
    obtain ⟨s13, s14, e13, e14⟩ := frac_of_trod h11
    injection e0 with e0
    injection e1 with e1
    injection e2 with e2
    injection e3 with e3
    injection e4 with e4
    injection e5 with e5
    injection e10 with e10
    injection e11 with e11
    injection e12 with e12
    subst e0 e1 e2 e3 e4 e5 e6 e7 e8 e9 e10 e11 e12 e13 e14
    exact ⟨⟨s0.data.toList, s1, s2.data.toList, s3, s4, s5, s6, s7, s8, s9, s10, s11, s12.data.toList, s13, s14⟩, rfl⟩
set_option maxRecDepth 10000 in
theorem open_ins {r : Reach} {b0 : Nat} {v : Value} {d : DataW H} {p : List MemPlace} (hv : Value.okWide Tryz.prog w r b0 34 v) (h : DataW.Trod enc Tryz.prog w base spare held 34 v d p) : ∃ x : Ins, v = (Value.agg #[Value.string ⟨List.toArray x.id⟩, Value.int .i64 x.kind, Value.string ⟨List.toArray x.cur⟩, Value.int .i64 x.places, Value.int .i64 x.issued, Value.int .i64 x.matures, Value.string ⟨List.toArray x.fn⟩, Value.string ⟨List.toArray x.fd⟩, Value.string ⟨List.toArray x.cn⟩, Value.string ⟨List.toArray x.cd⟩, Value.int .i64 x.months, Value.int .i64 x.count, Value.string ⟨List.toArray x.other⟩, Value.string ⟨List.toArray x.sn⟩, Value.string ⟨List.toArray x.sd⟩]) := by
  obtain ⟨cs, rfl, hsz⟩ := okWide_struct Tryz.underlying34 hv
  obtain ⟨fuel, hf⟩ := h
  obtain ⟨x, hx⟩ := ins_of_trod hf
  obtain ⟨l⟩ := cs
  exact ⟨x, by rw [show l = _ from hx]⟩
end
end Go.Proofs.YtmjglcgdcclinaaGreatDoor
