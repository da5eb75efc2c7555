/- Slices of instruments and of currencies as arguments. -/
import Derived.Test.YtmjglcgdcclinaaGreatDoorOpi
import Derived.Test.YtmjglcgdcclinaaGreatDoorIi
import Derived.Test.YtmjglcgdcclinaaGreatDoorMb
import Derived.Deep.Slices
import Derived.Deep.Fields
namespace Go.Proofs.YtmjglcgdcclinaaGreatDoor
open Go.ChangeShapes Go.WideShapes Go.ChangeAt Go.RowKit Go.Deep
theorem cell_plain {w : World} {a : Addr} {v : Value} (h : w.cell? a = some v) : a.spot = none ∧ a.block < w.heap.size := by
  unfold World.cell? at h
  split at h
  · next he =>
    split at h
    · cases h
    · next hs => exact ⟨by simpa using hs, (Array.getElem?_eq_some_iff.1 he).1⟩
  · cases h
theorem ins_getElem {y : Ins} {cs : List Value} (h : cs = (#[Value.string ⟨List.toArray y.id⟩, Value.int .i64 y.kind, Value.string ⟨List.toArray y.cur⟩, Value.int .i64 y.places, Value.int .i64 y.issued, Value.int .i64 y.matures, Value.string ⟨List.toArray y.fn⟩, Value.string ⟨List.toArray y.fd⟩, Value.string ⟨List.toArray y.cn⟩, Value.string ⟨List.toArray y.cd⟩, Value.int .i64 y.months, Value.int .i64 y.count, Value.string ⟨List.toArray y.other⟩, Value.string ⟨List.toArray y.sn⟩, Value.string ⟨List.toArray y.sd⟩]).toList) (j : Nat) : cs[j]? = (#[Value.string ⟨List.toArray y.id⟩, Value.int .i64 y.kind, Value.string ⟨List.toArray y.cur⟩, Value.int .i64 y.places, Value.int .i64 y.issued, Value.int .i64 y.matures, Value.string ⟨List.toArray y.fn⟩, Value.string ⟨List.toArray y.fd⟩, Value.string ⟨List.toArray y.cn⟩, Value.string ⟨List.toArray y.cd⟩, Value.int .i64 y.months, Value.int .i64 y.count, Value.string ⟨List.toArray y.other⟩, Value.string ⟨List.toArray y.sn⟩, Value.string ⟨List.toArray y.sd⟩])[j]? := by rw [h, Array.getElem?_toList]
section
variable {H : Type} {enc : TypeId × Value → H} {w : World} {base : Nat} {spare : Nat → Bool} {held : Bool}
set_option maxRecDepth 10000 in
theorem open_inss {r : Reach} {b0 : Nat} {v : Value} {d : DataW H} {p : List MemPlace} (hv : Value.okWide Tryz.prog w r b0 22 v) (h : DataW.Trod enc Tryz.prog w base spare held 22 v d p) :
    ∃ (A : Option Addr) (n c : Nat) (xs : List Ins), v = .slice A n c ∧ xs.length = n ∧ n ≤ c ∧ n ≤ 9223372036854775807 ∧ InsAt w A xs := by
  obtain ⟨A, n, c, rfl⟩ := okWide_slice Tryz.underlying22 hv
  obtain ⟨fuel, hf⟩ := h
  rcases open_slice Tryz.underlying22 hf with ⟨hcs, -⟩ | ⟨a, len, cap, m, k, D, Pl, hcs, -, hl, hm, hmm, -, hi⟩
  · have hcs : [Value.slice A n c] = [.slice none 0 0] := hcs
    injection hcs with hcs
    injection hcs with h1 h2 h3
    subst h1 h2 h3
    exact ⟨none, 0, 0, [], rfl, rfl, Nat.le_refl _, by omega, fun i x hx => by simp at hx⟩
  · have hcs : [Value.slice A n c] = [.slice (some a) len cap] := hcs
    injection hcs with hcs
    injection hcs with h1 h2 h3
    subst h1 h2 h3
    have hnm : n ≤ m := by rw [hmm]; split <;> omega
    unfold maxLen at hm
    rw [cz_ins] at hi
    have hy : ∀ i, i < n → ∃ y : Ins, ∀ j, j < 15 → w.cell? ((a.add (i * 15)).add j) = (#[Value.string ⟨List.toArray y.id⟩, Value.int .i64 y.kind, Value.string ⟨List.toArray y.cur⟩, Value.int .i64 y.places, Value.int .i64 y.issued, Value.int .i64 y.matures, Value.string ⟨List.toArray y.fn⟩, Value.string ⟨List.toArray y.fd⟩, Value.string ⟨List.toArray y.cn⟩, Value.string ⟨List.toArray y.cd⟩, Value.int .i64 y.months, Value.int .i64 y.count, Value.string ⟨List.toArray y.other⟩, Value.string ⟨List.toArray y.sn⟩, Value.string ⟨List.toArray y.sd⟩])[j]? := fun i hin => by
      obtain ⟨cs', hc, ht⟩ := hi i (by omega)
      obtain ⟨y, hy⟩ := ins_of_trod ht
      obtain ⟨_, hcl, hat⟩ := World.cells?_some hc
      exact ⟨y, fun j hj => by rw [hat j hj, ins_getElem hy]⟩
    refine ⟨some a, n, c, (List.range n).map fun i => if hin : i < n then (hy i hin).choose else ⟨[], 0, [], 0, 0, 0, [], [], [], [], 0, 0, [], [], []⟩, rfl, by simp, hl, by omega, ?_⟩
    intro i x hx
    have hin : i < n := by
      have := (List.getElem?_eq_some_iff.1 hx).1
      simpa using this
    have hxe : (hy i hin).choose = x := by
      rw [List.getElem?_map, List.getElem?_range hin] at hx
      simp only [Option.map_some, dif_pos hin, Option.some.injEq] at hx
      exact hx
    have hcell := (hy i hin).choose_spec
    rw [hxe] at hcell
    obtain ⟨hs0, hbl⟩ := cell_plain ((hy 0 (by omega)).choose_spec 0 (by decide))
    obtain ⟨b, o, s⟩ := a
    have hz : ((⟨b, o, s⟩ : Addr).add (0 * 15)).add 0 = ⟨b, o, s⟩ := by simp [Addr.add]
    rw [hz] at hs0 hbl
    have hs0 : s = none := hs0
    subst hs0
    have hat : ∀ j, j < 15 → w.cell? ⟨b, o + i * 15 + j, none⟩ = (#[Value.string ⟨List.toArray x.id⟩, Value.int .i64 x.kind, Value.string ⟨List.toArray x.cur⟩, Value.int .i64 x.places, Value.int .i64 x.issued, Value.int .i64 x.matures, Value.string ⟨List.toArray x.fn⟩, Value.string ⟨List.toArray x.fd⟩, Value.string ⟨List.toArray x.cn⟩, Value.string ⟨List.toArray x.cd⟩, Value.int .i64 x.months, Value.int .i64 x.count, Value.string ⟨List.toArray x.other⟩, Value.string ⟨List.toArray x.sn⟩, Value.string ⟨List.toArray x.sd⟩])[j]? := fun j hj => by
      have := hcell j hj
      rwa [Lib.add_plain, Lib.add_plain] at this
    exact ⟨b, o, rfl, hbl, hat 0 (by decide), hat 1 (by decide), hat 2 (by decide), hat 3 (by decide), hat 4 (by decide), hat 5 (by decide), hat 6 (by decide), hat 7 (by decide), hat 8 (by decide), hat 9 (by decide), hat 10 (by decide), hat 11 (by decide), hat 12 (by decide), hat 13 (by decide), hat 14 (by decide)⟩
theorem cz_cur : Tryz.prog.cellsOf 82 = 2 := by kernel_rfl
set_option maxRecDepth 10000 in
theorem cur_of_trod {fuel : Nat} {cs : List Value} {x : DataW H × List MemPlace} (h : DataW.trod enc Tryz.prog w base spare held fuel 82 cs = some x) : ∃ t : Cur, cs = [.string ⟨t.code.toArray⟩, .int .i64 t.places] ∧ t.code.length ≤ 9223372036854775807 := by
  obtain ⟨xs, n, -, -, hlen, hxl, hf⟩ := DataW.trod_struct Tryz.underlying82 h
  rw [cz_cur] at hlen
  have hxl : xs.length = 2 := hxl
  match cs, hlen with
  | [c0, c1], _ =>
    have h0 : DataW.trod enc Tryz.prog w base spare held n 9 [c0] = some (xs[0]'(by omega)) := field_at hf 0 9 0 _ rfl rfl rfl 1 cz_str (by omega)
    have h1 : DataW.trod enc Tryz.prog w base spare held n 3 [c1] = some (xs[1]'(by omega)) := field_at hf 1 3 1 _ rfl rfl rfl 1 cz_int (by omega)
    obtain ⟨s0, e0, -, w0⟩ := DataW.trod_string Tryz.underlying9 h0
    obtain ⟨s1, e1, -, -⟩ := DataW.trod_int Tryz.underlying3 h1
    injection e0 with e0
    injection e1 with e1
    subst e0 e1
    unfold maxLen at w0
    refine ⟨⟨s0.data.toList, s1⟩, rfl, ?_⟩
    show s0.data.toList.length ≤ _
    have : s0.size = s0.data.toList.length := by show s0.data.size = _; simp
    omega
set_option maxRecDepth 10000 in
theorem open_curs {r : Reach} {b0 : Nat} {v : Value} {d : DataW H} {p : List MemPlace} (hv : Value.okWide Tryz.prog w r b0 23 v) (h : DataW.Trod enc Tryz.prog w base spare held 23 v d p) :
    ∃ (A : Option Addr) (n c : Nat) (ts : List Cur), v = .slice A n c ∧ ts.length = n ∧ n ≤ c ∧ ShortC ts ∧ CurAt w A ts := by
  obtain ⟨A, n, c, rfl⟩ := okWide_slice Tryz.underlying23 hv
  obtain ⟨fuel, hf⟩ := h
  rcases open_slice Tryz.underlying23 hf with ⟨hcs, -⟩ | ⟨a, len, cap, m, k, D, Pl, hcs, -, hl, hm, hmm, -, hi⟩
  · have hcs : [Value.slice A n c] = [.slice none 0 0] := hcs
    injection hcs with hcs
    injection hcs with h1 h2 h3
    subst h1 h2 h3
    exact ⟨none, 0, 0, [], rfl, rfl, Nat.le_refl _, fun t ht => by simp at ht, fun i x hx => by simp at hx⟩
  · have hcs : [Value.slice A n c] = [.slice (some a) len cap] := hcs
    injection hcs with hcs
    injection hcs with h1 h2 h3
    subst h1 h2 h3
    have hnm : n ≤ m := by rw [hmm]; split <;> omega
    rw [cz_cur] at hi
    have hy : ∀ i, i < n → ∃ t : Cur, (w.cell? ((a.add (i * 2)).add 0) = some (.string ⟨t.code.toArray⟩) ∧ w.cell? ((a.add (i * 2)).add 1) = some (.int .i64 t.places)) ∧ t.code.length ≤ 9223372036854775807 := fun i hin => by
      obtain ⟨cs', hc, ht⟩ := hi i (by omega)
      obtain ⟨t, hy, hlen⟩ := cur_of_trod ht
      obtain ⟨_, hcl, hat⟩ := World.cells?_some hc
      exact ⟨t, ⟨by rw [hat 0 (by decide), hy]; rfl, by rw [hat 1 (by decide), hy]; rfl⟩, hlen⟩
    have hget : ∀ i t, ((List.range n).map fun i => if hin : i < n then (hy i hin).choose else ⟨[], 0⟩)[i]? = some t → ∃ hin : i < n, (hy i hin).choose = t := fun i t hx => by
      have hin : i < n := by
        have := (List.getElem?_eq_some_iff.1 hx).1
        simpa using this
      rw [List.getElem?_map, List.getElem?_range hin] at hx
      simp only [Option.map_some, dif_pos hin, Option.some.injEq] at hx
      exact ⟨hin, hx⟩
    refine ⟨some a, n, c, (List.range n).map fun i => if hin : i < n then (hy i hin).choose else ⟨[], 0⟩, rfl, by simp, hl, ?_, ?_⟩
    · intro t ht
      obtain ⟨i, hi⟩ := List.getElem?_of_mem ht
      obtain ⟨hin, rfl⟩ := hget i t hi
      exact (hy i hin).choose_spec.2
    · intro i t hx
      obtain ⟨hin, rfl⟩ := hget i t hx
      have hcell := (hy i hin).choose_spec.1
      obtain ⟨hs0, hbl⟩ := cell_plain (hy 0 (by omega)).choose_spec.1.1
      generalize (hy i hin).choose = t at hcell ⊢
      obtain ⟨b, o, s⟩ := a
      have hz : ((⟨b, o, s⟩ : Addr).add (0 * 2)).add 0 = ⟨b, o, s⟩ := by simp [Addr.add]
      rw [hz] at hs0 hbl
      have hs0 : s = none := hs0
      subst hs0
      rw [Lib.add_plain, Lib.add_plain, Lib.add_plain] at hcell
      exact ⟨b, o, rfl, hbl, hcell.1, hcell.2⟩
end
end Go.Proofs.YtmjglcgdcclinaaGreatDoor
