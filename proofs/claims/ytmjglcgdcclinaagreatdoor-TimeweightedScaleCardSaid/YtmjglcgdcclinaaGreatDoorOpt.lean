/- Slices of points and of fractions as arguments. -/
import Derived.Test.YtmjglcgdcclinaaGreatDoorTc
import Derived.Deep.Slices
import Derived.Deep.Fields
import Derived.OpenShut
import Derived.Lib.SmallJoins
import Derived.ChangeSame
namespace Go.Proofs.YtmjglcgdcclinaaGreatDoor
open Go.ChangeShapes Go.WideShapes Go.ChangeAt Go.RowKit Go.Deep
theorem cell_plain' {w : World} {a : Addr} {v : Value} (h : w.cell? a = some v) : a.spot = none ∧ a.block < w.heap.size := by
  unfold World.cell? at h
  split at h
  · next he =>
    split at h
    · cases h
    · next hs => exact ⟨by simpa using hs, (Array.getElem?_eq_some_iff.1 he).1⟩
  · cases h
theorem czk_int : Tryz.prog.cellsOf 3 = 1 := by kernel_rfl
theorem czk_day : Tryz.prog.cellsOf 29 = 1 := by kernel_rfl
theorem czk_ai : Tryz.prog.cellsOf 30 = 1 := by kernel_rfl
theorem czk_fr : Tryz.prog.cellsOf 32 = 2 := by kernel_rfl
theorem czk_pt : Tryz.prog.cellsOf 50 = 3 := by kernel_rfl
section
variable {H : Type} {enc : TypeId × Value → H} {w : World} {base : Nat} {spare : Nat → Bool} {held : Bool}
theorem field_at' {n : Nat} {fs : Array Field} {cs : List Value} {xs : List (DataW H × List MemPlace)} (hf : ∀ (i : Nat) (f : Field), fs[i]? = some f → DataW.trod enc Tryz.prog w base spare held n f.type ((cs.drop f.offset).take (Tryz.prog.cellsOf f.type)) = xs[i]?)
    (i : Nat) (ty : TypeId) (off : Nat) (f : Field) (h1 : fs[i]? = some f) (h2 : f.type = ty) (h3 : f.offset = off) (k : Nat) (h4 : Tryz.prog.cellsOf ty = k) (h5 : i < xs.length) : DataW.trod enc Tryz.prog w base spare held n ty ((cs.drop off).take k) = some (xs[i]'h5) := by
  have h := hf i f h1
  rw [h2, h3, h4, List.getElem?_eq_getElem h5] at h
  exact h
def ShortQ (ts : List Pnt) : Prop := ∀ t ∈ ts, t.vl.length ≤ 9223372036854775807 ∧ t.fl.length ≤ 9223372036854775807
set_option maxRecDepth 10000 in
theorem pnt_of_trod {fuel : Nat} {cs : List Value} {x : DataW H × List MemPlace} (h : DataW.trod enc Tryz.prog w base spare held fuel 50 cs = some x) : ∃ t : Pnt, cs = [.int .i64 t.day, .string ⟨t.vl.toArray⟩, .string ⟨t.fl.toArray⟩] ∧ t.vl.length ≤ 9223372036854775807 ∧ t.fl.length ≤ 9223372036854775807 := by
  obtain ⟨xs, n, -, -, hlen, hxl, hf⟩ := DataW.trod_struct Tryz.underlying50 h
  rw [czk_pt] at hlen
  have hxl : xs.length = 3 := hxl
  match cs, hlen with
  | [c0, c1, c2], _ =>
    have h0 : DataW.trod enc Tryz.prog w base spare held n 29 [c0] = some (xs[0]'(by omega)) := field_at' hf 0 29 0 _ rfl rfl rfl 1 czk_day (by omega)
    have h1 : DataW.trod enc Tryz.prog w base spare held n 30 [c1] = some (xs[1]'(by omega)) := field_at' hf 1 30 1 _ rfl rfl rfl 1 czk_ai (by omega)
    have h2 : DataW.trod enc Tryz.prog w base spare held n 30 [c2] = some (xs[2]'(by omega)) := field_at' hf 2 30 2 _ rfl rfl rfl 1 czk_ai (by omega)
    obtain ⟨s0, e0, -, -⟩ := DataW.trod_int Tryz.underlying29 h0
    injection e0 with e0
    obtain ⟨s1, e1, -, w1⟩ := DataW.trod_string Tryz.underlying30 h1
    injection e1 with e1
    obtain ⟨s2, e2, -, w2⟩ := DataW.trod_string Tryz.underlying30 h2
    injection e2 with e2
    subst e0 e1 e2
    unfold maxLen at w1
    unfold maxLen at w2
    refine ⟨⟨s0, s1.data.toList, s2.data.toList⟩, rfl, ?_, ?_⟩
    · show s1.data.toList.length ≤ _
      have : s1.size = s1.data.toList.length := by show s1.data.size = _; simp
      omega
    · show s2.data.toList.length ≤ _
      have : s2.size = s2.data.toList.length := by show s2.data.size = _; simp
      omega
set_option maxRecDepth 10000 in
theorem open_pnts {r : Reach} {b0 : Nat} {v : Value} {d : DataW H} {p : List MemPlace} (hv : Value.okWide Tryz.prog w r b0 39 v) (h : DataW.Trod enc Tryz.prog w base spare held 39 v d p) :
    ∃ (A : Option Addr) (n c : Nat) (ts : List Pnt), v = .slice A n c ∧ ts.length = n ∧ n ≤ c ∧ n ≤ 9223372036854775807 ∧ ShortQ ts ∧ PntAt w A ts := by
  obtain ⟨A, n, c, rfl⟩ := okWide_slice Tryz.underlying39 hv
  obtain ⟨fuel, hf⟩ := h
  rcases open_slice Tryz.underlying39 hf with ⟨hcs, -⟩ | ⟨a, len, cap, m, k, D, Pl, hcs, -, hl, hm, hmm, -, hi⟩
  · have hcs : [Value.slice A n c] = [.slice none 0 0] := hcs
    injection hcs with hcs
    injection hcs with h1 h2 h3
    subst h1 h2 h3
    exact ⟨none, 0, 0, [], rfl, rfl, Nat.le_refl _, by omega, fun t ht => by simp at ht, fun i x hx => by simp at hx⟩
  · have hcs : [Value.slice A n c] = [.slice (some a) len cap] := hcs
    injection hcs with hcs
    injection hcs with h1 h2 h3
    subst h1 h2 h3
    have hnm : n ≤ m := by rw [hmm]; split <;> omega
    unfold maxLen at hm
    rw [czk_pt] at hi
    have hy : ∀ i, i < n → ∃ t : Pnt, (w.cell? ((a.add (i * 3)).add 0) = some (.int .i64 t.day) ∧ w.cell? ((a.add (i * 3)).add 1) = some (.string ⟨t.vl.toArray⟩) ∧ w.cell? ((a.add (i * 3)).add 2) = some (.string ⟨t.fl.toArray⟩)) ∧ t.vl.length ≤ 9223372036854775807 ∧ t.fl.length ≤ 9223372036854775807 := fun i hin => by
      obtain ⟨cs', hc, ht⟩ := hi i (by omega)
      obtain ⟨t, hy, hlen⟩ := pnt_of_trod ht
      obtain ⟨_, hcl, hat⟩ := World.cells?_some hc
      exact ⟨t, ⟨by rw [hat 0 (by decide), hy]; rfl, by rw [hat 1 (by decide), hy]; rfl, by rw [hat 2 (by decide), hy]; rfl⟩, hlen⟩
    have hget : ∀ i t, ((List.range n).map fun i => if hin : i < n then (hy i hin).choose else ⟨0, [], []⟩)[i]? = some t → ∃ hin : i < n, (hy i hin).choose = t := fun i t hx => by
      have hin : i < n := by
        have := (List.getElem?_eq_some_iff.1 hx).1
        simpa using this
      rw [List.getElem?_map, List.getElem?_range hin] at hx
      simp only [Option.map_some, dif_pos hin, Option.some.injEq] at hx
      exact ⟨hin, hx⟩
    refine ⟨some a, n, c, (List.range n).map fun i => if hin : i < n then (hy i hin).choose else ⟨0, [], []⟩, rfl, by simp, hl, by omega, ?_, ?_⟩
    · intro t ht
      obtain ⟨i, hi⟩ := List.getElem?_of_mem ht
      obtain ⟨hin, rfl⟩ := hget i t hi
      exact (hy i hin).choose_spec.2
    · intro i t hx
      obtain ⟨hin, rfl⟩ := hget i t hx
      have hcell := (hy i hin).choose_spec.1
      obtain ⟨hs0, hbl⟩ := cell_plain' (hy 0 (by omega)).choose_spec.1.1
      generalize (hy i hin).choose = t at hcell ⊢
      obtain ⟨b, o, s⟩ := a
      have hz : ((⟨b, o, s⟩ : Addr).add (0 * 3)).add 0 = ⟨b, o, s⟩ := by simp [Addr.add]
      rw [hz] at hs0 hbl
      have hs0 : s = none := hs0
      subst hs0
      simp only [Lib.add_plain] at hcell
      exact ⟨b, o, rfl, hbl, hcell⟩
def ShortF (ts : List Fs) : Prop := ∀ t ∈ ts, t.1.length ≤ 9223372036854775807 ∧ t.2.length ≤ 9223372036854775807
set_option maxRecDepth 10000 in
theorem fs_of_trod {fuel : Nat} {cs : List Value} {x : DataW H × List MemPlace} (h : DataW.trod enc Tryz.prog w base spare held fuel 32 cs = some x) : ∃ t : Fs, cs = [.string ⟨t.1.toArray⟩, .string ⟨t.2.toArray⟩] ∧ t.1.length ≤ 9223372036854775807 ∧ t.2.length ≤ 9223372036854775807 := by
  obtain ⟨xs, n, -, -, hlen, hxl, hf⟩ := DataW.trod_struct Tryz.underlying32 h
  rw [czk_fr] at hlen
  have hxl : xs.length = 2 := hxl
  match cs, hlen with
  | [c0, c1], _ =>
    have h1 : DataW.trod enc Tryz.prog w base spare held n 30 [c0] = some (xs[0]'(by omega)) := field_at' hf 0 30 0 _ rfl rfl rfl 1 czk_ai (by omega)
    have h2 : DataW.trod enc Tryz.prog w base spare held n 30 [c1] = some (xs[1]'(by omega)) := field_at' hf 1 30 1 _ rfl rfl rfl 1 czk_ai (by omega)
    obtain ⟨s1, e1, -, w1⟩ := DataW.trod_string Tryz.underlying30 h1
    injection e1 with e1
    obtain ⟨s2, e2, -, w2⟩ := DataW.trod_string Tryz.underlying30 h2
    injection e2 with e2
    subst e1 e2
    unfold maxLen at w1
    unfold maxLen at w2
    refine ⟨(s1.data.toList, s2.data.toList), rfl, ?_, ?_⟩
    · show s1.data.toList.length ≤ _
      have : s1.size = s1.data.toList.length := by show s1.data.size = _; simp
      omega
    · show s2.data.toList.length ≤ _
      have : s2.size = s2.data.toList.length := by show s2.data.size = _; simp
      omega
set_option maxRecDepth 10000 in
theorem open_frs {r : Reach} {b0 : Nat} {v : Value} {d : DataW H} {p : List MemPlace} (hv : Value.okWide Tryz.prog w r b0 41 v) (h : DataW.Trod enc Tryz.prog w base spare held 41 v d p) :
    ∃ (A : Option Addr) (n c : Nat) (ts : List Fs), v = .slice A n c ∧ ts.length = n ∧ n ≤ c ∧ n ≤ 9223372036854775807 ∧ ShortF ts ∧ FsAt w A ts := by
  obtain ⟨A, n, c, rfl⟩ := okWide_slice Tryz.underlying41 hv
  obtain ⟨fuel, hf⟩ := h
  rcases open_slice Tryz.underlying41 hf with ⟨hcs, -⟩ | ⟨a, len, cap, m, k, D, Pl, hcs, -, hl, hm, hmm, -, hi⟩
  · have hcs : [Value.slice A n c] = [.slice none 0 0] := hcs
    injection hcs with hcs
    injection hcs with h1 h2 h3
    subst h1 h2 h3
    exact ⟨none, 0, 0, [], rfl, rfl, Nat.le_refl _, by omega, fun t ht => by simp at ht, fun i x hx => by simp at hx⟩
  · have hcs : [Value.slice A n c] = [.slice (some a) len cap] := hcs
    injection hcs with hcs
    injection hcs with h1 h2 h3
    subst h1 h2 h3
    have hnm : n ≤ m := by rw [hmm]; split <;> omega
    unfold maxLen at hm
    rw [czk_fr] at hi
    have hy : ∀ i, i < n → ∃ t : Fs, (w.cell? ((a.add (i * 2)).add 0) = some (.string ⟨t.1.toArray⟩) ∧ w.cell? ((a.add (i * 2)).add 1) = some (.string ⟨t.2.toArray⟩)) ∧ t.1.length ≤ 9223372036854775807 ∧ t.2.length ≤ 9223372036854775807 := fun i hin => by
      obtain ⟨cs', hc, ht⟩ := hi i (by omega)
      obtain ⟨t, hy, hlen⟩ := fs_of_trod ht
      obtain ⟨_, hcl, hat⟩ := World.cells?_some hc
      exact ⟨t, ⟨by rw [hat 0 (by decide), hy]; rfl, by rw [hat 1 (by decide), hy]; rfl⟩, hlen⟩
    have hget : ∀ i t, ((List.range n).map fun i => if hin : i < n then (hy i hin).choose else ([], []))[i]? = some t → ∃ hin : i < n, (hy i hin).choose = t := fun i t hx => by
      have hin : i < n := by
        have := (List.getElem?_eq_some_iff.1 hx).1
        simpa using this
      rw [List.getElem?_map, List.getElem?_range hin] at hx
      simp only [Option.map_some, dif_pos hin, Option.some.injEq] at hx
      exact ⟨hin, hx⟩
    refine ⟨some a, n, c, (List.range n).map fun i => if hin : i < n then (hy i hin).choose else ([], []), rfl, by simp, hl, by omega, ?_, ?_⟩
    · intro t ht
      obtain ⟨i, hi⟩ := List.getElem?_of_mem ht
      obtain ⟨hin, rfl⟩ := hget i t hi
      exact (hy i hin).choose_spec.2
    · intro i t hx
      obtain ⟨hin, rfl⟩ := hget i t hx
      have hcell := (hy i hin).choose_spec.1
      obtain ⟨hs0, hbl⟩ := cell_plain' (hy 0 (by omega)).choose_spec.1.1
      generalize (hy i hin).choose = t at hcell ⊢
      obtain ⟨b, o, s⟩ := a
      have hz : ((⟨b, o, s⟩ : Addr).add (0 * 2)).add 0 = ⟨b, o, s⟩ := by simp [Addr.add]
      rw [hz] at hs0 hbl
      have hs0 : s = none := hs0
      subst hs0
      simp only [Lib.add_plain] at hcell
      exact ⟨b, o, rfl, hbl, hcell⟩
end
end Go.Proofs.YtmjglcgdcclinaaGreatDoor
