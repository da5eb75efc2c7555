/- trancheref10: Great. -/
import Derived.Test.YtmjglcgdcclinaaGreatDoorIh
namespace Go.Proofs.YtmjglcgdcclinaaGreatDoor
open Go.RowKit Num
/-- the cells of an instrument from a place on -/
structure ICells (w : World) (b o : Nat) (x : Ins) : Prop where
  c0 : w.cell? ⟨b, o, none⟩ = some (Value.string ⟨List.toArray x.id⟩)
  c1 : w.cell? ⟨b, o + 1, none⟩ = some (Value.int .i64 x.kind)
  c2 : w.cell? ⟨b, o + 2, none⟩ = some (Value.string ⟨List.toArray x.cur⟩)
  c3 : w.cell? ⟨b, o + 3, none⟩ = some (Value.int .i64 x.places)
  c4 : w.cell? ⟨b, o + 4, none⟩ = some (Value.int .i64 x.issued)
  c5 : w.cell? ⟨b, o + 5, none⟩ = some (Value.int .i64 x.matures)
  c6 : w.cell? ⟨b, o + 6, none⟩ = some (Value.string ⟨List.toArray x.fn⟩)
  c7 : w.cell? ⟨b, o + 7, none⟩ = some (Value.string ⟨List.toArray x.fd⟩)
  c8 : w.cell? ⟨b, o + 8, none⟩ = some (Value.string ⟨List.toArray x.cn⟩)
  c9 : w.cell? ⟨b, o + 9, none⟩ = some (Value.string ⟨List.toArray x.cd⟩)
  c10 : w.cell? ⟨b, o + 10, none⟩ = some (Value.int .i64 x.months)
  c11 : w.cell? ⟨b, o + 11, none⟩ = some (Value.int .i64 x.count)
  c12 : w.cell? ⟨b, o + 12, none⟩ = some (Value.string ⟨List.toArray x.other⟩)
  c13 : w.cell? ⟨b, o + 13, none⟩ = some (Value.string ⟨List.toArray x.sn⟩)
  c14 : w.cell? ⟨b, o + 14, none⟩ = some (Value.string ⟨List.toArray x.sd⟩)
theorem ICells.below {w w' : World} {b o : Nat} {x : Ins} (h : ICells w b o x) (ha : b < w.heap.size) (hb : Below w.heap.size w w') : ICells w' b o x :=
  ⟨(hb.cell (p := ⟨b, o, none⟩) ha).trans h.c0, (hb.cell (p := ⟨b, o + 1, none⟩) ha).trans h.c1, (hb.cell (p := ⟨b, o + 2, none⟩) ha).trans h.c2, (hb.cell (p := ⟨b, o + 3, none⟩) ha).trans h.c3, (hb.cell (p := ⟨b, o + 4, none⟩) ha).trans h.c4, (hb.cell (p := ⟨b, o + 5, none⟩) ha).trans h.c5, (hb.cell (p := ⟨b, o + 6, none⟩) ha).trans h.c6, (hb.cell (p := ⟨b, o + 7, none⟩) ha).trans h.c7, (hb.cell (p := ⟨b, o + 8, none⟩) ha).trans h.c8, (hb.cell (p := ⟨b, o + 9, none⟩) ha).trans h.c9, (hb.cell (p := ⟨b, o + 10, none⟩) ha).trans h.c10, (hb.cell (p := ⟨b, o + 11, none⟩) ha).trans h.c11, (hb.cell (p := ⟨b, o + 12, none⟩) ha).trans h.c12, (hb.cell (p := ⟨b, o + 13, none⟩) ha).trans h.c13, (hb.cell (p := ⟨b, o + 14, none⟩) ha).trans h.c14⟩
theorem IBox.cells {w : World} {b : Nat} {x : Ins} (h : IBox w b x) : ICells w b 0 x :=
  ⟨h.c0, by simpa using h.c1, by simpa using h.c2, by simpa using h.c3, by simpa using h.c4, by simpa using h.c5, by simpa using h.c6, by simpa using h.c7, by simpa using h.c8, by simpa using h.c9, by simpa using h.c10, by simpa using h.c11, by simpa using h.c12, by simpa using h.c13, by simpa using h.c14⟩
/-- a slice of instruments -/
def InsAt (w : World) (A : Option Addr) (xs : List Ins) : Prop := ∀ (i : Nat) (x : Ins), xs[i]? = some x → ∃ b o, A = some ⟨b, o, none⟩ ∧ b < w.heap.size ∧ ICells w b (o + i * 15) x
theorem InsAt.below {w w' : World} {A : Option Addr} {xs : List Ins} (h : InsAt w A xs) (hb : Below w.heap.size w w') : InsAt w' A xs := fun i x hx => by
  obtain ⟨b, o, rfl, h1, h2⟩ := h i x hx
  exact ⟨b, o, rfl, Nat.lt_of_lt_of_le h1 hb.size, h2.below h1 hb⟩
def SmallN (n : Nat) : Prop := n ≤ 8 ∨ (64 < n ∧ n ≤ 67)
set_option maxHeartbeats 4000000 in
set_option maxRecDepth 100000 in
theorem jGreat (A : Option Addr) (xs : List Ins) (c : Nat) (w : World) (hn : xs.length ≤ 9223372036854775807) (h : InsAt w A xs) :
    Calls Tryz.prog 15 #[.slice A xs.length c] w fun e w' => ((e = .returned (.bool true)) ∨ (e = .returned (.bool false) ∧ (∀ x ∈ xs, x.Small) ∧ SmallN xs.length)) ∧ Below w.heap.size w w' := by
  have HI := Lib.hid h
  clear h
  go_enter Tryz.func15, Tryz.ntmps15
  go_wp2_with fail
  go_loopw [3] (fun iv wr => ∃ k : Nat, k ≤ xs.length ∧ iv = .int .i64 (k : Int) ∧ Hid (∀ (j : Nat) (x : Ins), j < k → xs[j]? = some x → x.Small) ∧ Below w.heap.size w wr) (fun iv _ => xs.length - (intOf iv).toNat)
  case atStart => exact ⟨0, Nat.zero_le _, rfl, fun j x hj => by omega, Below.refl _ _⟩
  case round =>
    obtain ⟨k, hk, rfl, HK, hb⟩ := hrel
    by_cases hlt : k < xs.length
    · obtain ⟨x, hx⟩ : ∃ x, xs[k]? = some x := ⟨_, List.getElem?_eq_getElem hlt⟩
      obtain ⟨b, o, rfl, hbs, hc⟩ := (HI.out.below hb) k x hx
      have HX := Lib.hid hx
      clear hx
      have p0 := hc.c0
      have p1 := hc.c1
      have p2 := hc.c2
      have p3 := hc.c3
      have p4 := hc.c4
      have p5 := hc.c5
      have p6 := hc.c6
      have p7 := hc.c7
      have p8 := hc.c8
      have p9 := hc.c9
      have p10 := hc.c10
      have p11 := hc.c11
      have p12 := hc.c12
      have p13 := hc.c13
      have p14 := hc.c14
      have x4 := IBox.new wr x 34
      by_cases g1 : 60 < x.id.length
      · have e1 : decide (60 < x.id.length) = true := decide_eq_true g1
        go_wp2
        go_ret
        exact ⟨.inl rfl, bto hb (below_alloc _ _)⟩
      have e1 : decide (60 < x.id.length) = false := decide_eq_false g1
      by_cases g2 : 60 < x.cur.length
      · have e2 : decide (60 < x.cur.length) = true := decide_eq_true g2
        go_wp2
        go_ret
        exact ⟨.inl rfl, bto hb (below_alloc _ _)⟩
      have e2 : decide (60 < x.cur.length) = false := decide_eq_false g2
      by_cases g3 : 60 < x.other.length
      · have e3 : decide (60 < x.other.length) = true := decide_eq_true g3
        go_wp2
        go_ret
        exact ⟨.inl rfl, bto hb (below_alloc _ _)⟩
      have e3 : decide (60 < x.other.length) = false := decide_eq_false g3
      go_wp2_with fail
      ((with_reducible refine (great_any _ 3 3 (fun i => [x.fn, x.fd, x.cn, x.cd, x.sn, x.sd].getD i []) _ (by decide) ?_).mono ?_))
      · intro i hi
        have hi : i = 0 ∨ i = 1 ∨ i = 2 ∨ i = 3 ∨ i = 4 ∨ i = 5 := by omega
        rcases hi with rfl | rfl | rfl | rfl | rfl | rfl <;> simp [go_sem]
      rintro e w1 ⟨hres, hb1⟩
      have hbn := bto hb (bto (bto (below_alloc _ _) (below_alloc _ _)) hb1)
      clear hb1 hc p0 p1 p2 p3 p4 p5 p6 p7 p8 p9 p10 p11 p12 p13 p14 x4 e1 e2 e3
      rcases hres with ⟨rfl, -⟩ | ⟨rfl, hlen⟩
      · go_wp2
        go_ret
        exact ⟨.inl rfl, hbn⟩
      · have HK2 : Hid (∀ (j : Nat) (y : Ins), j < k + 1 → xs[j]? = some y → y.Small) := by
          intro j y hj hy
          rcases Nat.lt_or_ge j k with h1 | h1
          · exact HK.out j y h1 hy
          · obtain rfl : j = k := by omega
            rw [HX.out] at hy; injection hy with hy; subst hy
            exact ⟨by omega, by omega, by omega, hlen 0 (by decide), hlen 1 (by decide), hlen 2 (by decide), hlen 3 (by decide), hlen 4 (by decide), hlen 5 (by decide)⟩
        clear hlen HK g1 g2 g3
        go_wp2
        go_roundw
        case rel => exact ⟨k + 1, by omega, by go_num, HK2, hbn⟩
        case measure => simp [intOf]; omega
    · have HA : Hid (∀ x ∈ xs, x.Small) := by
        intro x hx
        obtain ⟨j, hj, rfl⟩ := List.getElem_of_mem hx
        exact HK.out j _ (by omega) (List.getElem?_eq_getElem hj)
      clear HK
      by_cases g1 : 8 < xs.length
      · have e1 : decide (8 < xs.length) = true := decide_eq_true g1
        by_cases g2 : xs.length ≤ 64
        · have e2 : decide (xs.length ≤ 64) = true := decide_eq_true g2
          go_wp2
          go_ret
          exact ⟨.inl rfl, hb⟩
        · have e2 : decide (xs.length ≤ 64) = false := decide_eq_false g2
          by_cases g3 : 67 < xs.length
          · have e3 : decide (67 < xs.length) = true := decide_eq_true g3
            go_wp2
            go_ret
            exact ⟨.inl (retb (by rw [decide_eq_true (p := 67 < (xs.length : Int)) (by omega), Bool.or_true])), hb⟩
          · have e3 : decide (67 < xs.length) = false := decide_eq_false g3
            go_wp2
            go_ret
            exact ⟨.inr ⟨retb (by rw [decide_eq_false (p := (xs.length : Int) ≤ 64) (by omega), decide_eq_false (p := 67 < (xs.length : Int)) (by omega)]; rfl), HA.out, .inr ⟨by omega, by omega⟩⟩, hb⟩
      · have e1 : decide (8 < xs.length) = false := decide_eq_false g1
        have e3 : decide (67 < xs.length) = false := decide_eq_false (by omega)
        have g3 : ¬ 67 < xs.length := by omega
        go_wp2
        go_ret
        exact ⟨.inr ⟨retb (decide_eq_false (by omega)), HA.out, .inl (by omega)⟩, hb⟩
end Go.Proofs.YtmjglcgdcclinaaGreatDoor
