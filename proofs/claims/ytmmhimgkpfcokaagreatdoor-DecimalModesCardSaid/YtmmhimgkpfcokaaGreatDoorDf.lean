/- tranchelaw03: ratio, awake. -/
import Derived.Test.YtmmhimgkpfcokaaGreatDoorDe
import Derived.Test.YtmmhimgkpfcokaaGreatDoorBs
namespace Go.Proofs.YtmmhimgkpfcokaaGreatDoor
open Go.RowKit Num
set_option maxHeartbeats 1000000 in
set_option maxRecDepth 100000 in
theorem wRatio {n d : Int} (hn : n.natAbs ≤ 1000000000000) (hd : d.natAbs ≤ 1000000000000) (h0 : d ≠ 0) {q : Rat} (e : Rat.divInt n d = q) : Ret 52 #[.int .i64 n, .int .i64 d] (Value.agg #[Value.string ⟨List.toArray (fN q)⟩, Value.string ⟨List.toArray (fD q)⟩]) := fun w hG => by
  have c1 := riOf n (by omega) (by omega)
  have c2 := riOf d (by omega) (by omega)
  have l1 : (canon n).length ≤ 20 := canon_len_of (k := 15) (by omega) (by decide)
  have l2 : (canon d).length ≤ 20 := canon_len_of (k := 15) (by omega) (by decide)
  have c3 := rNew (l := canon n) (l' := canon d) (by omega) (by omega) (by rw [val_canon]; exact h0) (show Rat.divInt (val (canon n)) (val (canon d)) = q by rw [val_canon, val_canon]; exact e)
  have C1 := Lib.hid c1
  have C2 := Lib.hid c2
  have C3 := Lib.hid c3
  clear c1 c2 c3 l1 l2 hn hd h0 e
  generalize canon n = A at *
  generalize canon d = B at *
  generalize fN q = N at *
  generalize fD q = D at *
  have hb := below_alloc w (.cells #[.string ⟨#[]⟩, .string ⟨#[]⟩] 32)
  have x2 := FBox.new w (.string ⟨#[]⟩) (.string ⟨#[]⟩) 32
  go_enter Tryz.func52, Tryz.ntmps52
  go_wp2_with fail
  ((with_reducible refine (C1.out.of hG hb).mono ?_); rintro e w1 ⟨rfl, hb1⟩)
  replace hb := bto hb hb1
  replace x2 := x2.below hb1
  clear hb1
  go_wp2_with fail
  ((with_reducible refine (C2.out.of hG hb).mono ?_); rintro e w2 ⟨rfl, hb2⟩)
  replace hb := bto hb hb2
  replace x2 := x2.below hb2
  clear hb2
  go_wp2_with fail
  ((with_reducible refine (C3.out.of hG hb).mono ?_); rintro e w3 ⟨rfl, hb3⟩)
  replace hb := bto hb hb3
  replace x2 := x2.below hb3
  clear hb3
  have x5 := FBox.new w3 (.string ⟨N.toArray⟩) (.string ⟨D.toArray⟩) 32
  replace x2 := x2.below (below_alloc w3 (.cells #[.string ⟨N.toArray⟩, .string ⟨D.toArray⟩] 32))
  replace hb := bto hb (below_alloc w3 (.cells #[.string ⟨N.toArray⟩, .string ⟨D.toArray⟩] 32))
  have q0 := x2.c0
  have q1 := x2.c1
  have q2 := x2.f0
  have q3 := x2.f1
  have g0 := x5.c0
  have g1 := x5.c1
  go_wp2
  have hy := x2.set (.string ⟨N.toArray⟩) (.string ⟨D.toArray⟩)
  have d0 := hy.c0
  have d1 := hy.c1
  refine bodyPost_ret (v := .agg #[.string ⟨N.toArray⟩, .string ⟨D.toArray⟩]) (by simp [results, Tryz.results52, go_sem, d0, d1]) rfl ?_
  exact ⟨rfl, below_set2 hb (Nat.le_refl _) _ _⟩
/-- what rounding -5/2 leads to -/
def wantS (m : Int) : List UInt8 := if m = 1 then [45, 50] else if m = 2 then [45, 51] else if m = 3 then [45, 50] else if m = 4 then [45, 51] else if m = 5 then [45, 51] else [45, 50]
theorem wantS_rnd (m : Int) (h1 : 1 ≤ m) (h6 : m ≤ 6) : canon (rnd (Rat.divInt (-5) 2) m) = wantS m := by
  have : m = 1 ∨ m = 2 ∨ m = 3 ∨ m = 4 ∨ m = 5 ∨ m = 6 := by omega
  rcases this with rfl | rfl | rfl | rfl | rfl | rfl <;> decide +kernel
set_option maxHeartbeats 4000000 in
set_option maxRecDepth 100000 in
theorem wAwake3 : Ret 33 #[] (.bool true) := fun w hG => by
  have hb := below_alloc w (.cells #[.string ⟨#[]⟩, .string ⟨#[45, 50]⟩, .string ⟨#[45, 51]⟩, .string ⟨#[45, 50]⟩, .string ⟨#[45, 51]⟩, .string ⟨#[45, 51]⟩, .string ⟨#[45, 50]⟩] 73)
  have x1 := Blk.new w #[.string ⟨#[]⟩, .string ⟨#[45, 50]⟩, .string ⟨#[45, 51]⟩, .string ⟨#[45, 50]⟩, .string ⟨#[45, 51]⟩, .string ⟨#[45, 51]⟩, .string ⟨#[45, 50]⟩] 73
  have bq : Bd 3 (Rat.divInt (-5) 2) := ⟨by decide +kernel, by decide +kernel⟩
  have b8 : Bd 3 (Rat.divInt 1 8) := ⟨by decide +kernel, by decide +kernel⟩
  have b3 : Bd 3 (Rat.divInt 1 3) := ⟨by decide +kernel, by decide +kernel⟩
  have R1 := Lib.hid (wRatio (n := -5) (d := 2) (by decide) (by decide) (by decide) rfl)
  have R2 := Lib.hid (fun (m : Int) (h1 : 1 ≤ m) (h6 : m ≤ 6) => rRound (isq_fr bq (by decide)) bq (by decide) h1 h6 rfl)
  have c3 := dText (l := [45, 53]) (by decide) (z := -5) (by decide) (p := 2) (by decide)
  have c4 := dParse (s := [49, 46, 53, 48]) (by decide) (p := 1) (by decide)
  have c5 := dParse (s := [49, 46, 53, 53]) (by decide) (p := 1) (by decide)
  rw [show textD (-5) 2 = [45, 48, 46, 48, 53] by decide +kernel] at c3
  rw [parseV_1 (by decide +kernel) (by decide +kernel), show canon (decQ [49, 46, 53, 48] * tenQ 1).num = [49, 53] by decide +kernel] at c4
  rw [parseV_0 (by decide +kernel) (by decide +kernel)] at c5
  rw [show ((2 : Nat) : Int) = 2 from rfl] at c3
  rw [show ((1 : Nat) : Int) = 1 from rfl] at c4 c5
  have C3 := Lib.hid c3
  have C4 := Lib.hid c4
  have C5 := Lib.hid c5
  have R6 := Lib.hid (wRatio (n := 1) (d := 8) (by decide) (by decide) (by decide) rfl)
  have c7 := dFinite (isq_fr b8 (by decide)) b8 (by decide)
  have R8 := Lib.hid (wRatio (n := 1) (d := 3) (by decide) (by decide) (by decide) rfl)
  have c9 := dFinite (isq_fr b3 (by decide)) b3 (by decide)
  unfold FinV at c7 c9
  rw [show finE (Rat.divInt 1 8).den = (3, true) by decide +kernel] at c7
  rw [show finE (Rat.divInt 1 3).den = (0, false) by decide +kernel] at c9
  rw [show (((3, true) : Nat × Bool).1 : Int) = 3 from rfl] at c7
  rw [show (((0, false) : Nat × Bool).1 : Int) = 0 from rfl] at c9
  have C7 := Lib.hid c7
  have C9 := Lib.hid c9
  clear c3 c4 c5 c7 c9 bq b8 b3
  generalize Rat.divInt 1 8 = q8 at *
  generalize Rat.divInt 1 3 = q3 at *
  go_enter Tryz.func33, Tryz.ntmps33
  go_wp2_with fail
  go_loopw [2] (fun iv wr => ∃ m : Int, 1 ≤ m ∧ m ≤ 7 ∧ iv = .int .i64 m ∧ Below w.heap.size w wr ∧ Blk wr w.heap.size #[.string ⟨#[]⟩, .string ⟨#[45, 50]⟩, .string ⟨#[45, 51]⟩, .string ⟨#[45, 50]⟩, .string ⟨#[45, 51]⟩, .string ⟨#[45, 51]⟩, .string ⟨#[45, 50]⟩]) (fun iv _ => (7 - intOf iv).toNat)
  case atStart => exact ⟨1, by decide, by decide, rfl, hb, x1⟩
  case round =>
    obtain ⟨m, h1, h7, rfl, hb, x1⟩ := hrel
    by_cases h6 : m ≤ 6
    · have e6 : decide (m ≤ 6) = true := decide_eq_true h6
      have cm := R2.out m h1 h6
      rw [wantS_rnd m h1 h6] at cm
      have CM := Lib.hid cm
      have hm : m = 1 ∨ m = 2 ∨ m = 3 ∨ m = 4 ∨ m = 5 ∨ m = 6 := by omega
      clear cm
      go_wp2_with fail
      ((with_reducible refine (R1.out.of hG hb).mono ?_); rintro e w1 ⟨rfl, hb1⟩)
      replace hb := bto hb hb1
      replace x1 := x1.below hb1
      clear hb1
      go_wp2_with fail
      ((with_reducible refine (CM.out.of hG hb).mono ?_); rintro e w2 ⟨rfl, hb2⟩)
      replace hb := bto hb hb2
      replace x1 := x1.below hb2
      clear hb2 CM
      have HB := Lib.hid hb
      have HX := Lib.hid x1
      rcases hm with rfl | rfl | rfl | rfl | rfl | rfl
      · have q0 := x1.c 1
        rw [show wantS 1 = [45, 50] by decide]
        clear x1
        go_wp2
        go_roundw
        case rel => exact ⟨2, by decide, by decide, by first | rfl | go_num, HB.out, HX.out⟩
        case measure => first | (simp [intOf]; done) | (simp [intOf]; omega)
      · have q0 := x1.c 2
        rw [show wantS 2 = [45, 51] by decide]
        clear x1
        go_wp2
        go_roundw
        case rel => exact ⟨3, by decide, by decide, by first | rfl | go_num, HB.out, HX.out⟩
        case measure => first | (simp [intOf]; done) | (simp [intOf]; omega)
      · have q0 := x1.c 3
        rw [show wantS 3 = [45, 50] by decide]
        clear x1
        go_wp2
        go_roundw
        case rel => exact ⟨4, by decide, by decide, by first | rfl | go_num, HB.out, HX.out⟩
        case measure => first | (simp [intOf]; done) | (simp [intOf]; omega)
      · have q0 := x1.c 4
        rw [show wantS 4 = [45, 51] by decide]
        clear x1
        go_wp2
        go_roundw
        case rel => exact ⟨5, by decide, by decide, by first | rfl | go_num, HB.out, HX.out⟩
        case measure => first | (simp [intOf]; done) | (simp [intOf]; omega)
      · have q0 := x1.c 5
        rw [show wantS 5 = [45, 51] by decide]
        clear x1
        go_wp2
        go_roundw
        case rel => exact ⟨6, by decide, by decide, by first | rfl | go_num, HB.out, HX.out⟩
        case measure => first | (simp [intOf]; done) | (simp [intOf]; omega)
      · have q0 := x1.c 6
        rw [show wantS 6 = [45, 50] by decide]
        clear x1
        go_wp2
        go_roundw
        case rel => exact ⟨7, by decide, by decide, by first | rfl | go_num, HB.out, HX.out⟩
        case measure => first | (simp [intOf]; done) | (simp [intOf]; omega)
    · have e6 : decide (m ≤ 6) = false := decide_eq_false h6
      clear x1
      go_wp2_with fail
      ((with_reducible refine (C3.out.of hG hb).mono ?_); rintro e w2 ⟨rfl, hb2⟩)
      replace hb := bto hb hb2
      clear hb2
      go_wp2_with fail
      ((with_reducible refine (C4.out.of hG hb).mono ?_); rintro e w3 ⟨rfl, hb3⟩)
      replace hb := bto hb hb3
      clear hb3
      go_wp2_with fail
      ((with_reducible refine (C5.out.of hG hb).mono ?_); rintro e w4 ⟨rfl, hb4⟩)
      replace hb := bto hb hb4
      clear hb4
      go_wp2_with fail
      ((with_reducible refine (R6.out.of hG hb).mono ?_); rintro e w5 ⟨rfl, hb5⟩)
      replace hb := bto hb hb5
      clear hb5
      go_wp2_with fail
      ((with_reducible refine (C7.out.of hG hb).mono ?_); rintro e w6 ⟨rfl, hb6⟩)
      replace hb := bto hb hb6
      clear hb6
      go_wp2_with fail
      ((with_reducible refine (R8.out.of hG hb).mono ?_); rintro e w7 ⟨rfl, hb7⟩)
      replace hb := bto hb hb7
      clear hb7
      go_wp2_with fail
      ((with_reducible refine (C9.out.of hG hb).mono ?_); rintro e w8 ⟨rfl, hb8⟩)
      replace hb := bto hb hb8
      clear hb8
      go_wp2
      go_ret
      exact ⟨rfl, hb⟩
end Go.Proofs.YtmmhimgkpfcokaaGreatDoor
