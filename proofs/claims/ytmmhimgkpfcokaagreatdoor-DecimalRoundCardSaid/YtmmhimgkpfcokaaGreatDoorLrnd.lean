/- DecimalRound. -/
import Derived.Test.YtmmhimgkpfcokaaGreatDoorEb
namespace Go.Proofs.YtmmhimgkpfcokaaGreatDoor
open Go.RowKit Num
set_option maxHeartbeats 4000000 in
set_option maxRecDepth 100000 in
theorem rnd_law (l l' : List UInt8) (n m : Int) (_h1 : -9223372036854775808 ≤ n) (_h2 : n ≤ 9223372036854775807) (_h3 : -9223372036854775808 ≤ m) (_h4 : m ≤ 9223372036854775807) (w : World) (hG : Glob w) :
    Calls Tryz.prog 9 #[(Value.agg #[Value.string ⟨List.toArray l⟩, Value.string ⟨List.toArray l'⟩]), .int .i64 n, .int .i64 m] w fun e w' => e = .returned (.bool true) ∧ Below w.heap.size w w' := by
  have CW := Lib.hid wAwake3
  have CL := Lib.hid (eLongFrac l l')
  have x3 := FBox.new w (.string ⟨l.toArray⟩) (.string ⟨l'.toArray⟩) 32
  have hb := below_alloc w (.cells #[.string ⟨l.toArray⟩, .string ⟨l'.toArray⟩] 32)
  go_enter Tryz.func9, Tryz.ntmps9
  have qx3_0 := x3.c0
  have qx3_1 := x3.c1
  go_wp2_with fail
  ((with_reducible refine (CL.out.of hG hb).mono ?_); rintro e w2 ⟨rfl, hb2⟩)
  clear qx3_0 qx3_1
  replace x3 := x3.below hb2
  replace hb := bto hb hb2
  clear hb2
  cases hlong : longB l l'
  rotate_left
  · clear x3
    go_wp2_with fail
    ((with_reducible refine (CW.out.of hG hb).mono ?_); rintro e w3 ⟨rfl, hb3⟩)
    replace hb := bto hb hb3
    clear hb3
    go_wp2
    go_ret
    exact ⟨rfl, hb⟩
  obtain ⟨h0, h1⟩ := longB_f hlong
  clear hlong
  have iF := isq_raw h0 h1 (by decide)
  have bF : Bd 60 (fv l l') := bd_fv h0 h1 (by decide)
  have bF2 : Bd 100 (fv l l') := bd_fv (by omega) (by omega) (by decide)
  by_cases hm : m < 1 ∨ 6 < m
  · have C1 := Lib.hid (rRoundBad iF bF (by decide) hm)
    have C2 := Lib.hid (eRoundBad (l := l) (l' := l') hm)
    by_cases hn : n < 0 ∨ 12 < n
    · have C3 := Lib.hid (dScaleOut (l := l) (l' := l') hn m)
      have C4 := Lib.hid (eScaleOut (l := l) (l' := l') hn m)
      have C5 := Lib.hid (dFormatOut (l := l) (l' := l') hn m)
      have C6 := Lib.hid (eFormatOut (l := l) (l' := l') hn m)
      clear iF bF bF2 h0 h1 hm hn
      have qx3_0 := x3.c0
      have qx3_1 := x3.c1
      go_wp2_with fail
      ((with_reducible refine (C1.out.of hG hb).mono ?_); rintro e w3 ⟨rfl, hb3⟩)
      clear qx3_0 qx3_1
      replace x3 := x3.below hb3
      replace hb := bto hb hb3
      clear hb3
      have qx3_0 := x3.c0
      have qx3_1 := x3.c1
      go_wp2_with fail
      ((with_reducible refine (C2.out.of hG hb).mono ?_); rintro e w4 ⟨rfl, hb4⟩)
      clear qx3_0 qx3_1
      replace x3 := x3.below hb4
      replace hb := bto hb hb4
      clear hb4
      have qx3_0 := x3.c0
      have qx3_1 := x3.c1
      go_wp2_with fail
      ((with_reducible refine (C3.out.of hG hb).mono ?_); rintro e w5 ⟨rfl, hb5⟩)
      clear qx3_0 qx3_1
      replace x3 := x3.below hb5
      replace hb := bto hb hb5
      clear hb5
      have qx3_0 := x3.c0
      have qx3_1 := x3.c1
      go_wp2_with fail
      ((with_reducible refine (C4.out.of hG hb).mono ?_); rintro e w6 ⟨rfl, hb6⟩)
      clear qx3_0 qx3_1
      replace x3 := x3.below hb6
      replace hb := bto hb hb6
      clear hb6
      have qx3_0 := x3.c0
      have qx3_1 := x3.c1
      go_wp2_with fail
      ((with_reducible refine (C5.out.of hG hb).mono ?_); rintro e w7 ⟨rfl, hb7⟩)
      clear qx3_0 qx3_1
      replace x3 := x3.below hb7
      replace hb := bto hb hb7
      clear hb7
      have qx3_0 := x3.c0
      have qx3_1 := x3.c1
      go_wp2_with fail
      ((with_reducible refine (C6.out.of hG hb).mono ?_); rintro e w8 ⟨rfl, hb8⟩)
      clear qx3_0 qx3_1
      replace x3 := x3.below hb8
      replace hb := bto hb hb8
      clear hb8
      clear x3
      go_wp2_with fail
      ((with_reducible refine (CW.out.of hG hb).mono ?_); rintro e w9 ⟨rfl, hb9⟩)
      replace hb := bto hb hb9
      clear hb9
      go_wp2
      go_ret
      exact ⟨rfl, hb⟩
    · obtain ⟨p, rfl⟩ : ∃ p : Nat, n = p := ⟨n.toNat, by omega⟩
      have hp : p ≤ 12 := by omega
      have C3 := Lib.hid (dScaleBad iF bF (by decide) hp hm)
      have C4 := Lib.hid (eScaleBad (l := l) (l' := l') hp hm)
      have C5 := Lib.hid (dFormatBad iF bF (by decide) hp hm)
      have C6 := Lib.hid (eFormatBad (l := l) (l' := l') hp hm)
      clear iF bF bF2 h0 h1 hm hn
      have qx3_0 := x3.c0
      have qx3_1 := x3.c1
      go_wp2_with fail
      ((with_reducible refine (C1.out.of hG hb).mono ?_); rintro e w3 ⟨rfl, hb3⟩)
      clear qx3_0 qx3_1
      replace x3 := x3.below hb3
      replace hb := bto hb hb3
      clear hb3
      have qx3_0 := x3.c0
      have qx3_1 := x3.c1
      go_wp2_with fail
      ((with_reducible refine (C2.out.of hG hb).mono ?_); rintro e w4 ⟨rfl, hb4⟩)
      clear qx3_0 qx3_1
      replace x3 := x3.below hb4
      replace hb := bto hb hb4
      clear hb4
      have qx3_0 := x3.c0
      have qx3_1 := x3.c1
      go_wp2_with fail
      ((with_reducible refine (C3.out.of hG hb).mono ?_); rintro e w5 ⟨rfl, hb5⟩)
      clear qx3_0 qx3_1
      replace x3 := x3.below hb5
      replace hb := bto hb hb5
      clear hb5
      have qx3_0 := x3.c0
      have qx3_1 := x3.c1
      go_wp2_with fail
      ((with_reducible refine (C4.out.of hG hb).mono ?_); rintro e w6 ⟨rfl, hb6⟩)
      clear qx3_0 qx3_1
      replace x3 := x3.below hb6
      replace hb := bto hb hb6
      clear hb6
      have qx3_0 := x3.c0
      have qx3_1 := x3.c1
      go_wp2_with fail
      ((with_reducible refine (C5.out.of hG hb).mono ?_); rintro e w7 ⟨rfl, hb7⟩)
      clear qx3_0 qx3_1
      replace x3 := x3.below hb7
      replace hb := bto hb hb7
      clear hb7
      have qx3_0 := x3.c0
      have qx3_1 := x3.c1
      go_wp2_with fail
      ((with_reducible refine (C6.out.of hG hb).mono ?_); rintro e w8 ⟨rfl, hb8⟩)
      clear qx3_0 qx3_1
      replace x3 := x3.below hb8
      replace hb := bto hb hb8
      clear hb8
      clear x3
      go_wp2_with fail
      ((with_reducible refine (CW.out.of hG hb).mono ?_); rintro e w9 ⟨rfl, hb9⟩)
      replace hb := bto hb hb9
      clear hb9
      go_wp2
      go_ret
      exact ⟨rfl, hb⟩
  have m1 : 1 ≤ m := by omega
  have m6 : m ≤ 6 := by omega
  have C1 := Lib.hid (rRound iF bF (by decide) m1 m6 rfl)
  have C2 := Lib.hid (eRound (l := l) (l' := l') (by omega) (by omega) rfl bF (by decide) (by decide) m1 m6 rfl)
  by_cases hn : n < 0 ∨ 12 < n
  · have C3 := Lib.hid (dScaleOut (l := l) (l' := l') hn m)
    have C4 := Lib.hid (eScaleOut (l := l) (l' := l') hn m)
    have C5 := Lib.hid (dFormatOut (l := l) (l' := l') hn m)
    have C6 := Lib.hid (eFormatOut (l := l) (l' := l') hn m)
    clear iF bF bF2 h0 h1 hm hn
    generalize canon (rnd (fv l l') m) = A at *
    have qx3_0 := x3.c0
    have qx3_1 := x3.c1
    go_wp2_with fail
    ((with_reducible refine (C1.out.of hG hb).mono ?_); rintro e w3 ⟨rfl, hb3⟩)
    clear qx3_0 qx3_1
    replace x3 := x3.below hb3
    replace hb := bto hb hb3
    clear hb3
    have qx3_0 := x3.c0
    have qx3_1 := x3.c1
    go_wp2_with fail
    ((with_reducible refine (C2.out.of hG hb).mono ?_); rintro e w4 ⟨rfl, hb4⟩)
    clear qx3_0 qx3_1
    replace x3 := x3.below hb4
    replace hb := bto hb hb4
    clear hb4
    have qx3_0 := x3.c0
    have qx3_1 := x3.c1
    go_wp2_with fail
    ((with_reducible refine (C3.out.of hG hb).mono ?_); rintro e w5 ⟨rfl, hb5⟩)
    clear qx3_0 qx3_1
    replace x3 := x3.below hb5
    replace hb := bto hb hb5
    clear hb5
    have qx3_0 := x3.c0
    have qx3_1 := x3.c1
    go_wp2_with fail
    ((with_reducible refine (C4.out.of hG hb).mono ?_); rintro e w6 ⟨rfl, hb6⟩)
    clear qx3_0 qx3_1
    replace x3 := x3.below hb6
    replace hb := bto hb hb6
    clear hb6
    have qx3_0 := x3.c0
    have qx3_1 := x3.c1
    go_wp2_with fail
    ((with_reducible refine (C5.out.of hG hb).mono ?_); rintro e w7 ⟨rfl, hb7⟩)
    clear qx3_0 qx3_1
    replace x3 := x3.below hb7
    replace hb := bto hb hb7
    clear hb7
    have qx3_0 := x3.c0
    have qx3_1 := x3.c1
    go_wp2_with fail
    ((with_reducible refine (C6.out.of hG hb).mono ?_); rintro e w8 ⟨rfl, hb8⟩)
    clear qx3_0 qx3_1
    replace x3 := x3.below hb8
    replace hb := bto hb hb8
    clear hb8
    clear x3
    go_wp2_with fail
    ((with_reducible refine (CW.out.of hG hb).mono ?_); rintro e w9 ⟨rfl, hb9⟩)
    replace hb := bto hb hb9
    clear hb9
    go_wp2
    go_ret
    exact ⟨rfl, hb⟩
  · obtain ⟨p, rfl⟩ : ∃ p : Nat, n = p := ⟨n.toNat, by omega⟩
    have hp : p ≤ 12 := by omega
    have C3 := Lib.hid (dScale iF bF (by decide) hp m1 m6 rfl)
    have C4 := Lib.hid (eScale (l := l) (l' := l') (by omega) (by omega) rfl bF2 hp m1 m6 rfl)
    have C5 := Lib.hid (dFormat iF bF (by decide) hp m1 m6 rfl)
    have C6 := Lib.hid (eFormat (l := l) (l' := l') (by omega) (by omega) rfl bF2 hp m1 m6 rfl)
    clear iF bF bF2 h0 h1 hm hn
    generalize canon (rnd (fv l l') m) = A at *
    generalize textD (rnd (fv l l' * tenQ p) m) p = T at *
    generalize canon (rnd (fv l l' * tenQ p) m) = B at *
    have qx3_0 := x3.c0
    have qx3_1 := x3.c1
    go_wp2_with fail
    ((with_reducible refine (C1.out.of hG hb).mono ?_); rintro e w3 ⟨rfl, hb3⟩)
    clear qx3_0 qx3_1
    replace x3 := x3.below hb3
    replace hb := bto hb hb3
    clear hb3
    have qx3_0 := x3.c0
    have qx3_1 := x3.c1
    go_wp2_with fail
    ((with_reducible refine (C2.out.of hG hb).mono ?_); rintro e w4 ⟨rfl, hb4⟩)
    clear qx3_0 qx3_1
    replace x3 := x3.below hb4
    replace hb := bto hb hb4
    clear hb4
    have qx3_0 := x3.c0
    have qx3_1 := x3.c1
    go_wp2_with fail
    ((with_reducible refine (C3.out.of hG hb).mono ?_); rintro e w5 ⟨rfl, hb5⟩)
    clear qx3_0 qx3_1
    replace x3 := x3.below hb5
    replace hb := bto hb hb5
    clear hb5
    have qx3_0 := x3.c0
    have qx3_1 := x3.c1
    go_wp2_with fail
    ((with_reducible refine (C4.out.of hG hb).mono ?_); rintro e w6 ⟨rfl, hb6⟩)
    clear qx3_0 qx3_1
    replace x3 := x3.below hb6
    replace hb := bto hb hb6
    clear hb6
    have qx3_0 := x3.c0
    have qx3_1 := x3.c1
    go_wp2_with fail
    ((with_reducible refine (C5.out.of hG hb).mono ?_); rintro e w7 ⟨rfl, hb7⟩)
    clear qx3_0 qx3_1
    replace x3 := x3.below hb7
    replace hb := bto hb hb7
    clear hb7
    have qx3_0 := x3.c0
    have qx3_1 := x3.c1
    go_wp2_with fail
    ((with_reducible refine (C6.out.of hG hb).mono ?_); rintro e w8 ⟨rfl, hb8⟩)
    clear qx3_0 qx3_1
    replace x3 := x3.below hb8
    replace hb := bto hb hb8
    clear hb8
    clear x3
    go_wp2_with fail
    ((with_reducible refine (CW.out.of hG hb).mono ?_); rintro e w9 ⟨rfl, hb9⟩)
    replace hb := bto hb hb9
    clear hb9
    go_wp2
    go_ret
    exact ⟨rfl, hb⟩
end Go.Proofs.YtmmhimgkpfcokaaGreatDoor
