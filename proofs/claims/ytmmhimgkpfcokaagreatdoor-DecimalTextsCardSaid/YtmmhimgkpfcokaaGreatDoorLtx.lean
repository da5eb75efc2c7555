/- DecimalTexts. -/
import Derived.Test.YtmmhimgkpfcokaaGreatDoorEd
namespace Go.Proofs.YtmmhimgkpfcokaaGreatDoor
open Go.RowKit Num
theorem parse_form (s : List UInt8) (p : Nat) : ∃ (A : List UInt8) (c : Int), ParseV s p = .tuple #[.string ⟨A.toArray⟩, .int .i64 c] := by
  unfold ParseV
  split
  · split
    · exact ⟨_, _, rfl⟩
    · exact ⟨[], _, rfl⟩
  · exact ⟨[], _, rfl⟩
theorem frac_form (s : List UInt8) : ∃ (A B : List UInt8) (c : Int), FracV s = .tuple #[.agg #[.string ⟨A.toArray⟩, .string ⟨B.toArray⟩], .int .i64 c] := by
  unfold FracV
  split
  · exact ⟨_, _, _, rfl⟩
  · exact ⟨[], [], _, rfl⟩
set_option maxHeartbeats 4000000 in
set_option maxRecDepth 100000 in
theorem tx_law (l : List UInt8) (n : Int) (s : List UInt8) (_h1 : -9223372036854775808 ≤ n) (_h2 : n ≤ 9223372036854775807) (w : World) (hG : Glob w) :
    Calls Tryz.prog 5 #[.string ⟨l.toArray⟩, .int .i64 n, .string ⟨s.toArray⟩] w fun e w' => e = .returned (.bool true) ∧ Below w.heap.size w w' := by
  have CW := Lib.hid wAwake3
  have CL := Lib.hid (eLong l)
  have CS := Lib.hid (wGreatT s)
  have hb := Below.refl w.heap.size w
  go_enter Tryz.func5, Tryz.ntmps5
  go_wp2_with fail
  ((with_reducible refine (CL.out.of hG hb).mono ?_); rintro e w2 ⟨rfl, hb2⟩)
  replace hb := bto hb hb2
  clear hb2
  by_cases hl : 60 < l.length
  · rw [decide_eq_true hl]
    clear hl
    go_wp2_with fail
    ((with_reducible refine (CW.out.of hG hb).mono ?_); rintro e w3 ⟨rfl, hb3⟩)
    replace hb := bto hb hb3
    clear hb3
    go_wp2
    go_ret
    exact ⟨rfl, hb⟩
  rw [decide_eq_false hl]
  have hl' : l.length ≤ 60 := by omega
  clear hl
  go_wp2_with fail
  ((with_reducible refine (CS.out.of hG hb).mono ?_); rintro e w3 ⟨rfl, hb3⟩)
  replace hb := bto hb hb3
  clear hb3
  cases hgt : greatT s
  rotate_left
  · clear hgt
    go_wp2_with fail
    ((with_reducible refine (CW.out.of hG hb).mono ?_); rintro e w4 ⟨rfl, hb4⟩)
    replace hb := bto hb hb4
    clear hb4
    go_wp2
    go_ret
    exact ⟨rfl, hb⟩
  have hcase : s.length ≤ 60 ∨ (65536 < s.length ∧ s.length ≤ 65636) := by unfold greatT at hgt; simp at hgt; omega
  clear hgt
  by_cases hn : n < 0 ∨ 12 < n
  · have cx : ∃ (X Y : List UInt8) (c : Int), Ret 38 #[.string ⟨s.toArray⟩] (.tuple #[.agg #[.string ⟨X.toArray⟩, .string ⟨Y.toArray⟩], .int .i64 c]) ∧ Ret 39 #[.string ⟨s.toArray⟩] (.tuple #[.agg #[.string ⟨X.toArray⟩, .string ⟨Y.toArray⟩], .int .i64 c]) := by
      rcases hcase with h | ⟨h, h'⟩
      · obtain ⟨X, Y, c, hX⟩ := frac_form s
        have a1 := dFrac (s := s) (by omega)
        have a2 := eFrac (s := s) (by omega)
        rw [hX] at a1 a2
        exact ⟨X, Y, c, a1, a2⟩
      · exact ⟨[], [], 4, dFracLong h (by omega), eFracLong h (by omega)⟩
    obtain ⟨X, Y, cf, c5, c6⟩ := cx
    have C5 := Lib.hid c5
    have C6 := Lib.hid c6
    clear c5 c6
    have C1 := Lib.hid (dTextOut (l := l) hn)
    have C2 := Lib.hid (eTextOut (l := l) hn)
    have C3 := Lib.hid (dParseOut (s := s) hn)
    have C4 := Lib.hid (eParseOut (s := s) hn)
    clear hn hcase hl'
    go_wp2_with fail
    ((with_reducible refine (C1.out.of hG hb).mono ?_); rintro e w4 ⟨rfl, hb4⟩)
    replace hb := bto hb hb4
    clear hb4
    go_wp2_with fail
    ((with_reducible refine (C2.out.of hG hb).mono ?_); rintro e w5 ⟨rfl, hb5⟩)
    replace hb := bto hb hb5
    clear hb5
    go_wp2_with fail
    ((with_reducible refine (C3.out.of hG hb).mono ?_); rintro e w6 ⟨rfl, hb6⟩)
    replace hb := bto hb hb6
    clear hb6
    go_wp2_with fail
    ((with_reducible refine (C4.out.of hG hb).mono ?_); rintro e w7 ⟨rfl, hb7⟩)
    replace hb := bto hb hb7
    clear hb7
    go_wp2_with fail
    ((with_reducible refine (C5.out.of hG hb).mono ?_); rintro e w8 ⟨rfl, hb8⟩)
    replace hb := bto hb hb8
    clear hb8
    have x15 := FBox.new w8 (.string ⟨X.toArray⟩) (.string ⟨Y.toArray⟩) 32
    replace hb := bto hb (below_alloc w8 (.cells #[.string ⟨X.toArray⟩, .string ⟨Y.toArray⟩] 32))
    go_wp2_with fail
    ((with_reducible refine (C6.out.of hG hb).mono ?_); rintro e w9 ⟨rfl, hb9⟩)
    replace x15 := x15.below hb9
    replace hb := bto hb hb9
    clear hb9
    replace x15 := x15.below (below_alloc w9 (.cells #[.string ⟨X.toArray⟩, .string ⟨Y.toArray⟩] 32))
    have x17 := FBox.new w9 (.string ⟨X.toArray⟩) (.string ⟨Y.toArray⟩) 32
    replace hb := bto hb (below_alloc w9 (.cells #[.string ⟨X.toArray⟩, .string ⟨Y.toArray⟩] 32))
    have q0 := x15.c0
    have q1 := x15.c1
    have q2 := x17.c0
    have q3 := x17.c1
    go_wp2_with fail
    ((with_reducible refine (CW.out.of hG hb).mono ?_); rintro e w99 ⟨rfl, hb99⟩)
    go_wp2
    go_ret
    exact ⟨rfl, bto hb hb99⟩
  · have cx : ∃ (X Y : List UInt8) (c : Int), Ret 38 #[.string ⟨s.toArray⟩] (.tuple #[.agg #[.string ⟨X.toArray⟩, .string ⟨Y.toArray⟩], .int .i64 c]) ∧ Ret 39 #[.string ⟨s.toArray⟩] (.tuple #[.agg #[.string ⟨X.toArray⟩, .string ⟨Y.toArray⟩], .int .i64 c]) := by
      rcases hcase with h | ⟨h, h'⟩
      · obtain ⟨X, Y, c, hX⟩ := frac_form s
        have a1 := dFrac (s := s) (by omega)
        have a2 := eFrac (s := s) (by omega)
        rw [hX] at a1 a2
        exact ⟨X, Y, c, a1, a2⟩
      · exact ⟨[], [], 4, dFracLong h (by omega), eFracLong h (by omega)⟩
    obtain ⟨X, Y, cf, c5, c6⟩ := cx
    have C5 := Lib.hid c5
    have C6 := Lib.hid c6
    clear c5 c6
    obtain ⟨p, rfl⟩ : ∃ p : Nat, n = p := ⟨n.toNat, by omega⟩
    have hp : p ≤ 12 := by omega
    have C1 := Lib.hid (dText (l := l) (by omega) rfl hp)
    have C2 := Lib.hid (eText (l := l) (by omega) rfl hp)
    have cp : ∃ (A : List UInt8) (c : Int), Ret 36 #[.string ⟨s.toArray⟩, .int .i64 (p : Int)] (.tuple #[.string ⟨A.toArray⟩, .int .i64 c]) ∧ Ret 37 #[.string ⟨s.toArray⟩, .int .i64 (p : Int)] (.tuple #[.string ⟨A.toArray⟩, .int .i64 c]) := by
      rcases hcase with h | ⟨h, h'⟩
      · obtain ⟨A, c, hA⟩ := parse_form s p
        have a1 := dParse (s := s) (by omega) hp
        have a2 := eParse (s := s) h hp
        rw [hA] at a1 a2
        exact ⟨A, c, a1, a2⟩
      · exact ⟨[], 4, dParseLong h (by omega) hp, eParseLong h (by omega) hp⟩
    obtain ⟨A, cp, c3, c4⟩ := cp
    have C3 := Lib.hid c3
    have C4 := Lib.hid c4
    clear c3 c4 hn hcase hl'
    generalize textD (val l) p = T at *
    go_wp2_with fail
    ((with_reducible refine (C1.out.of hG hb).mono ?_); rintro e w4 ⟨rfl, hb4⟩)
    replace hb := bto hb hb4
    clear hb4
    go_wp2_with fail
    ((with_reducible refine (C2.out.of hG hb).mono ?_); rintro e w5 ⟨rfl, hb5⟩)
    replace hb := bto hb hb5
    clear hb5
    go_wp2_with fail
    ((with_reducible refine (C3.out.of hG hb).mono ?_); rintro e w6 ⟨rfl, hb6⟩)
    replace hb := bto hb hb6
    clear hb6
    go_wp2_with fail
    ((with_reducible refine (C4.out.of hG hb).mono ?_); rintro e w7 ⟨rfl, hb7⟩)
    replace hb := bto hb hb7
    clear hb7
    go_wp2_with fail
    ((with_reducible refine (C5.out.of hG hb).mono ?_); rintro e w8 ⟨rfl, hb8⟩)
    replace hb := bto hb hb8
    clear hb8
    have x15 := FBox.new w8 (.string ⟨X.toArray⟩) (.string ⟨Y.toArray⟩) 32
    replace hb := bto hb (below_alloc w8 (.cells #[.string ⟨X.toArray⟩, .string ⟨Y.toArray⟩] 32))
    go_wp2_with fail
    ((with_reducible refine (C6.out.of hG hb).mono ?_); rintro e w9 ⟨rfl, hb9⟩)
    replace x15 := x15.below hb9
    replace hb := bto hb hb9
    clear hb9
    replace x15 := x15.below (below_alloc w9 (.cells #[.string ⟨X.toArray⟩, .string ⟨Y.toArray⟩] 32))
    have x17 := FBox.new w9 (.string ⟨X.toArray⟩) (.string ⟨Y.toArray⟩) 32
    replace hb := bto hb (below_alloc w9 (.cells #[.string ⟨X.toArray⟩, .string ⟨Y.toArray⟩] 32))
    have q0 := x15.c0
    have q1 := x15.c1
    have q2 := x17.c0
    have q3 := x17.c1
    go_wp2_with fail
    ((with_reducible refine (CW.out.of hG hb).mono ?_); rintro e w99 ⟨rfl, hb99⟩)
    go_wp2
    go_ret
    exact ⟨rfl, bto hb hb99⟩
end Go.Proofs.YtmmhimgkpfcokaaGreatDoor
