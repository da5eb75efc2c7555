/- InstrumentKinds. -/
import Derived.Test.YtdbmjbcgcajojaaGreatDoorIj
namespace Go.Proofs.YtdbmjbcgcajojaaGreatDoor
open Go.RowKit Num
theorem kind_back (k : Int) (h1 : ¬ k < 1) (h2 : ¬ 5 < k) : ∃ n : List UInt8, kindS k = (n, 0) ∧ parseK n = (k, 0) ∧ nameB n = true ∧ n.length ≤ 100 := by
  have hk : k = 1 ∨ k = 2 ∨ k = 3 ∨ k = 4 ∨ k = 5 := by omega
  rcases hk with rfl | rfl | rfl | rfl | rfl <;> exact ⟨_, rfl, by decide, by decide, by decide⟩
theorem parse_back (s : List UInt8) : parseK s = (0, 7) ∨ ∃ k : Int, parseK s = (k, 0) ∧ kindS k = (s, 0) := by
  by_cases h0 : s = [115, 104, 97, 114, 101]
  · subst h0; exact .inr ⟨1, by decide, by decide⟩
  by_cases h1 : s = [98, 111, 110, 100]
  · subst h1; exact .inr ⟨2, by decide, by decide⟩
  by_cases h2 : s = [102, 117, 110, 100]
  · subst h2; exact .inr ⟨3, by decide, by decide⟩
  by_cases h3 : s = [114, 105, 103, 104, 116]
  · subst h3; exact .inr ⟨4, by decide, by decide⟩
  by_cases h4 : s = [102, 111, 114, 119, 97, 114, 100]
  · subst h4; exact .inr ⟨5, by decide, by decide⟩
  left
  unfold parseK ws5
  simp only [idxL, if_neg h0, if_neg h1, if_neg h2, if_neg h3, if_neg h4]
  decide
set_option maxHeartbeats 4000000 in
set_option maxRecDepth 100000 in
theorem kinds_law (k : Int) (s : List UInt8) (w : World) (hG : Glob w) :
    Calls Tryz.prog 9 #[.int .i64 k, .string ⟨s.toArray⟩] w fun e w' => e = .returned (.bool true) ∧ Below w.heap.size w w' := by
  have CW := Lib.hid rAwake10
  have hb := Below.refl w.heap.size w
  by_cases hs : 100 < s.length
  · have e1 : decide (100 < s.length) = true := decide_eq_true hs
    go_enter Tryz.func9, Tryz.ntmps9
    go_wp2_with fail
    ((with_reducible refine (CW.out.of hG hb).mono ?_); rintro e w1 ⟨rfl, hb1⟩)
    go_wp2
    go_ret
    exact ⟨rfl, hb1⟩
  have e1 : decide (100 < s.length) = false := decide_eq_false hs
  have C1 := iKind k
  have C2 := iParseKind s
  by_cases h1 : k < 1
  · have f1 : decide (1 ≤ k) = false := decide_eq_false (by omega)
    have f2 : ¬ 1 ≤ k := by omega
    rw [show kindS k = ([], 7) from if_pos (.inl h1)] at C1
    have D1 := Lib.hid C1
    clear C1
    rcases parse_back s with hp | ⟨k', hp, hq⟩
    · rw [hp] at C2
      have D2 := Lib.hid C2
      clear hp C2
      go_enter Tryz.func9, Tryz.ntmps9
      go_wp2_with fail
      ((with_reducible refine (D1.out.of hG hb).mono ?_); rintro e w2 ⟨rfl, hb2⟩)
      replace hb := bto hb hb2
      clear hb2
      go_wp2_with fail
      ((with_reducible refine (D2.out.of hG hb).mono ?_); rintro e w3 ⟨rfl, hb3⟩)
      replace hb := bto hb hb3
      clear hb3
      go_wp2_with fail
      ((with_reducible refine (CW.out.of hG hb).mono ?_); rintro e w4 ⟨rfl, hb4⟩)
      replace hb := bto hb hb4
      clear hb4
      go_wp2
      go_ret
      exact ⟨rfl, hb⟩
    · have C3 := iKind k'
      rw [hp] at C2
      rw [hq] at C3
      have D2 := Lib.hid C2
      have D3 := Lib.hid C3
      clear hp hq C2 C3
      go_enter Tryz.func9, Tryz.ntmps9
      go_wp2_with fail
      ((with_reducible refine (D1.out.of hG hb).mono ?_); rintro e w2 ⟨rfl, hb2⟩)
      replace hb := bto hb hb2
      clear hb2
      go_wp2_with fail
      ((with_reducible refine (D2.out.of hG hb).mono ?_); rintro e w3 ⟨rfl, hb3⟩)
      replace hb := bto hb hb3
      clear hb3
      go_wp2_with fail
      ((with_reducible refine (D3.out.of hG hb).mono ?_); rintro e w4 ⟨rfl, hb4⟩)
      replace hb := bto hb hb4
      clear hb4
      go_wp2_with fail
      ((with_reducible refine (CW.out.of hG hb).mono ?_); rintro e w5 ⟨rfl, hb5⟩)
      replace hb := bto hb hb5
      clear hb5
      go_wp2
      go_ret
      exact ⟨rfl, hb⟩
  by_cases h2 : 5 < k
  · have f1 : decide (1 ≤ k) = true := decide_eq_true (by omega)
    have f2 : decide (k ≤ 5) = false := decide_eq_false (by omega)
    have f3 : 1 ≤ k := by omega
    have f4 : ¬ k ≤ 5 := by omega
    rw [show kindS k = ([], 7) from if_pos (.inr h2)] at C1
    have D1 := Lib.hid C1
    clear C1
    rcases parse_back s with hp | ⟨k', hp, hq⟩
    · rw [hp] at C2
      have D2 := Lib.hid C2
      clear hp C2
      go_enter Tryz.func9, Tryz.ntmps9
      go_wp2_with fail
      ((with_reducible refine (D1.out.of hG hb).mono ?_); rintro e w2 ⟨rfl, hb2⟩)
      replace hb := bto hb hb2
      clear hb2
      go_wp2_with fail
      ((with_reducible refine (D2.out.of hG hb).mono ?_); rintro e w3 ⟨rfl, hb3⟩)
      replace hb := bto hb hb3
      clear hb3
      go_wp2_with fail
      ((with_reducible refine (CW.out.of hG hb).mono ?_); rintro e w4 ⟨rfl, hb4⟩)
      replace hb := bto hb hb4
      clear hb4
      go_wp2
      go_ret
      exact ⟨rfl, hb⟩
    · have C3 := iKind k'
      rw [hp] at C2
      rw [hq] at C3
      have D2 := Lib.hid C2
      have D3 := Lib.hid C3
      clear hp hq C2 C3
      go_enter Tryz.func9, Tryz.ntmps9
      go_wp2_with fail
      ((with_reducible refine (D1.out.of hG hb).mono ?_); rintro e w2 ⟨rfl, hb2⟩)
      replace hb := bto hb hb2
      clear hb2
      go_wp2_with fail
      ((with_reducible refine (D2.out.of hG hb).mono ?_); rintro e w3 ⟨rfl, hb3⟩)
      replace hb := bto hb hb3
      clear hb3
      go_wp2_with fail
      ((with_reducible refine (D3.out.of hG hb).mono ?_); rintro e w4 ⟨rfl, hb4⟩)
      replace hb := bto hb hb4
      clear hb4
      go_wp2_with fail
      ((with_reducible refine (CW.out.of hG hb).mono ?_); rintro e w5 ⟨rfl, hb5⟩)
      replace hb := bto hb hb5
      clear hb5
      go_wp2
      go_ret
      exact ⟨rfl, hb⟩
  have f1 : decide (1 ≤ k) = true := decide_eq_true (by omega)
  have f2 : decide (k ≤ 5) = true := decide_eq_true (by omega)
  have f3 : 1 ≤ k := by omega
  have f4 : k ≤ 5 := by omega
  obtain ⟨n, hk, hn, hm, hl⟩ := kind_back k h1 h2
  have C4 := iParseKind n
  have C5 := iName (l := n) (by omega)
  rw [hk] at C1
  rw [hn] at C4
  rw [hm] at C5
  have D1 := Lib.hid C1
  have D4 := Lib.hid C4
  have D5 := Lib.hid C5
  clear C1 C4 C5 hk hn hm hl
  rcases parse_back s with hp | ⟨k', hp, hq⟩
  · rw [hp] at C2
    have D2 := Lib.hid C2
    clear hp C2
    go_enter Tryz.func9, Tryz.ntmps9
    go_wp2_with fail
    ((with_reducible refine (D1.out.of hG hb).mono ?_); rintro e w2 ⟨rfl, hb2⟩)
    replace hb := bto hb hb2
    clear hb2
    go_wp2_with fail
    ((with_reducible refine (D4.out.of hG hb).mono ?_); rintro e w3 ⟨rfl, hb3⟩)
    replace hb := bto hb hb3
    clear hb3
    go_wp2_with fail
    ((with_reducible refine (D5.out.of hG hb).mono ?_); rintro e w4 ⟨rfl, hb4⟩)
    replace hb := bto hb hb4
    clear hb4
    go_wp2_with fail
    ((with_reducible refine (D2.out.of hG hb).mono ?_); rintro e w5 ⟨rfl, hb5⟩)
    replace hb := bto hb hb5
    clear hb5
    go_wp2_with fail
    ((with_reducible refine (CW.out.of hG hb).mono ?_); rintro e w6 ⟨rfl, hb6⟩)
    replace hb := bto hb hb6
    clear hb6
    go_wp2
    go_ret
    exact ⟨rfl, hb⟩
  · have C3 := iKind k'
    rw [hp] at C2
    rw [hq] at C3
    have D2 := Lib.hid C2
    have D3 := Lib.hid C3
    clear hp hq C2 C3
    go_enter Tryz.func9, Tryz.ntmps9
    go_wp2_with fail
    ((with_reducible refine (D1.out.of hG hb).mono ?_); rintro e w2 ⟨rfl, hb2⟩)
    replace hb := bto hb hb2
    clear hb2
    go_wp2_with fail
    ((with_reducible refine (D4.out.of hG hb).mono ?_); rintro e w3 ⟨rfl, hb3⟩)
    replace hb := bto hb hb3
    clear hb3
    go_wp2_with fail
    ((with_reducible refine (D5.out.of hG hb).mono ?_); rintro e w4 ⟨rfl, hb4⟩)
    replace hb := bto hb hb4
    clear hb4
    go_wp2_with fail
    ((with_reducible refine (D2.out.of hG hb).mono ?_); rintro e w5 ⟨rfl, hb5⟩)
    replace hb := bto hb hb5
    clear hb5
    go_wp2_with fail
    ((with_reducible refine (D3.out.of hG hb).mono ?_); rintro e w6 ⟨rfl, hb6⟩)
    replace hb := bto hb hb6
    clear hb6
    go_wp2_with fail
    ((with_reducible refine (CW.out.of hG hb).mono ?_); rintro e w7 ⟨rfl, hb7⟩)
    replace hb := bto hb hb7
    clear hb7
    go_wp2
    go_ret
    exact ⟨rfl, hb⟩
end Go.Proofs.YtdbmjbcgcajojaaGreatDoor
