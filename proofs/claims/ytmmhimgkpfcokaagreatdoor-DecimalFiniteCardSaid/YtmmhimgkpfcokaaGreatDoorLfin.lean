/- DecimalFinite. -/
import Derived.Test.YtmmhimgkpfcokaaGreatDoorEd
namespace Go.Proofs.YtmmhimgkpfcokaaGreatDoor
open Go.RowKit Num
theorem tenQ_ne (p : Nat) : tenQ p ≠ 0 := fun h => ten_ne3 p (Rat.intCast_inj.1 (h.trans rfl))
theorem divInt_ten3 (z : Int) (p : Nat) : Rat.divInt z ((10 ^ p : Nat) : Int) * tenQ p = (z : Rat) := by
  unfold tenQ
  rw [Rat.divInt_eq_div]
  exact Rat.div_mul_cancel (fun h => ten_ne3 p (Rat.intCast_inj.1 (h.trans rfl)))
theorem whole_num {q : Rat} (h : q.den = 1) : q = (q.num : Rat) := by
  conv => lhs; rw [← Rat.num_divInt_den q, h]
  exact (Rat.num_divInt_den ((q.num : Int) : Rat))
theorem text_back {q : Rat} {p : Nat} (h : (q * tenQ p).den = 1) : decQ (textD (q * tenQ p).num p) = q := by
  have h1 : decQ (textD (q * tenQ p).num p) * tenQ p = q * tenQ p := by
    unfold decQ
    rw [textD_Z, textD_P, tP_len, divInt_ten3, ← whole_num h]
  have h2 : (decQ (textD (q * tenQ p).num p) - q) * tenQ p = 0 := by grind
  rcases Rat.mul_eq_zero.1 h2 with h3 | h3
  · grind
  · exact absurd h3 (tenQ_ne p)
theorem fin_num {q : Rat} {p : Nat} (h : (q * tenQ p).den = 1) (m : Int) : rnd (q * tenQ p) m = (q * tenQ p).num := by
  rw [whole_num h]; exact rnd_int _ m
set_option maxHeartbeats 4000000 in
set_option maxRecDepth 100000 in
theorem fin_law (l l' : List UInt8) (w : World) (hG : Glob w) :
    Calls Tryz.prog 11 #[(Value.agg #[Value.string ⟨List.toArray l⟩, Value.string ⟨List.toArray l'⟩])] w fun e w' => e = .returned (.bool true) ∧ Below w.heap.size w w' := by
  have CW := Lib.hid wAwake3
  have CL := Lib.hid (eLongFrac l l')
  have x1 := FBox.new w (.string ⟨l.toArray⟩) (.string ⟨l'.toArray⟩) 32
  have hb := below_alloc w (.cells #[.string ⟨l.toArray⟩, .string ⟨l'.toArray⟩] 32)
  go_enter Tryz.func11, Tryz.ntmps11
  have qx1_0 := x1.c0
  have qx1_1 := x1.c1
  go_wp2_with fail
  ((with_reducible refine (CL.out.of hG hb).mono ?_); rintro e w2 ⟨rfl, hb2⟩)
  clear qx1_0 qx1_1
  replace x1 := x1.below hb2
  replace hb := bto hb hb2
  clear hb2
  cases hlong : longB l l'
  rotate_left
  · clear x1
    go_wp2_with fail
    ((with_reducible refine (CW.out.of hG hb).mono ?_); rintro e w3 ⟨rfl, hb3⟩)
    replace hb := bto hb hb3
    clear hb3
    go_wp2
    go_ret
    exact ⟨rfl, hb⟩
  obtain ⟨h0, h1⟩ := longB_f hlong
  clear hlong
  have iF := isq_raw h0 h1 (by decide)
  have bF : Bd 60 (fv l l') := bd_fv h0 h1 (by decide)
  have hq : fv l l' = fv l l' := rfl
  generalize hqq : fv l l' = q at iF bF
  have c1 := dFinite iF bF (by decide)
  have c2 := eFinite (l := l) (l' := l') (by omega) (by omega) hqq bF (by decide)
  have hspec : ∀ p, finE q.den = (p, true) → (q * tenQ p).den = 1 ∧ (0 < p → ¬ (q * tenQ (p - 1)).den = 1) := fun p h => by
    obtain ⟨a1, a2⟩ := finE_spec q.den_pos h
    exact ⟨(den_ten q p).2 a1, fun h2 h3 => a2 h2 ((den_ten q (p - 1)).1 h3)⟩
  have hbd : (finE q.den).1 ≤ 240 := by
    have hk : q.den < 2 ^ 240 := Nat.lt_of_lt_of_le bF.2 (by rw [show (240 : Nat) = 4 * 60 from rfl]; exact ten_two 60)
    unfold finE; split
    · have u1 := mlt_log 2 q.den _ (by decide) q.den_pos hk
      obtain ⟨m1, m2⟩ := mlt_snd_le 2 q.den (by decide) q.den_pos
      have u2 := mlt_log 5 _ _ (by decide) m1 (Nat.lt_of_le_of_lt m2 hk)
      show max _ _ ≤ 240
      omega
    · exact Nat.zero_le _
  unfold FinV at c1 c2
  obtain ⟨p, is, hpi⟩ : ∃ p is, finE q.den = (p, is) := ⟨_, _, rfl⟩
  rw [hpi] at c1 c2 hbd
  have C1 := Lib.hid c1
  have C2 := Lib.hid c2
  clear c1 c2 hq h0 h1 hqq
  replace C1 : Hid (Ret 63 #[(Value.agg #[Value.string ⟨List.toArray l⟩, Value.string ⟨List.toArray l'⟩])] (.tuple #[.int .i64 (p : Int), .bool is])) := C1
  replace C2 : Hid (Ret 64 #[(Value.agg #[Value.string ⟨List.toArray l⟩, Value.string ⟨List.toArray l'⟩])] (.tuple #[.int .i64 (p : Int), .bool is])) := C2
  have hp240 : p ≤ 240 := hbd
  clear hbd
  have qx1_0 := x1.c0
  have qx1_1 := x1.c1
  go_wp2_with fail
  ((with_reducible refine (C1.out.of hG hb).mono ?_); rintro e w3 ⟨rfl, hb3⟩)
  clear qx1_0 qx1_1
  replace x1 := x1.below hb3
  replace hb := bto hb hb3
  clear hb3
  have qx1_0 := x1.c0
  have qx1_1 := x1.c1
  go_wp2_with fail
  ((with_reducible refine (C2.out.of hG hb).mono ?_); rintro e w4 ⟨rfl, hb4⟩)
  clear qx1_0 qx1_1
  replace x1 := x1.below hb4
  replace hb := bto hb hb4
  clear hb4
  cases is
  · clear hpi hspec iF bF
    clear x1
    go_wp2_with fail
    ((with_reducible refine (CW.out.of hG hb).mono ?_); rintro e w5 ⟨rfl, hb5⟩)
    replace hb := bto hb hb5
    clear hb5
    go_wp2
    go_ret
    exact ⟨rfl, hb⟩
  obtain ⟨hd1, hd0⟩ := hspec p hpi
  clear hspec hpi
  by_cases h12 : 12 < p
  · have e1 : decide (12 < (p : Int)) = true := decide_eq_true (by omega)
    have e2 : (12 : Int) < (p : Int) := by omega
    clear hd1 hd0 iF bF
    clear x1
    go_wp2_with fail
    ((with_reducible refine (CW.out.of hG hb).mono ?_); rintro e w5 ⟨rfl, hb5⟩)
    replace hb := bto hb hb5
    clear hb5
    go_wp2
    go_ret
    exact ⟨rfl, hb⟩
  have e1 : decide (12 < (p : Int)) = false := decide_eq_false (by omega)
  have e2 : ¬ (12 : Int) < (p : Int) := by omega
  have hp : p ≤ 12 := by omega
  have c3 := dFormat iF bF (by decide) hp (m := 3) (by decide) (by decide) (fin_num hd1 3)
  have bs := bd_mul bF (bd_ten p)
  have hdl := Num.dec_len_le _ _ bs.1
  have htl := textD_len (q * tenQ p).num p
  have c4 := dFrac (s := textD (q * tenQ p).num p) (by omega)
  rw [fracV_t (textD_ok _ _), text_back hd1] at c4
  have c5 := rCompare iF (isq_fr bF (by decide)) (cmpQ_self q)
  have c6 : 0 < p → Ret 36 #[.string ⟨(textD (q * tenQ p).num p).toArray⟩, .int .i64 ((p : Int) - 1)] (.tuple #[.string ⟨#[]⟩, .int .i64 22]) := fun h => by
    have := dParse (s := textD (q * tenQ p).num p) (by omega) (p := p - 1) (by omega)
    rw [parseV_0 (textD_ok _ _) (by rw [text_back hd1]; exact hd0 h), show (((p - 1 : Nat)) : Int) = (p : Int) - 1 by omega] at this
    exact this
  clear hd1 hd0 bs hdl htl iF bF
  generalize textD (q * tenQ p).num p = T at *
  generalize fN q = N at *
  generalize fD q = D at *
  have C3 := Lib.hid c3
  have C4 := Lib.hid c4
  have C5 := Lib.hid c5
  have C6 := Lib.hid c6
  clear c3 c4 c5 c6
  have qx1_0 := x1.c0
  have qx1_1 := x1.c1
  go_wp2_with fail
  ((with_reducible refine (C3.out.of hG hb).mono ?_); rintro e w5 ⟨rfl, hb5⟩)
  clear qx1_0 qx1_1
  replace x1 := x1.below hb5
  replace hb := bto hb hb5
  clear hb5
  go_wp2_with fail
  ((with_reducible refine (C4.out.of hG hb).mono ?_); rintro e w6 ⟨rfl, hb6⟩)
  replace x1 := x1.below hb6
  replace hb := bto hb hb6
  clear hb6
  replace x1 := x1.below (below_alloc w6 (.cells #[.string ⟨N.toArray⟩, .string ⟨D.toArray⟩] 32))
  have x9 := FBox.new w6 (.string ⟨N.toArray⟩) (.string ⟨D.toArray⟩) 32
  replace hb := bto hb (below_alloc w6 (.cells #[.string ⟨N.toArray⟩, .string ⟨D.toArray⟩] 32))
  have qx1_0 := x1.c0
  have qx1_1 := x1.c1
  have qx9_0 := x9.c0
  have qx9_1 := x9.c1
  go_wp2_with fail
  ((with_reducible refine (C5.out.of hG hb).mono ?_); rintro e w7 ⟨rfl, hb7⟩)
  clear qx1_0 qx1_1 qx9_0 qx9_1
  replace x1 := x1.below hb7
  replace x9 := x9.below hb7
  replace hb := bto hb hb7
  clear hb7
  clear x1
  clear x9
  by_cases hp0 : (p : Int) = 0
  · have e3 := intbeq hp0
    clear hp0
    go_wp2_with fail
    ((with_reducible refine (CW.out.of hG hb).mono ?_); rintro e w8 ⟨rfl, hb8⟩)
    replace hb := bto hb hb8
    clear hb8
    go_wp2
    go_ret
    exact ⟨rfl, hb⟩
  · have e3 := intbne hp0
    have C7 := Lib.hid (C6.out (by omega))
    clear hp0 C6
    go_wp2_with fail
    ((with_reducible refine (C7.out.of hG hb).mono ?_); rintro e w8 ⟨rfl, hb8⟩)
    replace hb := bto hb hb8
    clear hb8
    go_wp2_with fail
    ((with_reducible refine (CW.out.of hG hb).mono ?_); rintro e w9 ⟨rfl, hb9⟩)
    replace hb := bto hb hb9
    clear hb9
    go_wp2
    go_ret
    exact ⟨rfl, hb⟩
end Go.Proofs.YtmmhimgkpfcokaaGreatDoor
