/- Package decimal: Fraction. -/
import Derived.Test.YtmmhimgkpfcokaaGreatDoorDc
namespace Go.Proofs.YtmmhimgkpfcokaaGreatDoor
open Go.RowKit Num
theorem rCutP (s : List UInt8) (hs : s.length ≤ 1000000) : Ret 45 #[.string ⟨s.toArray⟩, .string ⟨#[46]⟩] (.tuple #[.string ⟨(Lib.cut s [46]).1.toArray⟩, .string ⟨(Lib.cut s [46]).2.1.toArray⟩, .bool (Lib.cut s [46]).2.2]) := fun w hG => by
  obtain ⟨m, hm⟩ := hG.2
  have h := Any.strings_Cut { Tryz.laysM145 with } ⟨s.toArray⟩ ⟨#[46]⟩ m w (by show s.toArray.size < _; simp; omega) hm
  exact h.mono fun e w' ⟨he, n, hw⟩ => by
    subst hw
    exact ⟨he, bdrewN (Below.refl _ _) n⟩
theorem rCutPre (s : List UInt8) : Ret 108 #[.string ⟨s.toArray⟩, .string ⟨#[45]⟩] (.tuple #[.string ⟨(rest s).toArray⟩, .bool (isNeg s)]) := fun w hG => by
  refine (cutPrefix_any s w).mono ?_
  rintro e w' ⟨rfl, rfl⟩
  exact ⟨rfl, Below.refl _ _⟩
theorem cut46_len (s : List UInt8) : (Lib.cut s [46]).1.length ≤ s.length ∧ (Lib.cut s [46]).2.1.length ≤ s.length := by
  unfold Lib.cut; split
  · exact ⟨by rw [List.length_take]; omega, by rw [List.length_drop]; omega⟩
  · exact ⟨Nat.le_refl _, Nat.zero_le _⟩
theorem byte_ne {x c : UInt8} (h : ¬ x = c) : ((x.toNat : Int) == (c.toNat : Int)) = false := by
  rw [beq_eq_false_iff_ne]; intro e; exact h (UInt8.toNat_inj.1 (Int.ofNat_inj.1 e))
theorem decW_len (s : List UInt8) : (decW s).length ≤ s.length := Nat.le_trans (cut46_len _).1 (rest_len s)
theorem decP_len (s : List UInt8) : (decP s).length ≤ s.length := Nat.le_trans (cut46_len _).2 (rest_len s)
theorem val_alldig {l : List UInt8} (h : l.all isDig = true) : val l = nat l := by
  have hn := no45_head h
  have hr : rest l = l := by unfold rest; rw [hn]; rfl
  have hd : digs l = sig l := by rw [digs_ok (by rw [hr]; exact h), hr]
  unfold val
  rw [negB_ok (by rw [hr]; exact h), hn, hd, nat_sig]; rfl
theorem val_one0 (k : Nat) : val (49 :: List.replicate k 48) = ((10 ^ k : Nat) : Int) := by
  have h : (49 :: List.replicate k (48 : UInt8)).all isDig = true := by
    rw [List.all_cons, Bool.and_eq_true]
    refine ⟨by decide, ?_⟩
    rw [List.all_eq_true]
    intro x hx
    rw [List.eq_of_mem_replicate hx]; decide
  rw [val_alldig h, nat_cons, nat_zeros, List.length_replicate]
  simp
def decQ (s : List UInt8) : Rat := Rat.divInt (decZ s) ((10 ^ (decP s).length : Nat) : Int)
theorem decB_nil {s : List UInt8} (h : decB s = false) : decP s = [] := by
  unfold decB at h; unfold decP
  rcases cut46_cases (rest s) with ⟨-, hc⟩ | ⟨a, b, -, -, hc⟩
  · rw [hc]
  · rw [hc] at h; cases h
theorem okW_not_dig {l : List UInt8} (h : isD l = false) : okW l = false := by unfold okW; rw [h]; rfl
theorem okW_zero {l : List UInt8} {x : UInt8} (hx : l[0]? = some x) (h1 : 1 < l.length) (h : x = 48) : okW l = false := by
  unfold okW
  have : l.head? = some 48 := by rw [List.head?_eq_getElem?, hx, h]
  rw [this, decide_eq_true h1]; simp
theorem okW_one {l : List UInt8} (hd : isD l = true) (h1 : ¬ 1 < l.length) : okW l = true := by unfold okW; rw [hd, decide_eq_false h1]; rfl
theorem okW_nz {l : List UInt8} {x : UInt8} (hd : isD l = true) (hx : l[0]? = some x) (h : ¬ x = 48) : okW l = true := by
  unfold okW
  have : (l.head? == some 48) = false := by rw [List.head?_eq_getElem?, hx, beq_eq_false_iff_ne]; simpa using h
  rw [hd, this]; simp
theorem decOk_W {s : List UInt8} (h : okW (decW s) = false) : decOk s = false := by unfold decOk; rw [h]; rfl
theorem decOk_P {s : List UInt8} (hb : decB s = true) (h : isD (decP s) = false) : decOk s = false := by unfold decOk; rw [hb, h]; simp
theorem decOk_0 {s : List UInt8} (hn : isNeg s = true) (h : decN' s = 0) : decOk s = false := by unfold decOk; rw [hn, h]; simp
theorem decOk_of {s : List UInt8} (h1 : okW (decW s) = true) (h2 : decB s = false ∨ isD (decP s) = true) (h3 : isNeg s = false ∨ decN' s ≠ 0) : decOk s = true := by
  unfold decOk; rw [h1]
  have a : (!decB s || isD (decP s)) = true := by rcases h2 with h | h <;> rw [h] <;> simp
  have b : (isNeg s && decN' s == 0) = false := by
    rcases h3 with h | h
    · rw [h]; rfl
    · have : (decN' s == 0) = false := by rw [beq_eq_false_iff_ne]; exact h
      rw [this]; simp
  rw [a, b]; rfl
/-- what Fraction returns: the value, and why there is none -/
def FracV (s : List UInt8) : Value := if decOk s = true then .tuple #[(Value.agg #[Value.string ⟨List.toArray (fN (decQ s))⟩, Value.string ⟨List.toArray (fD (decQ s))⟩]), .int .i64 0] else .tuple #[.agg #[.string ⟨#[]⟩, .string ⟨#[]⟩], .int .i64 3]
theorem fracV_t {s : List UInt8} (h : decOk s = true) : FracV s = .tuple #[(Value.agg #[Value.string ⟨List.toArray (fN (decQ s))⟩, Value.string ⟨List.toArray (fD (decQ s))⟩]), .int .i64 0] := if_pos h
theorem fracV_f {s : List UInt8} (h : decOk s = false) : FracV s = .tuple #[.agg #[.string ⟨#[]⟩, .string ⟨#[]⟩], .int .i64 3] := if_neg (by rw [h]; decide)
set_option maxHeartbeats 4000000 in
set_option maxRecDepth 100000 in
theorem dFrac {s : List UInt8} (hs : s.length ≤ 1000) : Ret 38 #[.string ⟨s.toArray⟩] (FracV s) := fun w hG => by
  have k0 : decide (65536 < s.length) = false := decide_eq_false (by omega)
  have k00 : ¬ 65536 < s.length := by omega
  have C1 := Lib.hid (rCutPre s)
  have c2 := rCutP (rest s) (Nat.le_trans (rest_len s) (by omega))
  have C2 : Hid (Ret 45 #[.string ⟨(rest s).toArray⟩, .string ⟨#[46]⟩] (.tuple #[.string ⟨(decW s).toArray⟩, .string ⟨(decP s).toArray⟩, .bool (decB s)])) := c2
  have lW := decW_len s
  have lP := decP_len s
  have C3 := Lib.hid (dDigits (l := decW s) (by omega))
  have C4 := Lib.hid (dDigits (l := decP s) (by omega))
  have hadd := str_add (decW s) (decP s) (by omega) (by omega)
  have hb := below_alloc w (.cells #[.string ⟨#[]⟩, .string ⟨#[]⟩] 32)
  have x2 := FBox.new w (.string ⟨#[]⟩) (.string ⟨#[]⟩) 32
  clear c2
  -- the end: what is known decides it
  have HY : Hid (okW (decW s) = true → (decB s = false ∨ isD (decP s) = true) → (decW s ++ decP s).all isDig = true) := fun h1 h2 => by
    rw [List.all_append, (okW_fmt h1).2.2]
    rcases h2 with h | h
    · rw [decB_nil h]; rfl
    · exact ((isD_iff _).1 h).2
  have HW0 := Lib.hid (fun h => decOk_W (s := s) (okW_not_dig h))
  have HW1 := Lib.hid (fun x h h1 h2 => decOk_W (s := s) (okW_zero (x := x) h h1 h2))
  have HP0 := Lib.hid (decOk_P (s := s))
  have HN0 := Lib.hid (decOk_0 (s := s))
  have HOk := Lib.hid (decOk_of (s := s))
  have HF := Lib.hid (fracV_f (s := s))
  have HT := Lib.hid (fracV_t (s := s))
  have HQ : Hid (decQ s = Rat.divInt (decZ s) ((10 ^ (decP s).length : Nat) : Int)) := rfl
  have HZ : Hid (decZ s = if isNeg s then -(decN' s : Int) else (decN' s : Int)) := rfl
  have HN : Hid (decN' s = nat (decW s ++ decP s)) := rfl
  generalize decQ s = q at *
  generalize decZ s = z at *
  generalize decN' s = n at *
  generalize decOk s = ok at *
  generalize decW s = W at *
  generalize decP s = P at *
  generalize decB s = B at *
  generalize rest s = R at *
  generalize FracV s = V at *
  generalize isNeg s = ng at *
  go_enter Tryz.func38, Tryz.ntmps38
  go_wp2_with fail
  ((with_reducible refine (C1.out.of hG hb).mono ?_); rintro e w1 ⟨rfl, hb1⟩)
  replace hb := bto hb hb1
  replace x2 := x2.below hb1
  clear hb1
  go_wp2_with fail
  ((with_reducible refine (C2.out.of hG hb).mono ?_); rintro e w2 ⟨rfl, hb2⟩)
  replace hb := bto hb hb2
  replace x2 := x2.below hb2
  clear hb2
  cases hd : isD W
  · have HD := Lib.hid hd
    rw [hd] at C3
    clear hd
    go_wp2_with fail
    ((with_reducible refine (C3.out.of hG hb).mono ?_); rintro e w3 ⟨rfl, hb3⟩)
    replace hb := bto hb hb3
    replace x2 := x2.below hb3
    clear hb3
    have HV := Lib.hid (HF.out (HW0.out HD.out))
    clear HW0 HW1 HP0 HN0 HOk HY HF HT HQ HZ HN
    have q0 := x2.c0
    have q1 := x2.c1
    have q2 := x2.f0
    have q3 := x2.f1
    go_wp2
    have hy := x2.set (.string ⟨#[]⟩) (.string ⟨#[]⟩)
    have d0 := hy.c0
    have d1 := hy.c1
    refine bodyPost_ret (v := .tuple #[.agg #[.string ⟨#[]⟩, .string ⟨#[]⟩], .int .i64 3]) (by simp [results, Tryz.results38, go_sem, d0, d1]) rfl ?_
    exact ⟨by rw [HV.out], below_set2 hb (Nat.le_refl _) _ _⟩
  · have HD := Lib.hid hd
    rw [hd] at C3
    clear hd
    go_wp2_with fail
    ((with_reducible refine (C3.out.of hG hb).mono ?_); rintro e w3 ⟨rfl, hb3⟩)
    replace hb := bto hb hb3
    replace x2 := x2.below hb3
    clear hb3
    have hne : W ≠ [] := ((isD_iff W).1 HD.out).1
    have hlt : 0 < W.length := List.length_pos_iff.2 hne
    clear hne
    have hlt' : 0 < (⟨W.toArray⟩ : ByteArray).size := by show 0 < W.toArray.size; simpa using hlt
    obtain ⟨x, hx⟩ : ∃ x, x = (⟨W.toArray⟩ : ByteArray)[0] := ⟨_, rfl⟩
    have hxl : W[0]? = some x := by rw [hx]; simp [hlt]; rfl
    have HX := Lib.hid hxl
    clear hxl
    have hx2 : ∀ hp, (⟨W.toArray⟩ : ByteArray)[0]'hp = x := fun _ => hx.symm
    clear hx
    by_cases g1 : 1 < W.length
    · have g1' : decide (1 < W.length) = true := decide_eq_true g1
      by_cases hx48 : x = 48
      · have e48 : ((x.toNat : Int) == 48) = true := by rw [hx48]; rfl
        have HV := Lib.hid (HF.out (HW1.out x HX.out g1 hx48))
        clear HW0 HW1 HP0 HN0 HOk HY HF HT HQ HZ HN
        have q0 := x2.c0
        have q1 := x2.c1
        have q2 := x2.f0
        have q3 := x2.f1
        go_wp2
        have hy := x2.set (.string ⟨#[]⟩) (.string ⟨#[]⟩)
        have d0 := hy.c0
        have d1 := hy.c1
        refine bodyPost_ret (v := .tuple #[.agg #[.string ⟨#[]⟩, .string ⟨#[]⟩], .int .i64 3]) (by simp [results, Tryz.results38, go_sem, d0, d1]) rfl ?_
        exact ⟨by rw [HV.out], below_set2 hb (Nat.le_refl _) _ _⟩
      · have e48 : ((x.toNat : Int) == 48) = false := byte_ne hx48
        have HWk := Lib.hid (okW_nz HD.out HX.out hx48)
        cases hB : B
        · subst hB
          have HA := Lib.hid (HY.out (HWk.out) (by first | exact .inl rfl | exact .inl trivial))
          have hv := val_alldig HA.out
          rw [← HN.out] at hv
          have C5 := Lib.hid (riCanonical (l := W ++ P) (by rw [List.length_append]; omega) hv)
          have hnl := canon_len_le (n : Int) (W ++ P).length (by rw [← hv]; exact val_lt (W ++ P))
          have hnm := canon_len_le (-(n : Int)) (W ++ P).length (by rw [Int.natAbs_neg, ← hv]; exact val_lt (W ++ P))
          rw [List.length_append] at hnl hnm
          clear hv HA
          go_wp2_with fail
          ((with_reducible refine (C5.out.of hG hb).mono ?_); rintro e w5 ⟨rfl, hb5⟩)
          replace hb := bto hb hb5
          replace x2 := x2.below hb5
          clear hb5
          clear hadd C5
          cases ng
          · have hz : z = (n : Int) := HZ.out.trans rfl
            have C6 := Lib.hid (rRepeat (P.length : Int) P.length rfl (by omega))
            have ha1 := str_add [49] (List.replicate P.length 48) (by decide) (by simp; omega)
            have C7 := Lib.hid (rNew (l := canon (n : Int)) (l' := 49 :: List.replicate P.length 48) (by omega) (by simp; omega) (by rw [val_one0]; have := Nat.pow_pos (n := P.length) (show 0 < 10 by decide); omega) (show Rat.divInt (val (canon (n : Int))) (val (49 :: List.replicate P.length 48)) = q by rw [val_canon, val_one0, HQ.out, hz]))
            have HV := Lib.hid HT.out
            have HO := Lib.hid (HOk.out (HWk.out) (by first | exact .inl rfl | exact .inl trivial) (by first | exact .inl rfl | exact .inl trivial))
            clear HW0 HW1 HP0 HN0 HOk HY HF HT HQ HZ HN hz
            generalize fN q = N at *
            generalize fD q = D at *
            generalize hrp : List.replicate P.length (48 : UInt8) = Rp at *
            clear hrp
            go_wp2_with fail
            ((with_reducible refine (C6.out.of hG hb).mono ?_); rintro e w6 ⟨rfl, hb6⟩)
            replace hb := bto hb hb6
            replace x2 := x2.below hb6
            clear hb6
            go_wp2_with fail
            ((with_reducible refine (C7.out.of hG hb).mono ?_); rintro e w7 ⟨rfl, hb7⟩)
            replace hb := bto hb hb7
            replace x2 := x2.below hb7
            clear hb7
            have x10 := FBox.new w7 (.string ⟨N.toArray⟩) (.string ⟨D.toArray⟩) 32
            replace x2 := x2.below (below_alloc w7 (.cells #[.string ⟨N.toArray⟩, .string ⟨D.toArray⟩] 32))
            replace hb := bto hb (below_alloc w7 (.cells #[.string ⟨N.toArray⟩, .string ⟨D.toArray⟩] 32))
            have q0 := x2.c0
            have q1 := x2.c1
            have q2 := x2.f0
            have q3 := x2.f1
            have g0 := x10.c0
            have g1 := x10.c1
            go_wp2
            have hy := x2.set (.string ⟨N.toArray⟩) (.string ⟨D.toArray⟩)
            have d0 := hy.c0
            have d1 := hy.c1
            refine bodyPost_ret (v := .tuple #[.agg #[.string ⟨N.toArray⟩, .string ⟨D.toArray⟩], .int .i64 0]) (by simp [results, Tryz.results38, go_sem, d0, d1]) rfl ?_
            exact ⟨by rw [HV.out HO.out], below_set2 hb (Nat.le_refl _) _ _⟩
          · by_cases h0 : n = 0
            · obtain ⟨e1, e2⟩ := str_nil (z := (n : Int)) (by omega)
              have HV := Lib.hid (HF.out (HN0.out (by first | rfl | trivial) h0))
              clear HW0 HW1 HP0 HN0 HOk HY HF HT HQ HZ HN
              have q0 := x2.c0
              have q1 := x2.c1
              have q2 := x2.f0
              have q3 := x2.f1
              go_wp2
              have hy := x2.set (.string ⟨#[]⟩) (.string ⟨#[]⟩)
              have d0 := hy.c0
              have d1 := hy.c1
              refine bodyPost_ret (v := .tuple #[.agg #[.string ⟨#[]⟩, .string ⟨#[]⟩], .int .i64 3]) (by simp [results, Tryz.results38, go_sem, d0, d1]) rfl ?_
              exact ⟨by rw [HV.out], below_set2 hb (Nat.le_refl _) _ _⟩
            · obtain ⟨e1, e2⟩ := str_ne (z := (n : Int)) (by omega)
              have C8 := Lib.hid (riNeg (l := canon (n : Int)) (by omega) (show -val (canon (n : Int)) = -(n : Int) by rw [val_canon]))
              go_wp2_with fail
              ((with_reducible refine (C8.out.of hG hb).mono ?_); rintro e w8 ⟨rfl, hb8⟩)
              replace hb := bto hb hb8
              replace x2 := x2.below hb8
              clear hb8
              clear e1 e2 C8
              have hz : z = -(n : Int) := HZ.out.trans rfl
              have C6 := Lib.hid (rRepeat (P.length : Int) P.length rfl (by omega))
              have ha1 := str_add [49] (List.replicate P.length 48) (by decide) (by simp; omega)
              have C7 := Lib.hid (rNew (l := canon (-(n : Int))) (l' := 49 :: List.replicate P.length 48) (by omega) (by simp; omega) (by rw [val_one0]; have := Nat.pow_pos (n := P.length) (show 0 < 10 by decide); omega) (show Rat.divInt (val (canon (-(n : Int)))) (val (49 :: List.replicate P.length 48)) = q by rw [val_canon, val_one0, HQ.out, hz]))
              have HV := Lib.hid HT.out
              have HO := Lib.hid (HOk.out (HWk.out) (by first | exact .inl rfl | exact .inl trivial) (.inr h0))
              clear HW0 HW1 HP0 HN0 HOk HY HF HT HQ HZ HN hz
              generalize fN q = N at *
              generalize fD q = D at *
              generalize hrp : List.replicate P.length (48 : UInt8) = Rp at *
              clear hrp
              go_wp2_with fail
              ((with_reducible refine (C6.out.of hG hb).mono ?_); rintro e w6 ⟨rfl, hb6⟩)
              replace hb := bto hb hb6
              replace x2 := x2.below hb6
              clear hb6
              go_wp2_with fail
              ((with_reducible refine (C7.out.of hG hb).mono ?_); rintro e w7 ⟨rfl, hb7⟩)
              replace hb := bto hb hb7
              replace x2 := x2.below hb7
              clear hb7
              have x10 := FBox.new w7 (.string ⟨N.toArray⟩) (.string ⟨D.toArray⟩) 32
              replace x2 := x2.below (below_alloc w7 (.cells #[.string ⟨N.toArray⟩, .string ⟨D.toArray⟩] 32))
              replace hb := bto hb (below_alloc w7 (.cells #[.string ⟨N.toArray⟩, .string ⟨D.toArray⟩] 32))
              have q0 := x2.c0
              have q1 := x2.c1
              have q2 := x2.f0
              have q3 := x2.f1
              have g0 := x10.c0
              have g1 := x10.c1
              go_wp2
              have hy := x2.set (.string ⟨N.toArray⟩) (.string ⟨D.toArray⟩)
              have d0 := hy.c0
              have d1 := hy.c1
              refine bodyPost_ret (v := .tuple #[.agg #[.string ⟨N.toArray⟩, .string ⟨D.toArray⟩], .int .i64 0]) (by simp [results, Tryz.results38, go_sem, d0, d1]) rfl ?_
              exact ⟨by rw [HV.out HO.out], below_set2 hb (Nat.le_refl _) _ _⟩
        · subst hB
          cases hp : isD P
          · have HD2 := Lib.hid hp
            rw [hp] at C4
            clear hp
            go_wp2_with fail
            ((with_reducible refine (C4.out.of hG hb).mono ?_); rintro e w4 ⟨rfl, hb4⟩)
            replace hb := bto hb hb4
            replace x2 := x2.below hb4
            clear hb4
            have HV := Lib.hid (HF.out (HP0.out (by first | rfl | trivial) HD2.out))
            clear HW0 HW1 HP0 HN0 HOk HY HF HT HQ HZ HN
            have q0 := x2.c0
            have q1 := x2.c1
            have q2 := x2.f0
            have q3 := x2.f1
            go_wp2
            have hy := x2.set (.string ⟨#[]⟩) (.string ⟨#[]⟩)
            have d0 := hy.c0
            have d1 := hy.c1
            refine bodyPost_ret (v := .tuple #[.agg #[.string ⟨#[]⟩, .string ⟨#[]⟩], .int .i64 3]) (by simp [results, Tryz.results38, go_sem, d0, d1]) rfl ?_
            exact ⟨by rw [HV.out], below_set2 hb (Nat.le_refl _) _ _⟩
          · have HD2 := Lib.hid hp
            rw [hp] at C4
            clear hp
            go_wp2_with fail
            ((with_reducible refine (C4.out.of hG hb).mono ?_); rintro e w4 ⟨rfl, hb4⟩)
            replace hb := bto hb hb4
            replace x2 := x2.below hb4
            clear hb4
            have HA := Lib.hid (HY.out (HWk.out) (.inr HD2.out))
            have hv := val_alldig HA.out
            rw [← HN.out] at hv
            have C5 := Lib.hid (riCanonical (l := W ++ P) (by rw [List.length_append]; omega) hv)
            have hnl := canon_len_le (n : Int) (W ++ P).length (by rw [← hv]; exact val_lt (W ++ P))
            have hnm := canon_len_le (-(n : Int)) (W ++ P).length (by rw [Int.natAbs_neg, ← hv]; exact val_lt (W ++ P))
            rw [List.length_append] at hnl hnm
            clear hv HA
            go_wp2_with fail
            ((with_reducible refine (C5.out.of hG hb).mono ?_); rintro e w5 ⟨rfl, hb5⟩)
            replace hb := bto hb hb5
            replace x2 := x2.below hb5
            clear hb5
            clear hadd C5
            cases ng
            · have hz : z = (n : Int) := HZ.out.trans rfl
              have C6 := Lib.hid (rRepeat (P.length : Int) P.length rfl (by omega))
              have ha1 := str_add [49] (List.replicate P.length 48) (by decide) (by simp; omega)
              have C7 := Lib.hid (rNew (l := canon (n : Int)) (l' := 49 :: List.replicate P.length 48) (by omega) (by simp; omega) (by rw [val_one0]; have := Nat.pow_pos (n := P.length) (show 0 < 10 by decide); omega) (show Rat.divInt (val (canon (n : Int))) (val (49 :: List.replicate P.length 48)) = q by rw [val_canon, val_one0, HQ.out, hz]))
              have HV := Lib.hid HT.out
              have HO := Lib.hid (HOk.out (HWk.out) (.inr HD2.out) (by first | exact .inl rfl | exact .inl trivial))
              clear HW0 HW1 HP0 HN0 HOk HY HF HT HQ HZ HN hz
              generalize fN q = N at *
              generalize fD q = D at *
              generalize hrp : List.replicate P.length (48 : UInt8) = Rp at *
              clear hrp
              go_wp2_with fail
              ((with_reducible refine (C6.out.of hG hb).mono ?_); rintro e w6 ⟨rfl, hb6⟩)
              replace hb := bto hb hb6
              replace x2 := x2.below hb6
              clear hb6
              go_wp2_with fail
              ((with_reducible refine (C7.out.of hG hb).mono ?_); rintro e w7 ⟨rfl, hb7⟩)
              replace hb := bto hb hb7
              replace x2 := x2.below hb7
              clear hb7
              have x10 := FBox.new w7 (.string ⟨N.toArray⟩) (.string ⟨D.toArray⟩) 32
              replace x2 := x2.below (below_alloc w7 (.cells #[.string ⟨N.toArray⟩, .string ⟨D.toArray⟩] 32))
              replace hb := bto hb (below_alloc w7 (.cells #[.string ⟨N.toArray⟩, .string ⟨D.toArray⟩] 32))
              have q0 := x2.c0
              have q1 := x2.c1
              have q2 := x2.f0
              have q3 := x2.f1
              have g0 := x10.c0
              have g1 := x10.c1
              go_wp2
              have hy := x2.set (.string ⟨N.toArray⟩) (.string ⟨D.toArray⟩)
              have d0 := hy.c0
              have d1 := hy.c1
              refine bodyPost_ret (v := .tuple #[.agg #[.string ⟨N.toArray⟩, .string ⟨D.toArray⟩], .int .i64 0]) (by simp [results, Tryz.results38, go_sem, d0, d1]) rfl ?_
              exact ⟨by rw [HV.out HO.out], below_set2 hb (Nat.le_refl _) _ _⟩
            · by_cases h0 : n = 0
              · obtain ⟨e1, e2⟩ := str_nil (z := (n : Int)) (by omega)
                have HV := Lib.hid (HF.out (HN0.out (by first | rfl | trivial) h0))
                clear HW0 HW1 HP0 HN0 HOk HY HF HT HQ HZ HN
                have q0 := x2.c0
                have q1 := x2.c1
                have q2 := x2.f0
                have q3 := x2.f1
                go_wp2
                have hy := x2.set (.string ⟨#[]⟩) (.string ⟨#[]⟩)
                have d0 := hy.c0
                have d1 := hy.c1
                refine bodyPost_ret (v := .tuple #[.agg #[.string ⟨#[]⟩, .string ⟨#[]⟩], .int .i64 3]) (by simp [results, Tryz.results38, go_sem, d0, d1]) rfl ?_
                exact ⟨by rw [HV.out], below_set2 hb (Nat.le_refl _) _ _⟩
              · obtain ⟨e1, e2⟩ := str_ne (z := (n : Int)) (by omega)
                have C8 := Lib.hid (riNeg (l := canon (n : Int)) (by omega) (show -val (canon (n : Int)) = -(n : Int) by rw [val_canon]))
                go_wp2_with fail
                ((with_reducible refine (C8.out.of hG hb).mono ?_); rintro e w8 ⟨rfl, hb8⟩)
                replace hb := bto hb hb8
                replace x2 := x2.below hb8
                clear hb8
                clear e1 e2 C8
                have hz : z = -(n : Int) := HZ.out.trans rfl
                have C6 := Lib.hid (rRepeat (P.length : Int) P.length rfl (by omega))
                have ha1 := str_add [49] (List.replicate P.length 48) (by decide) (by simp; omega)
                have C7 := Lib.hid (rNew (l := canon (-(n : Int))) (l' := 49 :: List.replicate P.length 48) (by omega) (by simp; omega) (by rw [val_one0]; have := Nat.pow_pos (n := P.length) (show 0 < 10 by decide); omega) (show Rat.divInt (val (canon (-(n : Int)))) (val (49 :: List.replicate P.length 48)) = q by rw [val_canon, val_one0, HQ.out, hz]))
                have HV := Lib.hid HT.out
                have HO := Lib.hid (HOk.out (HWk.out) (.inr HD2.out) (.inr h0))
                clear HW0 HW1 HP0 HN0 HOk HY HF HT HQ HZ HN hz
                generalize fN q = N at *
                generalize fD q = D at *
                generalize hrp : List.replicate P.length (48 : UInt8) = Rp at *
                clear hrp
                go_wp2_with fail
                ((with_reducible refine (C6.out.of hG hb).mono ?_); rintro e w6 ⟨rfl, hb6⟩)
                replace hb := bto hb hb6
                replace x2 := x2.below hb6
                clear hb6
                go_wp2_with fail
                ((with_reducible refine (C7.out.of hG hb).mono ?_); rintro e w7 ⟨rfl, hb7⟩)
                replace hb := bto hb hb7
                replace x2 := x2.below hb7
                clear hb7
                have x10 := FBox.new w7 (.string ⟨N.toArray⟩) (.string ⟨D.toArray⟩) 32
                replace x2 := x2.below (below_alloc w7 (.cells #[.string ⟨N.toArray⟩, .string ⟨D.toArray⟩] 32))
                replace hb := bto hb (below_alloc w7 (.cells #[.string ⟨N.toArray⟩, .string ⟨D.toArray⟩] 32))
                have q0 := x2.c0
                have q1 := x2.c1
                have q2 := x2.f0
                have q3 := x2.f1
                have g0 := x10.c0
                have g1 := x10.c1
                go_wp2
                have hy := x2.set (.string ⟨N.toArray⟩) (.string ⟨D.toArray⟩)
                have d0 := hy.c0
                have d1 := hy.c1
                refine bodyPost_ret (v := .tuple #[.agg #[.string ⟨N.toArray⟩, .string ⟨D.toArray⟩], .int .i64 0]) (by simp [results, Tryz.results38, go_sem, d0, d1]) rfl ?_
                exact ⟨by rw [HV.out HO.out], below_set2 hb (Nat.le_refl _) _ _⟩
    · have g1' : decide (1 < W.length) = false := decide_eq_false g1
      have HWk := Lib.hid (okW_one HD.out g1)
      cases hB : B
      · subst hB
        have HA := Lib.hid (HY.out (HWk.out) (by first | exact .inl rfl | exact .inl trivial))
        have hv := val_alldig HA.out
        rw [← HN.out] at hv
        have C5 := Lib.hid (riCanonical (l := W ++ P) (by rw [List.length_append]; omega) hv)
        have hnl := canon_len_le (n : Int) (W ++ P).length (by rw [← hv]; exact val_lt (W ++ P))
        have hnm := canon_len_le (-(n : Int)) (W ++ P).length (by rw [Int.natAbs_neg, ← hv]; exact val_lt (W ++ P))
        rw [List.length_append] at hnl hnm
        clear hv HA
        go_wp2_with fail
        ((with_reducible refine (C5.out.of hG hb).mono ?_); rintro e w5 ⟨rfl, hb5⟩)
        replace hb := bto hb hb5
        replace x2 := x2.below hb5
        clear hb5
        clear hadd C5
        cases ng
        · have hz : z = (n : Int) := HZ.out.trans rfl
          have C6 := Lib.hid (rRepeat (P.length : Int) P.length rfl (by omega))
          have ha1 := str_add [49] (List.replicate P.length 48) (by decide) (by simp; omega)
          have C7 := Lib.hid (rNew (l := canon (n : Int)) (l' := 49 :: List.replicate P.length 48) (by omega) (by simp; omega) (by rw [val_one0]; have := Nat.pow_pos (n := P.length) (show 0 < 10 by decide); omega) (show Rat.divInt (val (canon (n : Int))) (val (49 :: List.replicate P.length 48)) = q by rw [val_canon, val_one0, HQ.out, hz]))
          have HV := Lib.hid HT.out
          have HO := Lib.hid (HOk.out (HWk.out) (by first | exact .inl rfl | exact .inl trivial) (by first | exact .inl rfl | exact .inl trivial))
          clear HW0 HW1 HP0 HN0 HOk HY HF HT HQ HZ HN hz
          generalize fN q = N at *
          generalize fD q = D at *
          generalize hrp : List.replicate P.length (48 : UInt8) = Rp at *
          clear hrp
          go_wp2_with fail
          ((with_reducible refine (C6.out.of hG hb).mono ?_); rintro e w6 ⟨rfl, hb6⟩)
          replace hb := bto hb hb6
          replace x2 := x2.below hb6
          clear hb6
          go_wp2_with fail
          ((with_reducible refine (C7.out.of hG hb).mono ?_); rintro e w7 ⟨rfl, hb7⟩)
          replace hb := bto hb hb7
          replace x2 := x2.below hb7
          clear hb7
          have x10 := FBox.new w7 (.string ⟨N.toArray⟩) (.string ⟨D.toArray⟩) 32
          replace x2 := x2.below (below_alloc w7 (.cells #[.string ⟨N.toArray⟩, .string ⟨D.toArray⟩] 32))
          replace hb := bto hb (below_alloc w7 (.cells #[.string ⟨N.toArray⟩, .string ⟨D.toArray⟩] 32))
          have q0 := x2.c0
          have q1 := x2.c1
          have q2 := x2.f0
          have q3 := x2.f1
          have g0 := x10.c0
          have g1 := x10.c1
          go_wp2
          have hy := x2.set (.string ⟨N.toArray⟩) (.string ⟨D.toArray⟩)
          have d0 := hy.c0
          have d1 := hy.c1
          refine bodyPost_ret (v := .tuple #[.agg #[.string ⟨N.toArray⟩, .string ⟨D.toArray⟩], .int .i64 0]) (by simp [results, Tryz.results38, go_sem, d0, d1]) rfl ?_
          exact ⟨by rw [HV.out HO.out], below_set2 hb (Nat.le_refl _) _ _⟩
        · by_cases h0 : n = 0
          · obtain ⟨e1, e2⟩ := str_nil (z := (n : Int)) (by omega)
            have HV := Lib.hid (HF.out (HN0.out (by first | rfl | trivial) h0))
            clear HW0 HW1 HP0 HN0 HOk HY HF HT HQ HZ HN
            have q0 := x2.c0
            have q1 := x2.c1
            have q2 := x2.f0
            have q3 := x2.f1
            go_wp2
            have hy := x2.set (.string ⟨#[]⟩) (.string ⟨#[]⟩)
            have d0 := hy.c0
            have d1 := hy.c1
            refine bodyPost_ret (v := .tuple #[.agg #[.string ⟨#[]⟩, .string ⟨#[]⟩], .int .i64 3]) (by simp [results, Tryz.results38, go_sem, d0, d1]) rfl ?_
            exact ⟨by rw [HV.out], below_set2 hb (Nat.le_refl _) _ _⟩
          · obtain ⟨e1, e2⟩ := str_ne (z := (n : Int)) (by omega)
            have C8 := Lib.hid (riNeg (l := canon (n : Int)) (by omega) (show -val (canon (n : Int)) = -(n : Int) by rw [val_canon]))
            go_wp2_with fail
            ((with_reducible refine (C8.out.of hG hb).mono ?_); rintro e w8 ⟨rfl, hb8⟩)
            replace hb := bto hb hb8
            replace x2 := x2.below hb8
            clear hb8
            clear e1 e2 C8
            have hz : z = -(n : Int) := HZ.out.trans rfl
            have C6 := Lib.hid (rRepeat (P.length : Int) P.length rfl (by omega))
            have ha1 := str_add [49] (List.replicate P.length 48) (by decide) (by simp; omega)
            have C7 := Lib.hid (rNew (l := canon (-(n : Int))) (l' := 49 :: List.replicate P.length 48) (by omega) (by simp; omega) (by rw [val_one0]; have := Nat.pow_pos (n := P.length) (show 0 < 10 by decide); omega) (show Rat.divInt (val (canon (-(n : Int)))) (val (49 :: List.replicate P.length 48)) = q by rw [val_canon, val_one0, HQ.out, hz]))
            have HV := Lib.hid HT.out
            have HO := Lib.hid (HOk.out (HWk.out) (by first | exact .inl rfl | exact .inl trivial) (.inr h0))
            clear HW0 HW1 HP0 HN0 HOk HY HF HT HQ HZ HN hz
            generalize fN q = N at *
            generalize fD q = D at *
            generalize hrp : List.replicate P.length (48 : UInt8) = Rp at *
            clear hrp
            go_wp2_with fail
            ((with_reducible refine (C6.out.of hG hb).mono ?_); rintro e w6 ⟨rfl, hb6⟩)
            replace hb := bto hb hb6
            replace x2 := x2.below hb6
            clear hb6
            go_wp2_with fail
            ((with_reducible refine (C7.out.of hG hb).mono ?_); rintro e w7 ⟨rfl, hb7⟩)
            replace hb := bto hb hb7
            replace x2 := x2.below hb7
            clear hb7
            have x10 := FBox.new w7 (.string ⟨N.toArray⟩) (.string ⟨D.toArray⟩) 32
            replace x2 := x2.below (below_alloc w7 (.cells #[.string ⟨N.toArray⟩, .string ⟨D.toArray⟩] 32))
            replace hb := bto hb (below_alloc w7 (.cells #[.string ⟨N.toArray⟩, .string ⟨D.toArray⟩] 32))
            have q0 := x2.c0
            have q1 := x2.c1
            have q2 := x2.f0
            have q3 := x2.f1
            have g0 := x10.c0
            have g1 := x10.c1
            go_wp2
            have hy := x2.set (.string ⟨N.toArray⟩) (.string ⟨D.toArray⟩)
            have d0 := hy.c0
            have d1 := hy.c1
            refine bodyPost_ret (v := .tuple #[.agg #[.string ⟨N.toArray⟩, .string ⟨D.toArray⟩], .int .i64 0]) (by simp [results, Tryz.results38, go_sem, d0, d1]) rfl ?_
            exact ⟨by rw [HV.out HO.out], below_set2 hb (Nat.le_refl _) _ _⟩
      · subst hB
        cases hp : isD P
        · have HD2 := Lib.hid hp
          rw [hp] at C4
          clear hp
          go_wp2_with fail
          ((with_reducible refine (C4.out.of hG hb).mono ?_); rintro e w4 ⟨rfl, hb4⟩)
          replace hb := bto hb hb4
          replace x2 := x2.below hb4
          clear hb4
          have HV := Lib.hid (HF.out (HP0.out (by first | rfl | trivial) HD2.out))
          clear HW0 HW1 HP0 HN0 HOk HY HF HT HQ HZ HN
          have q0 := x2.c0
          have q1 := x2.c1
          have q2 := x2.f0
          have q3 := x2.f1
          go_wp2
          have hy := x2.set (.string ⟨#[]⟩) (.string ⟨#[]⟩)
          have d0 := hy.c0
          have d1 := hy.c1
          refine bodyPost_ret (v := .tuple #[.agg #[.string ⟨#[]⟩, .string ⟨#[]⟩], .int .i64 3]) (by simp [results, Tryz.results38, go_sem, d0, d1]) rfl ?_
          exact ⟨by rw [HV.out], below_set2 hb (Nat.le_refl _) _ _⟩
        · have HD2 := Lib.hid hp
          rw [hp] at C4
          clear hp
          go_wp2_with fail
          ((with_reducible refine (C4.out.of hG hb).mono ?_); rintro e w4 ⟨rfl, hb4⟩)
          replace hb := bto hb hb4
          replace x2 := x2.below hb4
          clear hb4
          have HA := Lib.hid (HY.out (HWk.out) (.inr HD2.out))
          have hv := val_alldig HA.out
          rw [← HN.out] at hv
          have C5 := Lib.hid (riCanonical (l := W ++ P) (by rw [List.length_append]; omega) hv)
          have hnl := canon_len_le (n : Int) (W ++ P).length (by rw [← hv]; exact val_lt (W ++ P))
          have hnm := canon_len_le (-(n : Int)) (W ++ P).length (by rw [Int.natAbs_neg, ← hv]; exact val_lt (W ++ P))
          rw [List.length_append] at hnl hnm
          clear hv HA
          go_wp2_with fail
          ((with_reducible refine (C5.out.of hG hb).mono ?_); rintro e w5 ⟨rfl, hb5⟩)
          replace hb := bto hb hb5
          replace x2 := x2.below hb5
          clear hb5
          clear hadd C5
          cases ng
          · have hz : z = (n : Int) := HZ.out.trans rfl
            have C6 := Lib.hid (rRepeat (P.length : Int) P.length rfl (by omega))
            have ha1 := str_add [49] (List.replicate P.length 48) (by decide) (by simp; omega)
            have C7 := Lib.hid (rNew (l := canon (n : Int)) (l' := 49 :: List.replicate P.length 48) (by omega) (by simp; omega) (by rw [val_one0]; have := Nat.pow_pos (n := P.length) (show 0 < 10 by decide); omega) (show Rat.divInt (val (canon (n : Int))) (val (49 :: List.replicate P.length 48)) = q by rw [val_canon, val_one0, HQ.out, hz]))
            have HV := Lib.hid HT.out
            have HO := Lib.hid (HOk.out (HWk.out) (.inr HD2.out) (by first | exact .inl rfl | exact .inl trivial))
            clear HW0 HW1 HP0 HN0 HOk HY HF HT HQ HZ HN hz
            generalize fN q = N at *
            generalize fD q = D at *
            generalize hrp : List.replicate P.length (48 : UInt8) = Rp at *
            clear hrp
            go_wp2_with fail
            ((with_reducible refine (C6.out.of hG hb).mono ?_); rintro e w6 ⟨rfl, hb6⟩)
            replace hb := bto hb hb6
            replace x2 := x2.below hb6
            clear hb6
            go_wp2_with fail
            ((with_reducible refine (C7.out.of hG hb).mono ?_); rintro e w7 ⟨rfl, hb7⟩)
            replace hb := bto hb hb7
            replace x2 := x2.below hb7
            clear hb7
            have x10 := FBox.new w7 (.string ⟨N.toArray⟩) (.string ⟨D.toArray⟩) 32
            replace x2 := x2.below (below_alloc w7 (.cells #[.string ⟨N.toArray⟩, .string ⟨D.toArray⟩] 32))
            replace hb := bto hb (below_alloc w7 (.cells #[.string ⟨N.toArray⟩, .string ⟨D.toArray⟩] 32))
            have q0 := x2.c0
            have q1 := x2.c1
            have q2 := x2.f0
            have q3 := x2.f1
            have g0 := x10.c0
            have g1 := x10.c1
            go_wp2
            have hy := x2.set (.string ⟨N.toArray⟩) (.string ⟨D.toArray⟩)
            have d0 := hy.c0
            have d1 := hy.c1
            refine bodyPost_ret (v := .tuple #[.agg #[.string ⟨N.toArray⟩, .string ⟨D.toArray⟩], .int .i64 0]) (by simp [results, Tryz.results38, go_sem, d0, d1]) rfl ?_
            exact ⟨by rw [HV.out HO.out], below_set2 hb (Nat.le_refl _) _ _⟩
          · by_cases h0 : n = 0
            · obtain ⟨e1, e2⟩ := str_nil (z := (n : Int)) (by omega)
              have HV := Lib.hid (HF.out (HN0.out (by first | rfl | trivial) h0))
              clear HW0 HW1 HP0 HN0 HOk HY HF HT HQ HZ HN
              have q0 := x2.c0
              have q1 := x2.c1
              have q2 := x2.f0
              have q3 := x2.f1
              go_wp2
              have hy := x2.set (.string ⟨#[]⟩) (.string ⟨#[]⟩)
              have d0 := hy.c0
              have d1 := hy.c1
              refine bodyPost_ret (v := .tuple #[.agg #[.string ⟨#[]⟩, .string ⟨#[]⟩], .int .i64 3]) (by simp [results, Tryz.results38, go_sem, d0, d1]) rfl ?_
              exact ⟨by rw [HV.out], below_set2 hb (Nat.le_refl _) _ _⟩
            · obtain ⟨e1, e2⟩ := str_ne (z := (n : Int)) (by omega)
              have C8 := Lib.hid (riNeg (l := canon (n : Int)) (by omega) (show -val (canon (n : Int)) = -(n : Int) by rw [val_canon]))
              go_wp2_with fail
              ((with_reducible refine (C8.out.of hG hb).mono ?_); rintro e w8 ⟨rfl, hb8⟩)
              replace hb := bto hb hb8
              replace x2 := x2.below hb8
              clear hb8
              clear e1 e2 C8
              have hz : z = -(n : Int) := HZ.out.trans rfl
              have C6 := Lib.hid (rRepeat (P.length : Int) P.length rfl (by omega))
              have ha1 := str_add [49] (List.replicate P.length 48) (by decide) (by simp; omega)
              have C7 := Lib.hid (rNew (l := canon (-(n : Int))) (l' := 49 :: List.replicate P.length 48) (by omega) (by simp; omega) (by rw [val_one0]; have := Nat.pow_pos (n := P.length) (show 0 < 10 by decide); omega) (show Rat.divInt (val (canon (-(n : Int)))) (val (49 :: List.replicate P.length 48)) = q by rw [val_canon, val_one0, HQ.out, hz]))
              have HV := Lib.hid HT.out
              have HO := Lib.hid (HOk.out (HWk.out) (.inr HD2.out) (.inr h0))
              clear HW0 HW1 HP0 HN0 HOk HY HF HT HQ HZ HN hz
              generalize fN q = N at *
              generalize fD q = D at *
              generalize hrp : List.replicate P.length (48 : UInt8) = Rp at *
              clear hrp
              go_wp2_with fail
              ((with_reducible refine (C6.out.of hG hb).mono ?_); rintro e w6 ⟨rfl, hb6⟩)
              replace hb := bto hb hb6
              replace x2 := x2.below hb6
              clear hb6
              go_wp2_with fail
              ((with_reducible refine (C7.out.of hG hb).mono ?_); rintro e w7 ⟨rfl, hb7⟩)
              replace hb := bto hb hb7
              replace x2 := x2.below hb7
              clear hb7
              have x10 := FBox.new w7 (.string ⟨N.toArray⟩) (.string ⟨D.toArray⟩) 32
              replace x2 := x2.below (below_alloc w7 (.cells #[.string ⟨N.toArray⟩, .string ⟨D.toArray⟩] 32))
              replace hb := bto hb (below_alloc w7 (.cells #[.string ⟨N.toArray⟩, .string ⟨D.toArray⟩] 32))
              have q0 := x2.c0
              have q1 := x2.c1
              have q2 := x2.f0
              have q3 := x2.f1
              have g0 := x10.c0
              have g1 := x10.c1
              go_wp2
              have hy := x2.set (.string ⟨N.toArray⟩) (.string ⟨D.toArray⟩)
              have d0 := hy.c0
              have d1 := hy.c1
              refine bodyPost_ret (v := .tuple #[.agg #[.string ⟨N.toArray⟩, .string ⟨D.toArray⟩], .int .i64 0]) (by simp [results, Tryz.results38, go_sem, d0, d1]) rfl ?_
              exact ⟨by rw [HV.out HO.out], below_set2 hb (Nat.le_refl _) _ _⟩
set_option maxHeartbeats 1000000 in
set_option maxRecDepth 100000 in
theorem dFracLong {s : List UInt8} (hs : 65536 < s.length) (hs2 : s.length ≤ 9223372036854775807) : Ret 38 #[.string ⟨s.toArray⟩] (.tuple #[.agg #[.string ⟨#[]⟩, .string ⟨#[]⟩], .int .i64 4]) := fun w hG => by
  have k0 : decide (65536 < s.length) = true := decide_eq_true (by omega)
  have hb := below_alloc w (.cells #[.string ⟨#[]⟩, .string ⟨#[]⟩] 32)
  go_enter Tryz.func38, Tryz.ntmps38
  go_wp2
  refine bodyPost_ret (v := .tuple #[.agg #[.string ⟨#[]⟩, .string ⟨#[]⟩], .int .i64 4]) (by simp [results, Tryz.results38, go_sem]) rfl ?_
  exact ⟨rfl, hb⟩
end Go.Proofs.YtmmhimgkpfcokaaGreatDoor
