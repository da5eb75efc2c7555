/- Texts put together: Dd De Bs Df Dg Ea Eb Na. -/
import Derived.Test.YtdjjlbfleibhjaaGreatDoorM4
import Derived.Test.YtdjjlbfleibhjaaGreatDoorBe
import Derived.Test.YtdjjlbfleibhjaaGreatDoorCd
import Derived.Shelf.Strings.Trim
import Derived.Shelf.Strconv.Itoa3
import Derived.Shelf.Strings.Search3
import Derived.Shelf.Strings.Prefix
import Derived.Lib.AppendIntMem
import Derived.BigQuiet
namespace Go.Proofs.YtdjjlbfleibhjaaGreatDoor
open Go.RowKit Num
theorem rCutP (s : List UInt8) (hs : s.length ≤ 1000000) : Ret 88 #[.string ⟨s.toArray⟩, .string ⟨#[46]⟩] (.tuple #[.string ⟨(Lib.cut s [46]).1.toArray⟩, .string ⟨(Lib.cut s [46]).2.1.toArray⟩, .bool (Lib.cut s [46]).2.2]) := fun w hG => by
  obtain ⟨m, hm⟩ := hG.2
  have h := Any.strings_Cut { Tryz.laysM145 with } ⟨s.toArray⟩ ⟨#[46]⟩ m w (by show s.toArray.size < _; simp; omega) hm
  exact h.mono fun e w' ⟨he, n, hw⟩ => by
    subst hw
    exact ⟨he, bdrewN (Below.refl _ _) n⟩
theorem rCutPre (s : List UInt8) : Ret 87 #[.string ⟨s.toArray⟩, .string ⟨#[45]⟩] (.tuple #[.string ⟨(rest s).toArray⟩, .bool (isNeg s)]) := fun w hG => by
  refine (cutPrefix_any s w).mono ?_
  rintro e w' ⟨rfl, rfl⟩
  exact ⟨rfl, Below.refl _ _⟩
theorem cut46_len (s : List UInt8) : (Lib.cut s [46]).1.length ≤ s.length ∧ (Lib.cut s [46]).2.1.length ≤ s.length := by
  unfold Lib.cut; split
  · exact ⟨by rw [List.length_take]; omega, by rw [List.length_drop]; omega⟩
  · exact ⟨Nat.le_refl _, Nat.zero_le _⟩
theorem byte_ne {x c : UInt8} (h : ¬ x = c) : ((x.toNat : Int) == (c.toNat : Int)) = false := by
  rw [beq_eq_false_iff_ne]; intro e; exact h (UInt8.toNat_inj.1 (Int.ofNat_inj.1 e))
theorem decW_len (s : List UInt8) : (decW s).length ≤ s.length := Nat.le_trans (cut46_len _).1 (rest_len s)
theorem decP_len (s : List UInt8) : (decP s).length ≤ s.length := Nat.le_trans (cut46_len _).2 (rest_len s)
theorem val_alldig {l : List UInt8} (h : l.all isDig = true) : val l = nat l := by
  have hn := no45_head h
  have hr : rest l = l := by unfold rest; rw [hn]; rfl
  have hd : digs l = sig l := by rw [digs_ok (by rw [hr]; exact h), hr]
  unfold val
  rw [negB_ok (by rw [hr]; exact h), hn, hd, nat_sig]; rfl
theorem val_one0 (k : Nat) : val (49 :: List.replicate k 48) = ((10 ^ k : Nat) : Int) := by
  have h : (49 :: List.replicate k (48 : UInt8)).all isDig = true := by
    rw [List.all_cons, Bool.and_eq_true]
    refine ⟨by decide, ?_⟩
    rw [List.all_eq_true]
    intro x hx
    rw [List.eq_of_mem_replicate hx]; decide
  rw [val_alldig h, nat_cons, nat_zeros, List.length_replicate]
  simp
def decQ (s : List UInt8) : Rat := Rat.divInt (decZ s) ((10 ^ (decP s).length : Nat) : Int)
theorem decB_nil {s : List UInt8} (h : decB s = false) : decP s = [] := by
  unfold decB at h; unfold decP
  rcases cut46_cases (rest s) with ⟨-, hc⟩ | ⟨a, b, -, -, hc⟩
  · rw [hc]
  · rw [hc] at h; cases h
theorem okW_not_dig {l : List UInt8} (h : isD l = false) : okW l = false := by unfold okW; rw [h]; rfl
theorem okW_zero {l : List UInt8} {x : UInt8} (hx : l[0]? = some x) (h1 : 1 < l.length) (h : x = 48) : okW l = false := by
  unfold okW
  have : l.head? = some 48 := by rw [List.head?_eq_getElem?, hx, h]
  rw [this, decide_eq_true h1]; simp
theorem okW_one {l : List UInt8} (hd : isD l = true) (h1 : ¬ 1 < l.length) : okW l = true := by unfold okW; rw [hd, decide_eq_false h1]; rfl
theorem okW_nz {l : List UInt8} {x : UInt8} (hd : isD l = true) (hx : l[0]? = some x) (h : ¬ x = 48) : okW l = true := by
  unfold okW
  have : (l.head? == some 48) = false := by rw [List.head?_eq_getElem?, hx, beq_eq_false_iff_ne]; simpa using h
  rw [hd, this]; simp
theorem decOk_W {s : List UInt8} (h : okW (decW s) = false) : decOk s = false := by unfold decOk; rw [h]; rfl
theorem decOk_P {s : List UInt8} (hb : decB s = true) (h : isD (decP s) = false) : decOk s = false := by unfold decOk; rw [hb, h]; simp
theorem decOk_0 {s : List UInt8} (hn : isNeg s = true) (h : decN' s = 0) : decOk s = false := by unfold decOk; rw [hn, h]; simp
theorem decOk_of {s : List UInt8} (h1 : okW (decW s) = true) (h2 : decB s = false ∨ isD (decP s) = true) (h3 : isNeg s = false ∨ decN' s ≠ 0) : decOk s = true := by
  unfold decOk; rw [h1]
  have a : (!decB s || isD (decP s)) = true := by rcases h2 with h | h <;> rw [h] <;> simp
  have b : (isNeg s && decN' s == 0) = false := by
    rcases h3 with h | h
    · rw [h]; rfl
    · have : (decN' s == 0) = false := by rw [beq_eq_false_iff_ne]; exact h
      rw [this]; simp
  rw [a, b]; rfl
/-- what Fraction returns: the value, and why there is none -/
def FracV (s : List UInt8) : Value := if decOk s = true then .tuple #[(Value.agg #[Value.string ⟨List.toArray (fN (decQ s))⟩, Value.string ⟨List.toArray (fD (decQ s))⟩]), .int .i64 0] else .tuple #[.agg #[.string ⟨#[]⟩, .string ⟨#[]⟩], .int .i64 3]
theorem fracV_t {s : List UInt8} (h : decOk s = true) : FracV s = .tuple #[(Value.agg #[Value.string ⟨List.toArray (fN (decQ s))⟩, Value.string ⟨List.toArray (fD (decQ s))⟩]), .int .i64 0] := if_pos h
theorem fracV_f {s : List UInt8} (h : decOk s = false) : FracV s = .tuple #[.agg #[.string ⟨#[]⟩, .string ⟨#[]⟩], .int .i64 3] := if_neg (by rw [h]; decide)
set_option maxHeartbeats 4000000 in
set_option maxRecDepth 100000 in
theorem dFrac {s : List UInt8} (hs : s.length ≤ 1000) : Ret 30 #[.string ⟨s.toArray⟩] (FracV s) := fun w hG => by
  have k0 : decide (65536 < s.length) = false := decide_eq_false (by omega)
  have k00 : ¬ 65536 < s.length := by omega
  have C1 := Lib.hid (rCutPre s)
  have c2 := rCutP (rest s) (Nat.le_trans (rest_len s) (by omega))
  have C2 : Hid (Ret 88 #[.string ⟨(rest s).toArray⟩, .string ⟨#[46]⟩] (.tuple #[.string ⟨(decW s).toArray⟩, .string ⟨(decP s).toArray⟩, .bool (decB s)])) := c2
  have lW := decW_len s
  have lP := decP_len s
  have C3 := Lib.hid (dDigits (l := decW s) (by omega))
  have C4 := Lib.hid (dDigits (l := decP s) (by omega))
  have hadd := str_add (decW s) (decP s) (by omega) (by omega)
  have hb := below_alloc w (.cells #[.string ⟨#[]⟩, .string ⟨#[]⟩] 42)
  have x2 := FBox.new w (.string ⟨#[]⟩) (.string ⟨#[]⟩) 42
  clear c2
  -- the end: what is known decides it
  have HY : Hid (okW (decW s) = true → (decB s = false ∨ isD (decP s) = true) → (decW s ++ decP s).all isDig = true) := fun h1 h2 => by
    rw [List.all_append, (okW_fmt h1).2.2]
    rcases h2 with h | h
    · rw [decB_nil h]; rfl
    · exact ((isD_iff _).1 h).2
  have HW0 := Lib.hid (fun h => decOk_W (s := s) (okW_not_dig h))
  have HW1 := Lib.hid (fun x h h1 h2 => decOk_W (s := s) (okW_zero (x := x) h h1 h2))
  have HP0 := Lib.hid (decOk_P (s := s))
  have HN0 := Lib.hid (decOk_0 (s := s))
  have HOk := Lib.hid (decOk_of (s := s))
  have HF := Lib.hid (fracV_f (s := s))
  have HT := Lib.hid (fracV_t (s := s))
  have HQ : Hid (decQ s = Rat.divInt (decZ s) ((10 ^ (decP s).length : Nat) : Int)) := rfl
  have HZ : Hid (decZ s = if isNeg s then -(decN' s : Int) else (decN' s : Int)) := rfl
  have HN : Hid (decN' s = nat (decW s ++ decP s)) := rfl
  generalize decQ s = q at *
  generalize decZ s = z at *
  generalize decN' s = n at *
  generalize decOk s = ok at *
  generalize decW s = W at *
  generalize decP s = P at *
  generalize decB s = B at *
  generalize rest s = R at *
  generalize FracV s = V at *
  generalize isNeg s = ng at *
  go_enter Tryz.func30, Tryz.ntmps30
  go_wp2_with fail
  ((with_reducible refine (C1.out.of hG hb).mono ?_); rintro e w1 ⟨rfl, hb1⟩)
  replace hb := bto hb hb1
  replace x2 := x2.below hb1
  clear hb1
  go_wp2_with fail
  ((with_reducible refine (C2.out.of hG hb).mono ?_); rintro e w2 ⟨rfl, hb2⟩)
  replace hb := bto hb hb2
  replace x2 := x2.below hb2
  clear hb2
  cases hd : isD W
  · have HD := Lib.hid hd
    rw [hd] at C3
    clear hd
    go_wp2_with fail
    ((with_reducible refine (C3.out.of hG hb).mono ?_); rintro e w3 ⟨rfl, hb3⟩)
    replace hb := bto hb hb3
    replace x2 := x2.below hb3
    clear hb3
    have HV := Lib.hid (HF.out (HW0.out HD.out))
    clear HW0 HW1 HP0 HN0 HOk HY HF HT HQ HZ HN
    have q0 := x2.c0
    have q1 := x2.c1
    have q2 := x2.f0
    have q3 := x2.f1
    go_wp2
    have hy := x2.set (.string ⟨#[]⟩) (.string ⟨#[]⟩)
    have d0 := hy.c0
    have d1 := hy.c1
    refine bodyPost_ret (v := .tuple #[.agg #[.string ⟨#[]⟩, .string ⟨#[]⟩], .int .i64 3]) (by simp [results, Tryz.results30, go_sem, d0, d1]) rfl ?_
    exact ⟨by rw [HV.out], below_set2 hb (Nat.le_refl _) _ _⟩
  · have HD := Lib.hid hd
    rw [hd] at C3
    clear hd
    go_wp2_with fail
    ((with_reducible refine (C3.out.of hG hb).mono ?_); rintro e w3 ⟨rfl, hb3⟩)
    replace hb := bto hb hb3
    replace x2 := x2.below hb3
    clear hb3
    have hne : W ≠ [] := ((isD_iff W).1 HD.out).1
    have hlt : 0 < W.length := List.length_pos_iff.2 hne
    clear hne
    have hlt' : 0 < (⟨W.toArray⟩ : ByteArray).size := by show 0 < W.toArray.size; simpa using hlt
    obtain ⟨x, hx⟩ : ∃ x, x = (⟨W.toArray⟩ : ByteArray)[0] := ⟨_, rfl⟩
    have hxl : W[0]? = some x := by rw [hx]; simp [hlt]; rfl
    have HX := Lib.hid hxl
    clear hxl
    have hx2 : ∀ hp, (⟨W.toArray⟩ : ByteArray)[0]'hp = x := fun _ => hx.symm
    clear hx
    by_cases g1 : 1 < W.length
    · have g1' : decide (1 < W.length) = true := decide_eq_true g1
      by_cases hx48 : x = 48
      · have e48 : ((x.toNat : Int) == 48) = true := by rw [hx48]; rfl
        have HV := Lib.hid (HF.out (HW1.out x HX.out g1 hx48))
        clear HW0 HW1 HP0 HN0 HOk HY HF HT HQ HZ HN
        have q0 := x2.c0
        have q1 := x2.c1
        have q2 := x2.f0
        have q3 := x2.f1
        go_wp2
        have hy := x2.set (.string ⟨#[]⟩) (.string ⟨#[]⟩)
        have d0 := hy.c0
        have d1 := hy.c1
        refine bodyPost_ret (v := .tuple #[.agg #[.string ⟨#[]⟩, .string ⟨#[]⟩], .int .i64 3]) (by simp [results, Tryz.results30, go_sem, d0, d1]) rfl ?_
        exact ⟨by rw [HV.out], below_set2 hb (Nat.le_refl _) _ _⟩
      · have e48 : ((x.toNat : Int) == 48) = false := byte_ne hx48
        have HWk := Lib.hid (okW_nz HD.out HX.out hx48)
        cases hB : B
        · subst hB
          have HA := Lib.hid (HY.out (HWk.out) (by first | exact .inl rfl | exact .inl trivial))
          have hv := val_alldig HA.out
          rw [← HN.out] at hv
          have C5 := Lib.hid (riCanonical (l := W ++ P) (by rw [List.length_append]; omega) hv)
          have hnl := canon_len_le (n : Int) (W ++ P).length (by rw [← hv]; exact val_lt (W ++ P))
          have hnm := canon_len_le (-(n : Int)) (W ++ P).length (by rw [Int.natAbs_neg, ← hv]; exact val_lt (W ++ P))
          rw [List.length_append] at hnl hnm
          clear hv HA
          go_wp2_with fail
          ((with_reducible refine (C5.out.of hG hb).mono ?_); rintro e w5 ⟨rfl, hb5⟩)
          replace hb := bto hb hb5
          replace x2 := x2.below hb5
          clear hb5
          clear hadd C5
          cases ng
          · have hz : z = (n : Int) := HZ.out.trans rfl
            have C6 := Lib.hid (rRepeat (P.length : Int) P.length rfl (by omega))
            have ha1 := str_add [49] (List.replicate P.length 48) (by decide) (by simp; omega)
            have C7 := Lib.hid (rNew (l := canon (n : Int)) (l' := 49 :: List.replicate P.length 48) (by omega) (by simp; omega) (by rw [val_one0]; have := Nat.pow_pos (n := P.length) (show 0 < 10 by decide); omega) (show Rat.divInt (val (canon (n : Int))) (val (49 :: List.replicate P.length 48)) = q by rw [val_canon, val_one0, HQ.out, hz]))
            have HV := Lib.hid HT.out
            have HO := Lib.hid (HOk.out (HWk.out) (by first | exact .inl rfl | exact .inl trivial) (by first | exact .inl rfl | exact .inl trivial))
            clear HW0 HW1 HP0 HN0 HOk HY HF HT HQ HZ HN hz
            generalize fN q = N at *
            generalize fD q = D at *
            generalize hrp : List.replicate P.length (48 : UInt8) = Rp at *
            clear hrp
            go_wp2_with fail
            ((with_reducible refine (C6.out.of hG hb).mono ?_); rintro e w6 ⟨rfl, hb6⟩)
            replace hb := bto hb hb6
            replace x2 := x2.below hb6
            clear hb6
            go_wp2_with fail
            ((with_reducible refine (C7.out.of hG hb).mono ?_); rintro e w7 ⟨rfl, hb7⟩)
            replace hb := bto hb hb7
            replace x2 := x2.below hb7
            clear hb7
            have x10 := FBox.new w7 (.string ⟨N.toArray⟩) (.string ⟨D.toArray⟩) 42
            replace x2 := x2.below (below_alloc w7 (.cells #[.string ⟨N.toArray⟩, .string ⟨D.toArray⟩] 42))
            replace hb := bto hb (below_alloc w7 (.cells #[.string ⟨N.toArray⟩, .string ⟨D.toArray⟩] 42))
            have q0 := x2.c0
            have q1 := x2.c1
            have q2 := x2.f0
            have q3 := x2.f1
            have g0 := x10.c0
            have g1 := x10.c1
            go_wp2
            have hy := x2.set (.string ⟨N.toArray⟩) (.string ⟨D.toArray⟩)
            have d0 := hy.c0
            have d1 := hy.c1
            refine bodyPost_ret (v := .tuple #[.agg #[.string ⟨N.toArray⟩, .string ⟨D.toArray⟩], .int .i64 0]) (by simp [results, Tryz.results30, go_sem, d0, d1]) rfl ?_
            exact ⟨by rw [HV.out HO.out], below_set2 hb (Nat.le_refl _) _ _⟩
          · by_cases h0 : n = 0
            · obtain ⟨e1, e2⟩ := str_nil (z := (n : Int)) (by omega)
              have HV := Lib.hid (HF.out (HN0.out (by first | rfl | trivial) h0))
              clear HW0 HW1 HP0 HN0 HOk HY HF HT HQ HZ HN
              have q0 := x2.c0
              have q1 := x2.c1
              have q2 := x2.f0
              have q3 := x2.f1
              go_wp2
              have hy := x2.set (.string ⟨#[]⟩) (.string ⟨#[]⟩)
              have d0 := hy.c0
              have d1 := hy.c1
              refine bodyPost_ret (v := .tuple #[.agg #[.string ⟨#[]⟩, .string ⟨#[]⟩], .int .i64 3]) (by simp [results, Tryz.results30, go_sem, d0, d1]) rfl ?_
              exact ⟨by rw [HV.out], below_set2 hb (Nat.le_refl _) _ _⟩
            · obtain ⟨e1, e2⟩ := str_ne (z := (n : Int)) (by omega)
              have C8 := Lib.hid (riNeg (l := canon (n : Int)) (by omega) (show -val (canon (n : Int)) = -(n : Int) by rw [val_canon]))
              go_wp2_with fail
              ((with_reducible refine (C8.out.of hG hb).mono ?_); rintro e w8 ⟨rfl, hb8⟩)
              replace hb := bto hb hb8
              replace x2 := x2.below hb8
              clear hb8
              clear e1 e2 C8
              have hz : z = -(n : Int) := HZ.out.trans rfl
              have C6 := Lib.hid (rRepeat (P.length : Int) P.length rfl (by omega))
              have ha1 := str_add [49] (List.replicate P.length 48) (by decide) (by simp; omega)
              have C7 := Lib.hid (rNew (l := canon (-(n : Int))) (l' := 49 :: List.replicate P.length 48) (by omega) (by simp; omega) (by rw [val_one0]; have := Nat.pow_pos (n := P.length) (show 0 < 10 by decide); omega) (show Rat.divInt (val (canon (-(n : Int)))) (val (49 :: List.replicate P.length 48)) = q by rw [val_canon, val_one0, HQ.out, hz]))
              have HV := Lib.hid HT.out
              have HO := Lib.hid (HOk.out (HWk.out) (by first | exact .inl rfl | exact .inl trivial) (.inr h0))
              clear HW0 HW1 HP0 HN0 HOk HY HF HT HQ HZ HN hz
              generalize fN q = N at *
              generalize fD q = D at *
              generalize hrp : List.replicate P.length (48 : UInt8) = Rp at *
              clear hrp
              go_wp2_with fail
              ((with_reducible refine (C6.out.of hG hb).mono ?_); rintro e w6 ⟨rfl, hb6⟩)
              replace hb := bto hb hb6
              replace x2 := x2.below hb6
              clear hb6
              go_wp2_with fail
              ((with_reducible refine (C7.out.of hG hb).mono ?_); rintro e w7 ⟨rfl, hb7⟩)
              replace hb := bto hb hb7
              replace x2 := x2.below hb7
              clear hb7
              have x10 := FBox.new w7 (.string ⟨N.toArray⟩) (.string ⟨D.toArray⟩) 42
              replace x2 := x2.below (below_alloc w7 (.cells #[.string ⟨N.toArray⟩, .string ⟨D.toArray⟩] 42))
              replace hb := bto hb (below_alloc w7 (.cells #[.string ⟨N.toArray⟩, .string ⟨D.toArray⟩] 42))
              have q0 := x2.c0
              have q1 := x2.c1
              have q2 := x2.f0
              have q3 := x2.f1
              have g0 := x10.c0
              have g1 := x10.c1
              go_wp2
              have hy := x2.set (.string ⟨N.toArray⟩) (.string ⟨D.toArray⟩)
              have d0 := hy.c0
              have d1 := hy.c1
              refine bodyPost_ret (v := .tuple #[.agg #[.string ⟨N.toArray⟩, .string ⟨D.toArray⟩], .int .i64 0]) (by simp [results, Tryz.results30, go_sem, d0, d1]) rfl ?_
              exact ⟨by rw [HV.out HO.out], below_set2 hb (Nat.le_refl _) _ _⟩
        · subst hB
          cases hp : isD P
          · have HD2 := Lib.hid hp
            rw [hp] at C4
            clear hp
            go_wp2_with fail
            ((with_reducible refine (C4.out.of hG hb).mono ?_); rintro e w4 ⟨rfl, hb4⟩)
            replace hb := bto hb hb4
            replace x2 := x2.below hb4
            clear hb4
            have HV := Lib.hid (HF.out (HP0.out (by first | rfl | trivial) HD2.out))
            clear HW0 HW1 HP0 HN0 HOk HY HF HT HQ HZ HN
            have q0 := x2.c0
            have q1 := x2.c1
            have q2 := x2.f0
            have q3 := x2.f1
            go_wp2
            have hy := x2.set (.string ⟨#[]⟩) (.string ⟨#[]⟩)
            have d0 := hy.c0
            have d1 := hy.c1
            refine bodyPost_ret (v := .tuple #[.agg #[.string ⟨#[]⟩, .string ⟨#[]⟩], .int .i64 3]) (by simp [results, Tryz.results30, go_sem, d0, d1]) rfl ?_
            exact ⟨by rw [HV.out], below_set2 hb (Nat.le_refl _) _ _⟩
          · have HD2 := Lib.hid hp
            rw [hp] at C4
            clear hp
            go_wp2_with fail
            ((with_reducible refine (C4.out.of hG hb).mono ?_); rintro e w4 ⟨rfl, hb4⟩)
            replace hb := bto hb hb4
            replace x2 := x2.below hb4
            clear hb4
            have HA := Lib.hid (HY.out (HWk.out) (.inr HD2.out))
            have hv := val_alldig HA.out
            rw [← HN.out] at hv
            have C5 := Lib.hid (riCanonical (l := W ++ P) (by rw [List.length_append]; omega) hv)
            have hnl := canon_len_le (n : Int) (W ++ P).length (by rw [← hv]; exact val_lt (W ++ P))
            have hnm := canon_len_le (-(n : Int)) (W ++ P).length (by rw [Int.natAbs_neg, ← hv]; exact val_lt (W ++ P))
            rw [List.length_append] at hnl hnm
            clear hv HA
            go_wp2_with fail
            ((with_reducible refine (C5.out.of hG hb).mono ?_); rintro e w5 ⟨rfl, hb5⟩)
            replace hb := bto hb hb5
            replace x2 := x2.below hb5
            clear hb5
            clear hadd C5
            cases ng
            · have hz : z = (n : Int) := HZ.out.trans rfl
              have C6 := Lib.hid (rRepeat (P.length : Int) P.length rfl (by omega))
              have ha1 := str_add [49] (List.replicate P.length 48) (by decide) (by simp; omega)
              have C7 := Lib.hid (rNew (l := canon (n : Int)) (l' := 49 :: List.replicate P.length 48) (by omega) (by simp; omega) (by rw [val_one0]; have := Nat.pow_pos (n := P.length) (show 0 < 10 by decide); omega) (show Rat.divInt (val (canon (n : Int))) (val (49 :: List.replicate P.length 48)) = q by rw [val_canon, val_one0, HQ.out, hz]))
              have HV := Lib.hid HT.out
              have HO := Lib.hid (HOk.out (HWk.out) (.inr HD2.out) (by first | exact .inl rfl | exact .inl trivial))
              clear HW0 HW1 HP0 HN0 HOk HY HF HT HQ HZ HN hz
              generalize fN q = N at *
              generalize fD q = D at *
              generalize hrp : List.replicate P.length (48 : UInt8) = Rp at *
              clear hrp
              go_wp2_with fail
              ((with_reducible refine (C6.out.of hG hb).mono ?_); rintro e w6 ⟨rfl, hb6⟩)
              replace hb := bto hb hb6
              replace x2 := x2.below hb6
              clear hb6
              go_wp2_with fail
              ((with_reducible refine (C7.out.of hG hb).mono ?_); rintro e w7 ⟨rfl, hb7⟩)
              replace hb := bto hb hb7
              replace x2 := x2.below hb7
              clear hb7
              have x10 := FBox.new w7 (.string ⟨N.toArray⟩) (.string ⟨D.toArray⟩) 42
              replace x2 := x2.below (below_alloc w7 (.cells #[.string ⟨N.toArray⟩, .string ⟨D.toArray⟩] 42))
              replace hb := bto hb (below_alloc w7 (.cells #[.string ⟨N.toArray⟩, .string ⟨D.toArray⟩] 42))
              have q0 := x2.c0
              have q1 := x2.c1
              have q2 := x2.f0
              have q3 := x2.f1
              have g0 := x10.c0
              have g1 := x10.c1
              go_wp2
              have hy := x2.set (.string ⟨N.toArray⟩) (.string ⟨D.toArray⟩)
              have d0 := hy.c0
              have d1 := hy.c1
              refine bodyPost_ret (v := .tuple #[.agg #[.string ⟨N.toArray⟩, .string ⟨D.toArray⟩], .int .i64 0]) (by simp [results, Tryz.results30, go_sem, d0, d1]) rfl ?_
              exact ⟨by rw [HV.out HO.out], below_set2 hb (Nat.le_refl _) _ _⟩
            · by_cases h0 : n = 0
              · obtain ⟨e1, e2⟩ := str_nil (z := (n : Int)) (by omega)
                have HV := Lib.hid (HF.out (HN0.out (by first | rfl | trivial) h0))
                clear HW0 HW1 HP0 HN0 HOk HY HF HT HQ HZ HN
                have q0 := x2.c0
                have q1 := x2.c1
                have q2 := x2.f0
                have q3 := x2.f1
                go_wp2
                have hy := x2.set (.string ⟨#[]⟩) (.string ⟨#[]⟩)
                have d0 := hy.c0
                have d1 := hy.c1
                refine bodyPost_ret (v := .tuple #[.agg #[.string ⟨#[]⟩, .string ⟨#[]⟩], .int .i64 3]) (by simp [results, Tryz.results30, go_sem, d0, d1]) rfl ?_
                exact ⟨by rw [HV.out], below_set2 hb (Nat.le_refl _) _ _⟩
              · obtain ⟨e1, e2⟩ := str_ne (z := (n : Int)) (by omega)
                have C8 := Lib.hid (riNeg (l := canon (n : Int)) (by omega) (show -val (canon (n : Int)) = -(n : Int) by rw [val_canon]))
                go_wp2_with fail
                ((with_reducible refine (C8.out.of hG hb).mono ?_); rintro e w8 ⟨rfl, hb8⟩)
                replace hb := bto hb hb8
                replace x2 := x2.below hb8
                clear hb8
                clear e1 e2 C8
                have hz : z = -(n : Int) := HZ.out.trans rfl
                have C6 := Lib.hid (rRepeat (P.length : Int) P.length rfl (by omega))
                have ha1 := str_add [49] (List.replicate P.length 48) (by decide) (by simp; omega)
                have C7 := Lib.hid (rNew (l := canon (-(n : Int))) (l' := 49 :: List.replicate P.length 48) (by omega) (by simp; omega) (by rw [val_one0]; have := Nat.pow_pos (n := P.length) (show 0 < 10 by decide); omega) (show Rat.divInt (val (canon (-(n : Int)))) (val (49 :: List.replicate P.length 48)) = q by rw [val_canon, val_one0, HQ.out, hz]))
                have HV := Lib.hid HT.out
                have HO := Lib.hid (HOk.out (HWk.out) (.inr HD2.out) (.inr h0))
                clear HW0 HW1 HP0 HN0 HOk HY HF HT HQ HZ HN hz
                generalize fN q = N at *
                generalize fD q = D at *
                generalize hrp : List.replicate P.length (48 : UInt8) = Rp at *
                clear hrp
                go_wp2_with fail
                ((with_reducible refine (C6.out.of hG hb).mono ?_); rintro e w6 ⟨rfl, hb6⟩)
                replace hb := bto hb hb6
                replace x2 := x2.below hb6
                clear hb6
                go_wp2_with fail
                ((with_reducible refine (C7.out.of hG hb).mono ?_); rintro e w7 ⟨rfl, hb7⟩)
                replace hb := bto hb hb7
                replace x2 := x2.below hb7
                clear hb7
                have x10 := FBox.new w7 (.string ⟨N.toArray⟩) (.string ⟨D.toArray⟩) 42
                replace x2 := x2.below (below_alloc w7 (.cells #[.string ⟨N.toArray⟩, .string ⟨D.toArray⟩] 42))
                replace hb := bto hb (below_alloc w7 (.cells #[.string ⟨N.toArray⟩, .string ⟨D.toArray⟩] 42))
                have q0 := x2.c0
                have q1 := x2.c1
                have q2 := x2.f0
                have q3 := x2.f1
                have g0 := x10.c0
                have g1 := x10.c1
                go_wp2
                have hy := x2.set (.string ⟨N.toArray⟩) (.string ⟨D.toArray⟩)
                have d0 := hy.c0
                have d1 := hy.c1
                refine bodyPost_ret (v := .tuple #[.agg #[.string ⟨N.toArray⟩, .string ⟨D.toArray⟩], .int .i64 0]) (by simp [results, Tryz.results30, go_sem, d0, d1]) rfl ?_
                exact ⟨by rw [HV.out HO.out], below_set2 hb (Nat.le_refl _) _ _⟩
    · have g1' : decide (1 < W.length) = false := decide_eq_false g1
      have HWk := Lib.hid (okW_one HD.out g1)
      cases hB : B
      · subst hB
        have HA := Lib.hid (HY.out (HWk.out) (by first | exact .inl rfl | exact .inl trivial))
        have hv := val_alldig HA.out
        rw [← HN.out] at hv
        have C5 := Lib.hid (riCanonical (l := W ++ P) (by rw [List.length_append]; omega) hv)
        have hnl := canon_len_le (n : Int) (W ++ P).length (by rw [← hv]; exact val_lt (W ++ P))
        have hnm := canon_len_le (-(n : Int)) (W ++ P).length (by rw [Int.natAbs_neg, ← hv]; exact val_lt (W ++ P))
        rw [List.length_append] at hnl hnm
        clear hv HA
        go_wp2_with fail
        ((with_reducible refine (C5.out.of hG hb).mono ?_); rintro e w5 ⟨rfl, hb5⟩)
        replace hb := bto hb hb5
        replace x2 := x2.below hb5
        clear hb5
        clear hadd C5
        cases ng
        · have hz : z = (n : Int) := HZ.out.trans rfl
          have C6 := Lib.hid (rRepeat (P.length : Int) P.length rfl (by omega))
          have ha1 := str_add [49] (List.replicate P.length 48) (by decide) (by simp; omega)
          have C7 := Lib.hid (rNew (l := canon (n : Int)) (l' := 49 :: List.replicate P.length 48) (by omega) (by simp; omega) (by rw [val_one0]; have := Nat.pow_pos (n := P.length) (show 0 < 10 by decide); omega) (show Rat.divInt (val (canon (n : Int))) (val (49 :: List.replicate P.length 48)) = q by rw [val_canon, val_one0, HQ.out, hz]))
          have HV := Lib.hid HT.out
          have HO := Lib.hid (HOk.out (HWk.out) (by first | exact .inl rfl | exact .inl trivial) (by first | exact .inl rfl | exact .inl trivial))
          clear HW0 HW1 HP0 HN0 HOk HY HF HT HQ HZ HN hz
          generalize fN q = N at *
          generalize fD q = D at *
          generalize hrp : List.replicate P.length (48 : UInt8) = Rp at *
          clear hrp
          go_wp2_with fail
          ((with_reducible refine (C6.out.of hG hb).mono ?_); rintro e w6 ⟨rfl, hb6⟩)
          replace hb := bto hb hb6
          replace x2 := x2.below hb6
          clear hb6
          go_wp2_with fail
          ((with_reducible refine (C7.out.of hG hb).mono ?_); rintro e w7 ⟨rfl, hb7⟩)
          replace hb := bto hb hb7
          replace x2 := x2.below hb7
          clear hb7
          have x10 := FBox.new w7 (.string ⟨N.toArray⟩) (.string ⟨D.toArray⟩) 42
          replace x2 := x2.below (below_alloc w7 (.cells #[.string ⟨N.toArray⟩, .string ⟨D.toArray⟩] 42))
          replace hb := bto hb (below_alloc w7 (.cells #[.string ⟨N.toArray⟩, .string ⟨D.toArray⟩] 42))
          have q0 := x2.c0
          have q1 := x2.c1
          have q2 := x2.f0
          have q3 := x2.f1
          have g0 := x10.c0
          have g1 := x10.c1
          go_wp2
          have hy := x2.set (.string ⟨N.toArray⟩) (.string ⟨D.toArray⟩)
          have d0 := hy.c0
          have d1 := hy.c1
          refine bodyPost_ret (v := .tuple #[.agg #[.string ⟨N.toArray⟩, .string ⟨D.toArray⟩], .int .i64 0]) (by simp [results, Tryz.results30, go_sem, d0, d1]) rfl ?_
          exact ⟨by rw [HV.out HO.out], below_set2 hb (Nat.le_refl _) _ _⟩
        · by_cases h0 : n = 0
          · obtain ⟨e1, e2⟩ := str_nil (z := (n : Int)) (by omega)
            have HV := Lib.hid (HF.out (HN0.out (by first | rfl | trivial) h0))
            clear HW0 HW1 HP0 HN0 HOk HY HF HT HQ HZ HN
            have q0 := x2.c0
            have q1 := x2.c1
            have q2 := x2.f0
            have q3 := x2.f1
            go_wp2
            have hy := x2.set (.string ⟨#[]⟩) (.string ⟨#[]⟩)
            have d0 := hy.c0
            have d1 := hy.c1
            refine bodyPost_ret (v := .tuple #[.agg #[.string ⟨#[]⟩, .string ⟨#[]⟩], .int .i64 3]) (by simp [results, Tryz.results30, go_sem, d0, d1]) rfl ?_
            exact ⟨by rw [HV.out], below_set2 hb (Nat.le_refl _) _ _⟩
          · obtain ⟨e1, e2⟩ := str_ne (z := (n : Int)) (by omega)
            have C8 := Lib.hid (riNeg (l := canon (n : Int)) (by omega) (show -val (canon (n : Int)) = -(n : Int) by rw [val_canon]))
            go_wp2_with fail
            ((with_reducible refine (C8.out.of hG hb).mono ?_); rintro e w8 ⟨rfl, hb8⟩)
            replace hb := bto hb hb8
            replace x2 := x2.below hb8
            clear hb8
            clear e1 e2 C8
            have hz : z = -(n : Int) := HZ.out.trans rfl
            have C6 := Lib.hid (rRepeat (P.length : Int) P.length rfl (by omega))
            have ha1 := str_add [49] (List.replicate P.length 48) (by decide) (by simp; omega)
            have C7 := Lib.hid (rNew (l := canon (-(n : Int))) (l' := 49 :: List.replicate P.length 48) (by omega) (by simp; omega) (by rw [val_one0]; have := Nat.pow_pos (n := P.length) (show 0 < 10 by decide); omega) (show Rat.divInt (val (canon (-(n : Int)))) (val (49 :: List.replicate P.length 48)) = q by rw [val_canon, val_one0, HQ.out, hz]))
            have HV := Lib.hid HT.out
            have HO := Lib.hid (HOk.out (HWk.out) (by first | exact .inl rfl | exact .inl trivial) (.inr h0))
            clear HW0 HW1 HP0 HN0 HOk HY HF HT HQ HZ HN hz
            generalize fN q = N at *
            generalize fD q = D at *
            generalize hrp : List.replicate P.length (48 : UInt8) = Rp at *
            clear hrp
            go_wp2_with fail
            ((with_reducible refine (C6.out.of hG hb).mono ?_); rintro e w6 ⟨rfl, hb6⟩)
            replace hb := bto hb hb6
            replace x2 := x2.below hb6
            clear hb6
            go_wp2_with fail
            ((with_reducible refine (C7.out.of hG hb).mono ?_); rintro e w7 ⟨rfl, hb7⟩)
            replace hb := bto hb hb7
            replace x2 := x2.below hb7
            clear hb7
            have x10 := FBox.new w7 (.string ⟨N.toArray⟩) (.string ⟨D.toArray⟩) 42
            replace x2 := x2.below (below_alloc w7 (.cells #[.string ⟨N.toArray⟩, .string ⟨D.toArray⟩] 42))
            replace hb := bto hb (below_alloc w7 (.cells #[.string ⟨N.toArray⟩, .string ⟨D.toArray⟩] 42))
            have q0 := x2.c0
            have q1 := x2.c1
            have q2 := x2.f0
            have q3 := x2.f1
            have g0 := x10.c0
            have g1 := x10.c1
            go_wp2
            have hy := x2.set (.string ⟨N.toArray⟩) (.string ⟨D.toArray⟩)
            have d0 := hy.c0
            have d1 := hy.c1
            refine bodyPost_ret (v := .tuple #[.agg #[.string ⟨N.toArray⟩, .string ⟨D.toArray⟩], .int .i64 0]) (by simp [results, Tryz.results30, go_sem, d0, d1]) rfl ?_
            exact ⟨by rw [HV.out HO.out], below_set2 hb (Nat.le_refl _) _ _⟩
      · subst hB
        cases hp : isD P
        · have HD2 := Lib.hid hp
          rw [hp] at C4
          clear hp
          go_wp2_with fail
          ((with_reducible refine (C4.out.of hG hb).mono ?_); rintro e w4 ⟨rfl, hb4⟩)
          replace hb := bto hb hb4
          replace x2 := x2.below hb4
          clear hb4
          have HV := Lib.hid (HF.out (HP0.out (by first | rfl | trivial) HD2.out))
          clear HW0 HW1 HP0 HN0 HOk HY HF HT HQ HZ HN
          have q0 := x2.c0
          have q1 := x2.c1
          have q2 := x2.f0
          have q3 := x2.f1
          go_wp2
          have hy := x2.set (.string ⟨#[]⟩) (.string ⟨#[]⟩)
          have d0 := hy.c0
          have d1 := hy.c1
          refine bodyPost_ret (v := .tuple #[.agg #[.string ⟨#[]⟩, .string ⟨#[]⟩], .int .i64 3]) (by simp [results, Tryz.results30, go_sem, d0, d1]) rfl ?_
          exact ⟨by rw [HV.out], below_set2 hb (Nat.le_refl _) _ _⟩
        · have HD2 := Lib.hid hp
          rw [hp] at C4
          clear hp
          go_wp2_with fail
          ((with_reducible refine (C4.out.of hG hb).mono ?_); rintro e w4 ⟨rfl, hb4⟩)
          replace hb := bto hb hb4
          replace x2 := x2.below hb4
          clear hb4
          have HA := Lib.hid (HY.out (HWk.out) (.inr HD2.out))
          have hv := val_alldig HA.out
          rw [← HN.out] at hv
          have C5 := Lib.hid (riCanonical (l := W ++ P) (by rw [List.length_append]; omega) hv)
          have hnl := canon_len_le (n : Int) (W ++ P).length (by rw [← hv]; exact val_lt (W ++ P))
          have hnm := canon_len_le (-(n : Int)) (W ++ P).length (by rw [Int.natAbs_neg, ← hv]; exact val_lt (W ++ P))
          rw [List.length_append] at hnl hnm
          clear hv HA
          go_wp2_with fail
          ((with_reducible refine (C5.out.of hG hb).mono ?_); rintro e w5 ⟨rfl, hb5⟩)
          replace hb := bto hb hb5
          replace x2 := x2.below hb5
          clear hb5
          clear hadd C5
          cases ng
          · have hz : z = (n : Int) := HZ.out.trans rfl
            have C6 := Lib.hid (rRepeat (P.length : Int) P.length rfl (by omega))
            have ha1 := str_add [49] (List.replicate P.length 48) (by decide) (by simp; omega)
            have C7 := Lib.hid (rNew (l := canon (n : Int)) (l' := 49 :: List.replicate P.length 48) (by omega) (by simp; omega) (by rw [val_one0]; have := Nat.pow_pos (n := P.length) (show 0 < 10 by decide); omega) (show Rat.divInt (val (canon (n : Int))) (val (49 :: List.replicate P.length 48)) = q by rw [val_canon, val_one0, HQ.out, hz]))
            have HV := Lib.hid HT.out
            have HO := Lib.hid (HOk.out (HWk.out) (.inr HD2.out) (by first | exact .inl rfl | exact .inl trivial))
            clear HW0 HW1 HP0 HN0 HOk HY HF HT HQ HZ HN hz
            generalize fN q = N at *
            generalize fD q = D at *
            generalize hrp : List.replicate P.length (48 : UInt8) = Rp at *
            clear hrp
            go_wp2_with fail
            ((with_reducible refine (C6.out.of hG hb).mono ?_); rintro e w6 ⟨rfl, hb6⟩)
            replace hb := bto hb hb6
            replace x2 := x2.below hb6
            clear hb6
            go_wp2_with fail
            ((with_reducible refine (C7.out.of hG hb).mono ?_); rintro e w7 ⟨rfl, hb7⟩)
            replace hb := bto hb hb7
            replace x2 := x2.below hb7
            clear hb7
            have x10 := FBox.new w7 (.string ⟨N.toArray⟩) (.string ⟨D.toArray⟩) 42
            replace x2 := x2.below (below_alloc w7 (.cells #[.string ⟨N.toArray⟩, .string ⟨D.toArray⟩] 42))
            replace hb := bto hb (below_alloc w7 (.cells #[.string ⟨N.toArray⟩, .string ⟨D.toArray⟩] 42))
            have q0 := x2.c0
            have q1 := x2.c1
            have q2 := x2.f0
            have q3 := x2.f1
            have g0 := x10.c0
            have g1 := x10.c1
            go_wp2
            have hy := x2.set (.string ⟨N.toArray⟩) (.string ⟨D.toArray⟩)
            have d0 := hy.c0
            have d1 := hy.c1
            refine bodyPost_ret (v := .tuple #[.agg #[.string ⟨N.toArray⟩, .string ⟨D.toArray⟩], .int .i64 0]) (by simp [results, Tryz.results30, go_sem, d0, d1]) rfl ?_
            exact ⟨by rw [HV.out HO.out], below_set2 hb (Nat.le_refl _) _ _⟩
          · by_cases h0 : n = 0
            · obtain ⟨e1, e2⟩ := str_nil (z := (n : Int)) (by omega)
              have HV := Lib.hid (HF.out (HN0.out (by first | rfl | trivial) h0))
              clear HW0 HW1 HP0 HN0 HOk HY HF HT HQ HZ HN
              have q0 := x2.c0
              have q1 := x2.c1
              have q2 := x2.f0
              have q3 := x2.f1
              go_wp2
              have hy := x2.set (.string ⟨#[]⟩) (.string ⟨#[]⟩)
              have d0 := hy.c0
              have d1 := hy.c1
              refine bodyPost_ret (v := .tuple #[.agg #[.string ⟨#[]⟩, .string ⟨#[]⟩], .int .i64 3]) (by simp [results, Tryz.results30, go_sem, d0, d1]) rfl ?_
              exact ⟨by rw [HV.out], below_set2 hb (Nat.le_refl _) _ _⟩
            · obtain ⟨e1, e2⟩ := str_ne (z := (n : Int)) (by omega)
              have C8 := Lib.hid (riNeg (l := canon (n : Int)) (by omega) (show -val (canon (n : Int)) = -(n : Int) by rw [val_canon]))
              go_wp2_with fail
              ((with_reducible refine (C8.out.of hG hb).mono ?_); rintro e w8 ⟨rfl, hb8⟩)
              replace hb := bto hb hb8
              replace x2 := x2.below hb8
              clear hb8
              clear e1 e2 C8
              have hz : z = -(n : Int) := HZ.out.trans rfl
              have C6 := Lib.hid (rRepeat (P.length : Int) P.length rfl (by omega))
              have ha1 := str_add [49] (List.replicate P.length 48) (by decide) (by simp; omega)
              have C7 := Lib.hid (rNew (l := canon (-(n : Int))) (l' := 49 :: List.replicate P.length 48) (by omega) (by simp; omega) (by rw [val_one0]; have := Nat.pow_pos (n := P.length) (show 0 < 10 by decide); omega) (show Rat.divInt (val (canon (-(n : Int)))) (val (49 :: List.replicate P.length 48)) = q by rw [val_canon, val_one0, HQ.out, hz]))
              have HV := Lib.hid HT.out
              have HO := Lib.hid (HOk.out (HWk.out) (.inr HD2.out) (.inr h0))
              clear HW0 HW1 HP0 HN0 HOk HY HF HT HQ HZ HN hz
              generalize fN q = N at *
              generalize fD q = D at *
              generalize hrp : List.replicate P.length (48 : UInt8) = Rp at *
              clear hrp
              go_wp2_with fail
              ((with_reducible refine (C6.out.of hG hb).mono ?_); rintro e w6 ⟨rfl, hb6⟩)
              replace hb := bto hb hb6
              replace x2 := x2.below hb6
              clear hb6
              go_wp2_with fail
              ((with_reducible refine (C7.out.of hG hb).mono ?_); rintro e w7 ⟨rfl, hb7⟩)
              replace hb := bto hb hb7
              replace x2 := x2.below hb7
              clear hb7
              have x10 := FBox.new w7 (.string ⟨N.toArray⟩) (.string ⟨D.toArray⟩) 42
              replace x2 := x2.below (below_alloc w7 (.cells #[.string ⟨N.toArray⟩, .string ⟨D.toArray⟩] 42))
              replace hb := bto hb (below_alloc w7 (.cells #[.string ⟨N.toArray⟩, .string ⟨D.toArray⟩] 42))
              have q0 := x2.c0
              have q1 := x2.c1
              have q2 := x2.f0
              have q3 := x2.f1
              have g0 := x10.c0
              have g1 := x10.c1
              go_wp2
              have hy := x2.set (.string ⟨N.toArray⟩) (.string ⟨D.toArray⟩)
              have d0 := hy.c0
              have d1 := hy.c1
              refine bodyPost_ret (v := .tuple #[.agg #[.string ⟨N.toArray⟩, .string ⟨D.toArray⟩], .int .i64 0]) (by simp [results, Tryz.results30, go_sem, d0, d1]) rfl ?_
              exact ⟨by rw [HV.out HO.out], below_set2 hb (Nat.le_refl _) _ _⟩
set_option maxHeartbeats 1000000 in
set_option maxRecDepth 100000 in
theorem dFracLong {s : List UInt8} (hs : 65536 < s.length) (hs2 : s.length ≤ 9223372036854775807) : Ret 30 #[.string ⟨s.toArray⟩] (.tuple #[.agg #[.string ⟨#[]⟩, .string ⟨#[]⟩], .int .i64 4]) := fun w hG => by
  have k0 : decide (65536 < s.length) = true := decide_eq_true (by omega)
  have hb := below_alloc w (.cells #[.string ⟨#[]⟩, .string ⟨#[]⟩] 42)
  go_enter Tryz.func30, Tryz.ntmps30
  go_wp2
  refine bodyPost_ret (v := .tuple #[.agg #[.string ⟨#[]⟩, .string ⟨#[]⟩], .int .i64 4]) (by simp [results, Tryz.results30, go_sem]) rfl ?_
  exact ⟨rfl, hb⟩
end Go.Proofs.YtdjjlbfleibhjaaGreatDoor
namespace Go.Proofs.YtdjjlbfleibhjaaGreatDoor
open Go.RowKit Num
/-- the bytes of a string -/
def bytesOf : Value → List UInt8
  | .string s => s.data.toList
  | _ => []
theorem decQ_bd {s : List UInt8} {K : Nat} (hK : s.length + s.length < K) (hd : (decW s ++ decP s).all isDig = true) : Bd K (decQ s) := by
  have hW := decW_len s
  have hP := decP_len s
  unfold decQ
  refine bd_divInt ?_ ?_ ?_
  · have h1 : (decZ s).natAbs = decN' s := by unfold decZ; split <;> omega
    rw [h1]
    unfold decN'
    exact Nat.lt_of_lt_of_le (nat_lt _ hd) (Nat.pow_le_pow_right (by decide) (by rw [List.length_append]; omega))
  · rw [Int.natAbs_natCast]; exact Nat.pow_lt_pow_right (by decide) (by omega)
  · have := Nat.pow_pos (n := (decP s).length) (show 0 < 10 by decide); omega


theorem decOk_dig {s : List UInt8} (h : decOk s = true) : (decW s ++ decP s).all isDig = true := by
  obtain ⟨h1, h2, -, -⟩ := decOk_parts h
  rw [List.all_append, (okW_fmt h1).2.2, h2]; rfl
/-- what Parse returns -/
def ParseV (s : List UInt8) (p : Nat) : Value :=
  if decOk s = true then (if (decQ s * tenQ p).den = 1 then .tuple #[.string ⟨(canon (decQ s * tenQ p).num).toArray⟩, .int .i64 0] else .tuple #[.string ⟨#[]⟩, .int .i64 22]) else .tuple #[.string ⟨#[]⟩, .int .i64 3]
theorem parseV_f {s : List UInt8} {p : Nat} (h : decOk s = false) : ParseV s p = .tuple #[.string ⟨#[]⟩, .int .i64 3] := if_neg (by rw [h]; decide)
theorem parseV_1 {s : List UInt8} {p : Nat} (h : decOk s = true) (h1 : (decQ s * tenQ p).den = 1) : ParseV s p = .tuple #[.string ⟨(canon (decQ s * tenQ p).num).toArray⟩, .int .i64 0] := by unfold ParseV; rw [if_pos h, if_pos h1]
theorem parseV_0 {s : List UInt8} {p : Nat} (h : decOk s = true) (h1 : ¬ (decQ s * tenQ p).den = 1) : ParseV s p = .tuple #[.string ⟨#[]⟩, .int .i64 22] := by unfold ParseV; rw [if_pos h, if_neg h1]
theorem cmp_one (d : Nat) : cmpZ (d : Int) 1 = 0 ↔ d = 1 := by
  unfold cmpZ
  split
  · constructor <;> intro h <;> omega
  · split
    · constructor <;> intro h <;> omega
    · constructor <;> intro h <;> omega
set_option maxHeartbeats 2000000 in
set_option maxRecDepth 100000 in
theorem dParse {s : List UInt8} (hs : s.length ≤ 1000) {p : Nat} (hp : p ≤ 12) : Ret 80 #[.string ⟨s.toArray⟩, .int .i64 (p : Int)] (ParseV s p) := fun w hG => by
  have C1 := Lib.hid (dPlaces (n := (p : Int)) (by omega) (by omega))
  have c2 := dFrac hs
  have hb := Below.refl w.heap.size w
  cases hok : decOk s
  · rw [fracV_f hok] at c2
    have HV := Lib.hid (parseV_f (p := p) hok)
    have C2 := Lib.hid c2
    clear c2 hok hs hp
    go_enter Tryz.func80, Tryz.ntmps80
    go_wp2_with fail
    ((with_reducible refine (C1.out.of hG hb).mono ?_); rintro e w1 ⟨rfl, hb1⟩)
    replace hb := bto hb hb1
    go_wp2_with fail
    ((with_reducible refine (C2.out.of hG hb).mono ?_); rintro e w2 ⟨rfl, hb2⟩)
    replace hb := bto hb hb2
    go_wp2
    go_ret2
    exact ⟨by rw [HV.out]; first | done | rfl, bto hb (below_alloc _ _)⟩
  · rw [fracV_t hok] at c2
    obtain ⟨K, hK1, hK2⟩ : ∃ K, s.length + s.length < K ∧ K ≤ 2001 := ⟨2001, by omega, by omega⟩
    have bq := decQ_bd hK1 (decOk_dig hok)
    have hV1 := parseV_1 (p := p) hok
    have hV0 := parseV_0 (p := p) hok
    have iq := isq_fr bq (by omega)
    have bs := bd_mul bq (bd_ten p)
    have c3 := dShift iq hp rfl
    have c4 := rParts (isq_fr bs (by omega))
    have hde : ((decQ s * tenQ p).den : Int).natAbs < 10 ^ (K + (p + 1)) := by rw [Int.natAbs_natCast]; exact bs.2
    have c5 := riCompare (l := canon ((decQ s * tenQ p).den : Int)) (l' := [49]) (canon_len_of hde (by omega)) (by decide) (show cmpZ (val (canon ((decQ s * tenQ p).den : Int))) (val [49]) = cmpZ ((decQ s * tenQ p).den : Int) 1 by rw [val_canon]; rfl)
    have hone := cmp_one (decQ s * tenQ p).den
    have HN : Hid (fN (decQ s * tenQ p) = canon (decQ s * tenQ p).num) := rfl
    rw [← HN.out] at hV1
    clear HN hde bs iq bq hok hs hK1
    generalize canon ((decQ s * tenQ p).den : Int) = E at *
    generalize cmpZ ((decQ s * tenQ p).den : Int) 1 = c at *
    generalize (decQ s * tenQ p).den = d at *
    generalize fN (decQ s * tenQ p) = M at *
    generalize fD (decQ s * tenQ p) = M' at *
    generalize fN (decQ s) = N at *
    generalize fD (decQ s) = D at *
    generalize ParseV s p = V at *
    have C2 := Lib.hid c2
    have C3 := Lib.hid c3
    have C4 := Lib.hid c4
    have C5 := Lib.hid c5
    have HV1 := Lib.hid hV1
    have HV0 := Lib.hid hV0
    have HO := Lib.hid hone
    clear c2 c3 c4 c5 hV1 hV0 hone hp
    go_enter Tryz.func80, Tryz.ntmps80
    go_wp2_with fail
    ((with_reducible refine (C1.out.of hG hb).mono ?_); rintro e w2 ⟨rfl, hb2⟩)
    replace hb := bto hb hb2
    clear hb2
    go_wp2_with fail
    ((with_reducible refine (C2.out.of hG hb).mono ?_); rintro e w3 ⟨rfl, hb3⟩)
    replace hb := bto hb hb3
    clear hb3
    have x7 := FBox.new w3 (.string ⟨N.toArray⟩) (.string ⟨D.toArray⟩) 42
    replace hb := bto hb (below_alloc w3 (.cells #[.string ⟨N.toArray⟩, .string ⟨D.toArray⟩] 42))
    have qx7_0 := x7.c0
    have qx7_1 := x7.c1
    go_wp2_with fail
    ((with_reducible refine (C3.out.of hG hb).mono ?_); rintro e w4 ⟨rfl, hb4⟩)
    clear qx7_0 qx7_1
    replace x7 := x7.below hb4
    replace hb := bto hb hb4
    clear hb4
    go_wp2_with fail
    ((with_reducible refine (C4.out.of hG hb).mono ?_); rintro e w5 ⟨rfl, hb5⟩)
    replace x7 := x7.below hb5
    replace hb := bto hb hb5
    clear hb5
    go_wp2_with fail
    ((with_reducible refine (C5.out.of hG hb).mono ?_); rintro e w6 ⟨rfl, hb6⟩)
    replace x7 := x7.below hb6
    replace hb := bto hb hb6
    clear hb6
    clear x7
    by_cases h1 : c = 0
    · have e1 := intbeq h1
      have e2 := bneq e1
      have HV := Lib.hid (HV1.out (HO.out.1 h1))
      clear h1
      go_wp2
      go_ret2
      exact ⟨by rw [HV.out]; first | done | rfl, hb⟩
    · have e1 := intbne h1
      have e2 := bneq' e1
      have HV := Lib.hid (HV0.out (fun h => h1 (HO.out.2 h)))
      clear h1
      go_wp2
      go_ret2
      exact ⟨by rw [HV.out]; first | done | rfl, hb⟩
end Go.Proofs.YtdjjlbfleibhjaaGreatDoor
namespace Go.Proofs
open Go.Shelf
def Tryz.lays102_ren : Go.Shelf.Ren := ⟨fun | 102 => 31 | 209 => 93 | 207 => 160 | n => n, fun | 9 => 9 | 4 => 4 | 3 => 3 | n => n, fun | n => n⟩
theorem Tryz.lays102 : Go.Proofs.Lays.n102 Tryz.prog Tryz.lays102_ren := {
  mixed := by kernel_rfl
  f102 := Tryz.func31.trans (congrArg some (by kernel_rfl))
  f207 := Tryz.func160.trans (congrArg some (by kernel_rfl))
  f209 := Tryz.func93.trans (congrArg some (by kernel_rfl))
  t3 := Tryz.underlying3
  a3 := Tryz.isAgg3
  z3 := Tryz.sizeOf3
  v3 := Tryz.zeroValue3
  t4 := Tryz.underlying4
  a4 := Tryz.isAgg4
  z4 := Tryz.sizeOf4
  v4 := Tryz.zeroValue4
  t9 := Tryz.underlying9
  a9 := Tryz.isAgg9
  z9 := Tryz.sizeOf9
  v9 := Tryz.zeroValue9 }
open Go.RowKit Go.Lib in
theorem Tryz.strings_TrimSuffix (s p : ByteArray) (w : World) (hs : s.size ≤ 9223372036854775807) :
    Calls Tryz.prog 31 #[.string s, .string p] w fun e w' => e = .returned (.string ⟨(Lib.trimSuffix s.data.toList p.data.toList).toArray⟩) ∧ w' = w := Any.strings_TrimSuffix Tryz.lays102 s p w hs
end Go.Proofs
namespace Go.Proofs.YtdjjlbfleibhjaaGreatDoor
open Go.RowKit Num
end Go.Proofs.YtdjjlbfleibhjaaGreatDoor
namespace Go.Proofs.YtdjjlbfleibhjaaGreatDoor
open Go.RowKit Num
end Go.Proofs.YtdjjlbfleibhjaaGreatDoor
namespace Go.Proofs.YtdjjlbfleibhjaaGreatDoor
open Go.RowKit Num
end Go.Proofs.YtdjjlbfleibhjaaGreatDoor
namespace Go.Proofs.YtdjjlbfleibhjaaGreatDoor
open Go.RowKit Num
theorem ePlaces {n : Int} (h0 : 0 ≤ n) (h1 : n ≤ 12) : Ret 146 #[.int .i64 n] (.bool true) := fun w hG => by
  have hb := Below.refl w.heap.size w
  have e1 : decide (0 ≤ n) = true := decide_eq_true h0
  have e2 : decide (n ≤ 12) = true := decide_eq_true h1
  go_enter Tryz.func146, Tryz.ntmps146
  go_wp2
  go_ret
  exact ⟨by first | rfl | simp_all, hb⟩
set_option maxHeartbeats 1000000 in
set_option maxRecDepth 100000 in
theorem ePower {p : Nat} (hp : p ≤ 1000) : Ret 149 #[.int .i64 (p : Int)] (.string ⟨(49 :: List.replicate p (48 : UInt8)).toArray⟩) := fun w hG => by
  have HV : Hid (∀ T : List UInt8, T = 49 :: List.replicate p 48 → Ending.returned (.string ⟨T.toArray⟩) = Ending.returned (.string ⟨(49 :: List.replicate p (48 : UInt8)).toArray⟩)) := by rintro T rfl; rfl
  generalize Ending.returned (.string ⟨(49 :: List.replicate p (48 : UInt8)).toArray⟩) = V at *
  go_enter Tryz.func149, Tryz.ntmps149
  go_wp2_with fail
  go_loop [3, 4] (fun sv iv => ∃ (k : Nat) (T : List UInt8), k ≤ p ∧ iv = .int .i64 (k : Int) ∧ sv = .string ⟨T.toArray⟩ ∧ Hid (T = 49 :: List.replicate k 48) ∧ T.length ≤ k + 1) (fun _ iv => p - (intOf iv).toNat)
  case atStart => exact ⟨0, [49], Nat.zero_le _, rfl, rfl, rfl, by simp⟩
  case round =>
    obtain ⟨k, T, hk, rfl, rfl, HT, htl⟩ := hrel
    by_cases hlt : k < p
    · have ha := str_add T [48] (by omega) (by decide)
      have HT2 : Hid (T ++ [48] = 49 :: List.replicate (k + 1) 48) := by show _ = _; rw [HT.out, List.replicate_succ']; rfl
      have htl2 : (T ++ [48]).length ≤ k + 1 + 1 := by simp; omega
      generalize T ++ [48] = T' at *
      go_wp2
      go_round
      case rel => exact ⟨k + 1, T', by omega, by go_num, rfl, HT2, htl2⟩
      case measure => simp [intOf]; omega
    · obtain rfl : k = p := by omega
      go_wp2
      go_ret
      exact ⟨HV.out T HT.out, Below.refl _ _⟩
end Go.Proofs.YtdjjlbfleibhjaaGreatDoor
namespace Go.Proofs.YtdjjlbfleibhjaaGreatDoor
open Go.RowKit Num
set_option maxHeartbeats 4000000 in
set_option maxRecDepth 100000 in
theorem eTextOf_n0 {l : List UInt8} (hl : l.length ≤ 1000) {z : Int} (e : val l = z) {p : Nat} (hp : p = 0) (hp2 : p ≤ 12) (hz : z < 0) : Ret 78 #[.string ⟨l.toArray⟩, .int .i64 (p : Int)] (.string ⟨(textD z p).toArray⟩) := fun w hG => by
  have c2 := qCanonical (l := l) (by omega) e
  have hcz : canon z = 45 :: dec z.natAbs := by unfold canon; rw [if_pos hz]
  have hD : (dec z.natAbs).length ≤ 1000 := Nat.le_trans (Num.dec_len_le _ _ (by rw [← e]; exact val_lt l)) hl
  have hd := dec_digs z.natAbs
  have hd0 : dec z.natAbs = [] ↔ z = 0 := by rw [dec_eq_nil]; omega
  have HT : Hid (∀ Z, Z = zpad (p + 1) (dec z.natAbs) → textD z p = [45] ++ (Z.take (Z.length - p) ++ [])) := by
    rintro Z rfl; unfold textD sgnT tW tP; rw [if_pos hz, if_pos hp]
  rw [hcz] at c2
  obtain ⟨D, hDe⟩ : ∃ D, D = dec z.natAbs := ⟨_, rfl⟩
  rw [← hDe] at c2 hD hd HT hd0
  generalize textD z p = V at *
  have C2 := Lib.hid c2
  have hb := Below.refl w.heap.size w
  have k9 : ¬ 0 < p := by omega
  have k8 : ((p : Int) == 0) = true := by rw [beq_iff_eq]; omega
  have k2 : ∀ hp, ((((⟨(45 :: D).toArray⟩ : ByteArray)[0]'hp).toNat : Int) == 45) = true := fun hp => rfl
  have k4 : (⟨(45 :: D).toArray⟩ : ByteArray).extract 1 (D.length + 1) = ⟨D.toArray⟩ := by rw [extract_list]; simp
  clear c2 hcz hd hDe hd0 hz hp e
  go_enter Tryz.func78, Tryz.ntmps78
  go_wp2_with fail
  ((with_reducible refine (C2.out.of hG hb).mono ?_); rintro e w2 ⟨rfl, hb2⟩)
  replace hb := bto hb hb2
  clear hb2
  go_wp2_with fail
  go_quiet (fail)
  replace hb := bdrewN hb nq
  go_wp2_with fail
  clear k2 k4
  go_loop [5] (fun sv => ∃ (j : Nat) (T : List UInt8), sv = .string ⟨T.toArray⟩ ∧ Hid (T = List.replicate j 48 ++ D) ∧ T.length = j + D.length ∧ (j = 0 ∨ j + D.length ≤ p + 1)) (fun sv => p + 1 - (bytesOf sv).length)
  case atStart => exact ⟨0, D, rfl, rfl, by omega, .inl rfl⟩
  case round =>
    obtain ⟨j, T, rfl, HTj, hTl, hj⟩ := hrel
    by_cases hlt : T.length < p + 1
    · have k5 : decide ((T.length : Int) < (p : Int) + 1) = true := decide_eq_true (by omega)
      have k6 : (T.length : Int) < (p : Int) + 1 := by omega
      have ha := str_add [48] T (by decide) (by omega)
      have HT2 : Hid ([48] ++ T = List.replicate (j + 1) 48 ++ D) := by show _ = _; rw [HTj.out, List.replicate_succ]; rfl
      have hl2 : ([48] ++ T).length = j + 1 + D.length := by simp; omega
      generalize [48] ++ T = T' at *
      go_wp2
      go_round
      case rel => exact ⟨j + 1, T', rfl, HT2, hl2, .inr (by omega)⟩
      case measure => simp only [bytesOf]; show p + 1 - T'.length < p + 1 - T.length; omega
    · have k5 : decide ((T.length : Int) < (p : Int) + 1) = false := decide_eq_false (by omega)
      have k6 : ¬ (T.length : Int) < (p : Int) + 1 := by omega
      have hjj : j = p + 1 - D.length := by omega
      have HV := Lib.hid (HT.out T (by rw [HTj.out, hjj]; rfl))
      have hTb : T.length ≤ 2000 := by omega
      have hTp : p + 1 ≤ T.length := by omega
      clear HTj HT hTl hj hjj
      have ha := str_add [45] T (by decide) (by omega)
      have HV2 : Hid (V = [45] ++ T) := by show _ = _; rw [HV.out, List.append_nil, show T.length - p = T.length by omega, List.take_length]
      clear HV
      go_wp2
      go_ret
      exact ⟨by rw [HV2.out]; first | done | rfl | simp, hb⟩
set_option maxHeartbeats 4000000 in
set_option maxRecDepth 100000 in
theorem eTextOf_n1 {l : List UInt8} (hl : l.length ≤ 1000) {z : Int} (e : val l = z) {p : Nat} (hp : 0 < p) (hp2 : p ≤ 12) (hz : z < 0) : Ret 78 #[.string ⟨l.toArray⟩, .int .i64 (p : Int)] (.string ⟨(textD z p).toArray⟩) := fun w hG => by
  have c2 := qCanonical (l := l) (by omega) e
  have hcz : canon z = 45 :: dec z.natAbs := by unfold canon; rw [if_pos hz]
  have hD : (dec z.natAbs).length ≤ 1000 := Nat.le_trans (Num.dec_len_le _ _ (by rw [← e]; exact val_lt l)) hl
  have hd := dec_digs z.natAbs
  have hd0 : dec z.natAbs = [] ↔ z = 0 := by rw [dec_eq_nil]; omega
  have HT : Hid (∀ Z, Z = zpad (p + 1) (dec z.natAbs) → textD z p = [45] ++ (Z.take (Z.length - p) ++ 46 :: Z.drop (Z.length - p))) := by
    rintro Z rfl; unfold textD sgnT tW tP; rw [if_pos hz, if_neg (by omega)]
  rw [hcz] at c2
  obtain ⟨D, hDe⟩ : ∃ D, D = dec z.natAbs := ⟨_, rfl⟩
  rw [← hDe] at c2 hD hd HT hd0
  generalize textD z p = V at *
  have C2 := Lib.hid c2
  have hb := Below.refl w.heap.size w
  have k9 : 0 < p := by omega
  have k8 : ((p : Int) == 0) = false := by rw [beq_eq_false_iff_ne]; omega
  have k2 : ∀ hp, ((((⟨(45 :: D).toArray⟩ : ByteArray)[0]'hp).toNat : Int) == 45) = true := fun hp => rfl
  have k4 : (⟨(45 :: D).toArray⟩ : ByteArray).extract 1 (D.length + 1) = ⟨D.toArray⟩ := by rw [extract_list]; simp
  clear c2 hcz hd hDe hd0 hz hp e
  go_enter Tryz.func78, Tryz.ntmps78
  go_wp2_with fail
  ((with_reducible refine (C2.out.of hG hb).mono ?_); rintro e w2 ⟨rfl, hb2⟩)
  replace hb := bto hb hb2
  clear hb2
  go_wp2_with fail
  go_quiet (fail)
  replace hb := bdrewN hb nq
  go_wp2_with fail
  clear k2 k4
  go_loop [5] (fun sv => ∃ (j : Nat) (T : List UInt8), sv = .string ⟨T.toArray⟩ ∧ Hid (T = List.replicate j 48 ++ D) ∧ T.length = j + D.length ∧ (j = 0 ∨ j + D.length ≤ p + 1)) (fun sv => p + 1 - (bytesOf sv).length)
  case atStart => exact ⟨0, D, rfl, rfl, by omega, .inl rfl⟩
  case round =>
    obtain ⟨j, T, rfl, HTj, hTl, hj⟩ := hrel
    by_cases hlt : T.length < p + 1
    · have k5 : decide ((T.length : Int) < (p : Int) + 1) = true := decide_eq_true (by omega)
      have k6 : (T.length : Int) < (p : Int) + 1 := by omega
      have ha := str_add [48] T (by decide) (by omega)
      have HT2 : Hid ([48] ++ T = List.replicate (j + 1) 48 ++ D) := by show _ = _; rw [HTj.out, List.replicate_succ]; rfl
      have hl2 : ([48] ++ T).length = j + 1 + D.length := by simp; omega
      generalize [48] ++ T = T' at *
      go_wp2
      go_round
      case rel => exact ⟨j + 1, T', rfl, HT2, hl2, .inr (by omega)⟩
      case measure => simp only [bytesOf]; show p + 1 - T'.length < p + 1 - T.length; omega
    · have k5 : decide ((T.length : Int) < (p : Int) + 1) = false := decide_eq_false (by omega)
      have k6 : ¬ (T.length : Int) < (p : Int) + 1 := by omega
      have hjj : j = p + 1 - D.length := by omega
      have HV := Lib.hid (HT.out T (by rw [HTj.out, hjj]; rfl))
      have hTb : T.length ≤ 2000 := by omega
      have hTp : p + 1 ≤ T.length := by omega
      clear HTj HT hTl hj hjj
      have kx : (⟨T.toArray⟩ : ByteArray).extract 0 (T.length - p) = ⟨(T.take (T.length - p)).toArray⟩ := by rw [extract_list]; simp
      have ky : (⟨T.toArray⟩ : ByteArray).extract (T.length - p) T.length = ⟨(T.drop (T.length - p)).toArray⟩ := by rw [extract_list]; simp
      have kx' : (⟨T.toArray⟩ : ByteArray).extract 0 ((T.length : Int) - (p : Int)).toNat = ⟨(T.take (T.length - p)).toArray⟩ := by rw [show ((T.length : Int) - (p : Int)).toNat = T.length - p by omega]; exact kx
      have ky' : (⟨T.toArray⟩ : ByteArray).extract ((T.length : Int) - (p : Int)).toNat T.length = ⟨(T.drop (T.length - p)).toArray⟩ := by rw [show ((T.length : Int) - (p : Int)).toNat = T.length - p by omega]; exact ky
      have hA : (T.take (T.length - p)).length ≤ 2000 := by rw [List.length_take]; omega
      have hB : (T.drop (T.length - p)).length ≤ 2000 := by rw [List.length_drop]; omega
      have b1 : (0 : Int) ≤ (T.length : Int) - (p : Int) := by omega
      have b2 : (T.length : Int) - (p : Int) ≤ (T.length : Int) := by omega
      generalize T.take (T.length - p) = A at *
      generalize T.drop (T.length - p) = B at *
      have ha1 := str_add [45] A (by decide) (by omega)
      obtain ⟨X1, hX1⟩ : ∃ X1, X1 = [45] ++ A := ⟨_, rfl⟩
      rw [← hX1] at ha1
      have l1 : X1.length ≤ 2001 := by rw [hX1]; simp; omega
      have ha2 := str_add X1 [46] (by omega) (by decide)
      obtain ⟨X2, hX2⟩ : ∃ X2, X2 = X1 ++ [46] := ⟨_, rfl⟩
      rw [← hX2] at ha2
      have l2 : X2.length ≤ 2002 := by rw [hX2]; simp; omega
      have ha3 := str_add X2 B (by omega) (by omega)
      have HV2 : Hid (V = X2 ++ B) := by show _ = _; rw [HV.out, hX2, hX1]; simp
      generalize X2 ++ B = X3 at *
      clear HV hX1 hX2
      go_wp2_with fail
      go_quiet (fail)
      replace hb := bdrewN hb nq
      go_wp2
      go_ret
      exact ⟨by rw [HV2.out]; first | done | rfl, hb⟩
set_option maxHeartbeats 4000000 in
set_option maxRecDepth 100000 in
theorem eTextOf_p0 {l : List UInt8} (hl : l.length ≤ 1000) {z : Int} (e : val l = z) {p : Nat} (hp : p = 0) (hp2 : p ≤ 12) (hz : 0 < z) : Ret 78 #[.string ⟨l.toArray⟩, .int .i64 (p : Int)] (.string ⟨(textD z p).toArray⟩) := fun w hG => by
  have c2 := qCanonical (l := l) (by omega) e
  have hcz : canon z = dec z.natAbs := by unfold canon; rw [if_neg (by omega)]
  have hD : (dec z.natAbs).length ≤ 1000 := Nat.le_trans (Num.dec_len_le _ _ (by rw [← e]; exact val_lt l)) hl
  have hd := dec_digs z.natAbs
  have hd0 : dec z.natAbs = [] ↔ z = 0 := by rw [dec_eq_nil]; omega
  have HT : Hid (∀ Z, Z = zpad (p + 1) (dec z.natAbs) → textD z p = [] ++ (Z.take (Z.length - p) ++ [])) := by
    rintro Z rfl; unfold textD sgnT tW tP; rw [if_neg (by omega), if_pos hp]
  rw [hcz] at c2
  obtain ⟨D, hDe⟩ : ∃ D, D = dec z.natAbs := ⟨_, rfl⟩
  rw [← hDe] at c2 hD hd HT hd0
  generalize textD z p = V at *
  have C2 := Lib.hid c2
  have hb := Below.refl w.heap.size w
  have k9 : ¬ 0 < p := by omega
  have k8 : ((p : Int) == 0) = true := by rw [beq_iff_eq]; omega
  have hne : D ≠ [] := fun h => by have := hd0.1 h; omega
  have e1 : (D == []) = false := by rw [beq_eq_false_iff_ne]; exact hne
  have e2 : D.isEmpty = false := by rw [List.isEmpty_eq_false_iff]; exact hne
  have hlt : 0 < D.length := List.length_pos_iff.2 hne
  have hlt' : 0 < (⟨D.toArray⟩ : ByteArray).size := by show 0 < D.toArray.size; simpa using hlt
  obtain ⟨x, hx⟩ : ∃ x, x = (⟨D.toArray⟩ : ByteArray)[0] := ⟨_, rfl⟩
  have hxl : D[0]? = some x := by rw [hx]; simp [hlt]; rfl
  have hx2 : ∀ hp, (⟨D.toArray⟩ : ByteArray)[0]'hp = x := fun _ => hx.symm
  have hxd : isDig x = true := List.all_eq_true.1 hd x (List.mem_of_getElem? hxl)
  have hx45 : ((x.toNat : Int) == 45) = false := by rw [beq_eq_false_iff_ne]; have := (isDig_iff x).1 hxd; omega
  clear hx hxl hxd hne
  clear c2 hcz hd hDe hd0 hz hp e
  go_enter Tryz.func78, Tryz.ntmps78
  go_wp2_with fail
  ((with_reducible refine (C2.out.of hG hb).mono ?_); rintro e w2 ⟨rfl, hb2⟩)
  replace hb := bto hb hb2
  clear hb2
  go_wp2_with fail
  clear e1 e2 hx2 hx45 hlt hlt'
  go_loop [5] (fun sv => ∃ (j : Nat) (T : List UInt8), sv = .string ⟨T.toArray⟩ ∧ Hid (T = List.replicate j 48 ++ D) ∧ T.length = j + D.length ∧ (j = 0 ∨ j + D.length ≤ p + 1)) (fun sv => p + 1 - (bytesOf sv).length)
  case atStart => exact ⟨0, D, rfl, rfl, by omega, .inl rfl⟩
  case round =>
    obtain ⟨j, T, rfl, HTj, hTl, hj⟩ := hrel
    by_cases hlt : T.length < p + 1
    · have k5 : decide ((T.length : Int) < (p : Int) + 1) = true := decide_eq_true (by omega)
      have k6 : (T.length : Int) < (p : Int) + 1 := by omega
      have ha := str_add [48] T (by decide) (by omega)
      have HT2 : Hid ([48] ++ T = List.replicate (j + 1) 48 ++ D) := by show _ = _; rw [HTj.out, List.replicate_succ]; rfl
      have hl2 : ([48] ++ T).length = j + 1 + D.length := by simp; omega
      generalize [48] ++ T = T' at *
      go_wp2
      go_round
      case rel => exact ⟨j + 1, T', rfl, HT2, hl2, .inr (by omega)⟩
      case measure => simp only [bytesOf]; show p + 1 - T'.length < p + 1 - T.length; omega
    · have k5 : decide ((T.length : Int) < (p : Int) + 1) = false := decide_eq_false (by omega)
      have k6 : ¬ (T.length : Int) < (p : Int) + 1 := by omega
      have hjj : j = p + 1 - D.length := by omega
      have HV := Lib.hid (HT.out T (by rw [HTj.out, hjj]; rfl))
      have hTb : T.length ≤ 2000 := by omega
      have hTp : p + 1 ≤ T.length := by omega
      clear HTj HT hTl hj hjj
      have ha := str_add [] T (by decide) (by omega)
      have HV2 : Hid (V = [] ++ T) := by show _ = _; rw [HV.out, List.append_nil, show T.length - p = T.length by omega, List.take_length]
      clear HV
      go_wp2
      go_ret
      exact ⟨by rw [HV2.out]; first | done | rfl | simp, hb⟩
set_option maxHeartbeats 4000000 in
set_option maxRecDepth 100000 in
theorem eTextOf_p1 {l : List UInt8} (hl : l.length ≤ 1000) {z : Int} (e : val l = z) {p : Nat} (hp : 0 < p) (hp2 : p ≤ 12) (hz : 0 < z) : Ret 78 #[.string ⟨l.toArray⟩, .int .i64 (p : Int)] (.string ⟨(textD z p).toArray⟩) := fun w hG => by
  have c2 := qCanonical (l := l) (by omega) e
  have hcz : canon z = dec z.natAbs := by unfold canon; rw [if_neg (by omega)]
  have hD : (dec z.natAbs).length ≤ 1000 := Nat.le_trans (Num.dec_len_le _ _ (by rw [← e]; exact val_lt l)) hl
  have hd := dec_digs z.natAbs
  have hd0 : dec z.natAbs = [] ↔ z = 0 := by rw [dec_eq_nil]; omega
  have HT : Hid (∀ Z, Z = zpad (p + 1) (dec z.natAbs) → textD z p = [] ++ (Z.take (Z.length - p) ++ 46 :: Z.drop (Z.length - p))) := by
    rintro Z rfl; unfold textD sgnT tW tP; rw [if_neg (by omega), if_neg (by omega)]
  rw [hcz] at c2
  obtain ⟨D, hDe⟩ : ∃ D, D = dec z.natAbs := ⟨_, rfl⟩
  rw [← hDe] at c2 hD hd HT hd0
  generalize textD z p = V at *
  have C2 := Lib.hid c2
  have hb := Below.refl w.heap.size w
  have k9 : 0 < p := by omega
  have k8 : ((p : Int) == 0) = false := by rw [beq_eq_false_iff_ne]; omega
  have hne : D ≠ [] := fun h => by have := hd0.1 h; omega
  have e1 : (D == []) = false := by rw [beq_eq_false_iff_ne]; exact hne
  have e2 : D.isEmpty = false := by rw [List.isEmpty_eq_false_iff]; exact hne
  have hlt : 0 < D.length := List.length_pos_iff.2 hne
  have hlt' : 0 < (⟨D.toArray⟩ : ByteArray).size := by show 0 < D.toArray.size; simpa using hlt
  obtain ⟨x, hx⟩ : ∃ x, x = (⟨D.toArray⟩ : ByteArray)[0] := ⟨_, rfl⟩
  have hxl : D[0]? = some x := by rw [hx]; simp [hlt]; rfl
  have hx2 : ∀ hp, (⟨D.toArray⟩ : ByteArray)[0]'hp = x := fun _ => hx.symm
  have hxd : isDig x = true := List.all_eq_true.1 hd x (List.mem_of_getElem? hxl)
  have hx45 : ((x.toNat : Int) == 45) = false := by rw [beq_eq_false_iff_ne]; have := (isDig_iff x).1 hxd; omega
  clear hx hxl hxd hne
  clear c2 hcz hd hDe hd0 hz hp e
  go_enter Tryz.func78, Tryz.ntmps78
  go_wp2_with fail
  ((with_reducible refine (C2.out.of hG hb).mono ?_); rintro e w2 ⟨rfl, hb2⟩)
  replace hb := bto hb hb2
  clear hb2
  go_wp2_with fail
  clear e1 e2 hx2 hx45 hlt hlt'
  go_loop [5] (fun sv => ∃ (j : Nat) (T : List UInt8), sv = .string ⟨T.toArray⟩ ∧ Hid (T = List.replicate j 48 ++ D) ∧ T.length = j + D.length ∧ (j = 0 ∨ j + D.length ≤ p + 1)) (fun sv => p + 1 - (bytesOf sv).length)
  case atStart => exact ⟨0, D, rfl, rfl, by omega, .inl rfl⟩
  case round =>
    obtain ⟨j, T, rfl, HTj, hTl, hj⟩ := hrel
    by_cases hlt : T.length < p + 1
    · have k5 : decide ((T.length : Int) < (p : Int) + 1) = true := decide_eq_true (by omega)
      have k6 : (T.length : Int) < (p : Int) + 1 := by omega
      have ha := str_add [48] T (by decide) (by omega)
      have HT2 : Hid ([48] ++ T = List.replicate (j + 1) 48 ++ D) := by show _ = _; rw [HTj.out, List.replicate_succ]; rfl
      have hl2 : ([48] ++ T).length = j + 1 + D.length := by simp; omega
      generalize [48] ++ T = T' at *
      go_wp2
      go_round
      case rel => exact ⟨j + 1, T', rfl, HT2, hl2, .inr (by omega)⟩
      case measure => simp only [bytesOf]; show p + 1 - T'.length < p + 1 - T.length; omega
    · have k5 : decide ((T.length : Int) < (p : Int) + 1) = false := decide_eq_false (by omega)
      have k6 : ¬ (T.length : Int) < (p : Int) + 1 := by omega
      have hjj : j = p + 1 - D.length := by omega
      have HV := Lib.hid (HT.out T (by rw [HTj.out, hjj]; rfl))
      have hTb : T.length ≤ 2000 := by omega
      have hTp : p + 1 ≤ T.length := by omega
      clear HTj HT hTl hj hjj
      have kx : (⟨T.toArray⟩ : ByteArray).extract 0 (T.length - p) = ⟨(T.take (T.length - p)).toArray⟩ := by rw [extract_list]; simp
      have ky : (⟨T.toArray⟩ : ByteArray).extract (T.length - p) T.length = ⟨(T.drop (T.length - p)).toArray⟩ := by rw [extract_list]; simp
      have kx' : (⟨T.toArray⟩ : ByteArray).extract 0 ((T.length : Int) - (p : Int)).toNat = ⟨(T.take (T.length - p)).toArray⟩ := by rw [show ((T.length : Int) - (p : Int)).toNat = T.length - p by omega]; exact kx
      have ky' : (⟨T.toArray⟩ : ByteArray).extract ((T.length : Int) - (p : Int)).toNat T.length = ⟨(T.drop (T.length - p)).toArray⟩ := by rw [show ((T.length : Int) - (p : Int)).toNat = T.length - p by omega]; exact ky
      have hA : (T.take (T.length - p)).length ≤ 2000 := by rw [List.length_take]; omega
      have hB : (T.drop (T.length - p)).length ≤ 2000 := by rw [List.length_drop]; omega
      have b1 : (0 : Int) ≤ (T.length : Int) - (p : Int) := by omega
      have b2 : (T.length : Int) - (p : Int) ≤ (T.length : Int) := by omega
      generalize T.take (T.length - p) = A at *
      generalize T.drop (T.length - p) = B at *
      have ha1 := str_add [] A (by decide) (by omega)
      obtain ⟨X1, hX1⟩ : ∃ X1, X1 = [] ++ A := ⟨_, rfl⟩
      rw [← hX1] at ha1
      have l1 : X1.length ≤ 2001 := by rw [hX1]; simp; omega
      have ha2 := str_add X1 [46] (by omega) (by decide)
      obtain ⟨X2, hX2⟩ : ∃ X2, X2 = X1 ++ [46] := ⟨_, rfl⟩
      rw [← hX2] at ha2
      have l2 : X2.length ≤ 2002 := by rw [hX2]; simp; omega
      have ha3 := str_add X2 B (by omega) (by omega)
      have HV2 : Hid (V = X2 ++ B) := by show _ = _; rw [HV.out, hX2, hX1]; simp
      generalize X2 ++ B = X3 at *
      clear HV hX1 hX2
      go_wp2_with fail
      go_quiet (fail)
      replace hb := bdrewN hb nq
      go_wp2
      go_ret
      exact ⟨by rw [HV2.out]; first | done | rfl, hb⟩
set_option maxHeartbeats 4000000 in
set_option maxRecDepth 100000 in
theorem eTextOf_z0 {l : List UInt8} (hl : l.length ≤ 1000) {z : Int} (e : val l = z) {p : Nat} (hp : p = 0) (hp2 : p ≤ 12) (hz : z = 0) : Ret 78 #[.string ⟨l.toArray⟩, .int .i64 (p : Int)] (.string ⟨(textD z p).toArray⟩) := fun w hG => by
  have c2 := qCanonical (l := l) (by omega) e
  have hcz : canon z = dec z.natAbs := by unfold canon; rw [if_neg (by omega)]
  have hD : (dec z.natAbs).length ≤ 1000 := Nat.le_trans (Num.dec_len_le _ _ (by rw [← e]; exact val_lt l)) hl
  have hd := dec_digs z.natAbs
  have hd0 : dec z.natAbs = [] ↔ z = 0 := by rw [dec_eq_nil]; omega
  have HT : Hid (∀ Z, Z = zpad (p + 1) (dec z.natAbs) → textD z p = [] ++ (Z.take (Z.length - p) ++ [])) := by
    rintro Z rfl; unfold textD sgnT tW tP; rw [if_neg (by omega), if_pos hp]
  rw [hcz] at c2
  obtain ⟨D, hDe⟩ : ∃ D, D = dec z.natAbs := ⟨_, rfl⟩
  rw [← hDe] at c2 hD hd HT hd0
  generalize textD z p = V at *
  have C2 := Lib.hid c2
  have hb := Below.refl w.heap.size w
  have k9 : ¬ 0 < p := by omega
  have k8 : ((p : Int) == 0) = true := by rw [beq_iff_eq]; omega
  have hne : D = [] := hd0.2 hz
  have e1 : (D == []) = true := by rw [beq_iff_eq]; exact hne
  have e2 : D.isEmpty = true := by rw [List.isEmpty_iff]; exact hne
  clear hne
  clear c2 hcz hd hDe hd0 hz hp e
  go_enter Tryz.func78, Tryz.ntmps78
  go_wp2_with fail
  ((with_reducible refine (C2.out.of hG hb).mono ?_); rintro e w2 ⟨rfl, hb2⟩)
  replace hb := bto hb hb2
  clear hb2
  go_wp2_with fail
  clear e1 e2
  go_loop [5] (fun sv => ∃ (j : Nat) (T : List UInt8), sv = .string ⟨T.toArray⟩ ∧ Hid (T = List.replicate j 48 ++ D) ∧ T.length = j + D.length ∧ (j = 0 ∨ j + D.length ≤ p + 1)) (fun sv => p + 1 - (bytesOf sv).length)
  case atStart => exact ⟨0, D, rfl, rfl, by omega, .inl rfl⟩
  case round =>
    obtain ⟨j, T, rfl, HTj, hTl, hj⟩ := hrel
    by_cases hlt : T.length < p + 1
    · have k5 : decide ((T.length : Int) < (p : Int) + 1) = true := decide_eq_true (by omega)
      have k6 : (T.length : Int) < (p : Int) + 1 := by omega
      have ha := str_add [48] T (by decide) (by omega)
      have HT2 : Hid ([48] ++ T = List.replicate (j + 1) 48 ++ D) := by show _ = _; rw [HTj.out, List.replicate_succ]; rfl
      have hl2 : ([48] ++ T).length = j + 1 + D.length := by simp; omega
      generalize [48] ++ T = T' at *
      go_wp2
      go_round
      case rel => exact ⟨j + 1, T', rfl, HT2, hl2, .inr (by omega)⟩
      case measure => simp only [bytesOf]; show p + 1 - T'.length < p + 1 - T.length; omega
    · have k5 : decide ((T.length : Int) < (p : Int) + 1) = false := decide_eq_false (by omega)
      have k6 : ¬ (T.length : Int) < (p : Int) + 1 := by omega
      have hjj : j = p + 1 - D.length := by omega
      have HV := Lib.hid (HT.out T (by rw [HTj.out, hjj]; rfl))
      have hTb : T.length ≤ 2000 := by omega
      have hTp : p + 1 ≤ T.length := by omega
      clear HTj HT hTl hj hjj
      have ha := str_add [] T (by decide) (by omega)
      have HV2 : Hid (V = [] ++ T) := by show _ = _; rw [HV.out, List.append_nil, show T.length - p = T.length by omega, List.take_length]
      clear HV
      go_wp2
      go_ret
      exact ⟨by rw [HV2.out]; first | done | rfl | simp, hb⟩
set_option maxHeartbeats 4000000 in
set_option maxRecDepth 100000 in
theorem eTextOf_z1 {l : List UInt8} (hl : l.length ≤ 1000) {z : Int} (e : val l = z) {p : Nat} (hp : 0 < p) (hp2 : p ≤ 12) (hz : z = 0) : Ret 78 #[.string ⟨l.toArray⟩, .int .i64 (p : Int)] (.string ⟨(textD z p).toArray⟩) := fun w hG => by
  have c2 := qCanonical (l := l) (by omega) e
  have hcz : canon z = dec z.natAbs := by unfold canon; rw [if_neg (by omega)]
  have hD : (dec z.natAbs).length ≤ 1000 := Nat.le_trans (Num.dec_len_le _ _ (by rw [← e]; exact val_lt l)) hl
  have hd := dec_digs z.natAbs
  have hd0 : dec z.natAbs = [] ↔ z = 0 := by rw [dec_eq_nil]; omega
  have HT : Hid (∀ Z, Z = zpad (p + 1) (dec z.natAbs) → textD z p = [] ++ (Z.take (Z.length - p) ++ 46 :: Z.drop (Z.length - p))) := by
    rintro Z rfl; unfold textD sgnT tW tP; rw [if_neg (by omega), if_neg (by omega)]
  rw [hcz] at c2
  obtain ⟨D, hDe⟩ : ∃ D, D = dec z.natAbs := ⟨_, rfl⟩
  rw [← hDe] at c2 hD hd HT hd0
  generalize textD z p = V at *
  have C2 := Lib.hid c2
  have hb := Below.refl w.heap.size w
  have k9 : 0 < p := by omega
  have k8 : ((p : Int) == 0) = false := by rw [beq_eq_false_iff_ne]; omega
  have hne : D = [] := hd0.2 hz
  have e1 : (D == []) = true := by rw [beq_iff_eq]; exact hne
  have e2 : D.isEmpty = true := by rw [List.isEmpty_iff]; exact hne
  clear hne
  clear c2 hcz hd hDe hd0 hz hp e
  go_enter Tryz.func78, Tryz.ntmps78
  go_wp2_with fail
  ((with_reducible refine (C2.out.of hG hb).mono ?_); rintro e w2 ⟨rfl, hb2⟩)
  replace hb := bto hb hb2
  clear hb2
  go_wp2_with fail
  clear e1 e2
  go_loop [5] (fun sv => ∃ (j : Nat) (T : List UInt8), sv = .string ⟨T.toArray⟩ ∧ Hid (T = List.replicate j 48 ++ D) ∧ T.length = j + D.length ∧ (j = 0 ∨ j + D.length ≤ p + 1)) (fun sv => p + 1 - (bytesOf sv).length)
  case atStart => exact ⟨0, D, rfl, rfl, by omega, .inl rfl⟩
  case round =>
    obtain ⟨j, T, rfl, HTj, hTl, hj⟩ := hrel
    by_cases hlt : T.length < p + 1
    · have k5 : decide ((T.length : Int) < (p : Int) + 1) = true := decide_eq_true (by omega)
      have k6 : (T.length : Int) < (p : Int) + 1 := by omega
      have ha := str_add [48] T (by decide) (by omega)
      have HT2 : Hid ([48] ++ T = List.replicate (j + 1) 48 ++ D) := by show _ = _; rw [HTj.out, List.replicate_succ]; rfl
      have hl2 : ([48] ++ T).length = j + 1 + D.length := by simp; omega
      generalize [48] ++ T = T' at *
      go_wp2
      go_round
      case rel => exact ⟨j + 1, T', rfl, HT2, hl2, .inr (by omega)⟩
      case measure => simp only [bytesOf]; show p + 1 - T'.length < p + 1 - T.length; omega
    · have k5 : decide ((T.length : Int) < (p : Int) + 1) = false := decide_eq_false (by omega)
      have k6 : ¬ (T.length : Int) < (p : Int) + 1 := by omega
      have hjj : j = p + 1 - D.length := by omega
      have HV := Lib.hid (HT.out T (by rw [HTj.out, hjj]; rfl))
      have hTb : T.length ≤ 2000 := by omega
      have hTp : p + 1 ≤ T.length := by omega
      clear HTj HT hTl hj hjj
      have kx : (⟨T.toArray⟩ : ByteArray).extract 0 (T.length - p) = ⟨(T.take (T.length - p)).toArray⟩ := by rw [extract_list]; simp
      have ky : (⟨T.toArray⟩ : ByteArray).extract (T.length - p) T.length = ⟨(T.drop (T.length - p)).toArray⟩ := by rw [extract_list]; simp
      have kx' : (⟨T.toArray⟩ : ByteArray).extract 0 ((T.length : Int) - (p : Int)).toNat = ⟨(T.take (T.length - p)).toArray⟩ := by rw [show ((T.length : Int) - (p : Int)).toNat = T.length - p by omega]; exact kx
      have ky' : (⟨T.toArray⟩ : ByteArray).extract ((T.length : Int) - (p : Int)).toNat T.length = ⟨(T.drop (T.length - p)).toArray⟩ := by rw [show ((T.length : Int) - (p : Int)).toNat = T.length - p by omega]; exact ky
      have hA : (T.take (T.length - p)).length ≤ 2000 := by rw [List.length_take]; omega
      have hB : (T.drop (T.length - p)).length ≤ 2000 := by rw [List.length_drop]; omega
      have b1 : (0 : Int) ≤ (T.length : Int) - (p : Int) := by omega
      have b2 : (T.length : Int) - (p : Int) ≤ (T.length : Int) := by omega
      generalize T.take (T.length - p) = A at *
      generalize T.drop (T.length - p) = B at *
      have ha1 := str_add [] A (by decide) (by omega)
      obtain ⟨X1, hX1⟩ : ∃ X1, X1 = [] ++ A := ⟨_, rfl⟩
      rw [← hX1] at ha1
      have l1 : X1.length ≤ 2001 := by rw [hX1]; simp; omega
      have ha2 := str_add X1 [46] (by omega) (by decide)
      obtain ⟨X2, hX2⟩ : ∃ X2, X2 = X1 ++ [46] := ⟨_, rfl⟩
      rw [← hX2] at ha2
      have l2 : X2.length ≤ 2002 := by rw [hX2]; simp; omega
      have ha3 := str_add X2 B (by omega) (by omega)
      have HV2 : Hid (V = X2 ++ B) := by show _ = _; rw [HV.out, hX2, hX1]; simp
      generalize X2 ++ B = X3 at *
      clear HV hX1 hX2
      go_wp2_with fail
      go_quiet (fail)
      replace hb := bdrewN hb nq
      go_wp2
      go_ret
      exact ⟨by rw [HV2.out]; first | done | rfl, hb⟩
theorem eTextOf {l : List UInt8} (hl : l.length ≤ 1000) {z : Int} (e : val l = z) {p : Nat} (hp2 : p ≤ 12) : Ret 78 #[.string ⟨l.toArray⟩, .int .i64 (p : Int)] (.string ⟨(textD z p).toArray⟩) := by
  rcases Int.lt_trichotomy z 0 with hz | hz | hz <;> rcases Nat.eq_zero_or_pos p with hp | hp
  · exact eTextOf_n0 hl e hp hp2 hz
  · exact eTextOf_n1 hl e hp hp2 hz
  · exact eTextOf_z0 hl e hp hp2 hz
  · exact eTextOf_z1 hl e hp hp2 hz
  · exact eTextOf_p0 hl e hp hp2 hz
  · exact eTextOf_p1 hl e hp hp2 hz
end Go.Proofs.YtdjjlbfleibhjaaGreatDoor
namespace Go.Proofs.YtdjjlbfleibhjaaGreatDoor
open Go.RowKit Num
/-- a table within the statements' sizes, in memory -/
structure TL (w : World) (A : Option Addr) (ts : List Cur) (n c : Nat) : Prop where
  len : ts.length = n
  cap : n ≤ c
  sm : n ≤ 1000
  str : ∀ t ∈ ts, t.code.length ≤ 1000
  mem : CurAt w A ts
theorem TL.below {w w' : World} {A : Option Addr} {ts : List Cur} {n c : Nat} (h : TL w A ts n c) (hb : Below w.heap.size w w') : TL w' A ts n c := ⟨h.len, h.cap, h.sm, h.str, h.mem.below hb⟩
theorem TL.short {w : World} {A : Option Addr} {ts : List Cur} {n c : Nat} (h : TL w A ts n c) : ShortC ts := fun t ht => Nat.le_trans (h.str t ht) (by decide)
theorem mTableB {w : World} {A : Option Addr} {ts : List Cur} {n c : Nat} (hG : Glob w) (h : TL w A ts n c) : RetB w 29 #[.slice A n c] (.int .i64 (tabE ts)) := fun w' hb => mTable A ts n c w' (hG.below hb) h.len h.cap h.short (h.mem.below hb)
theorem jTableB {w : World} {A : Option Addr} {ts : List Cur} {n c : Nat} (hG : Glob w) (h : TL w A ts n c) : RetB w 75 #[.slice A n c] (.int .i64 (tabE ts)) := fun w' hb => jTable A ts n c w' (hG.below hb) h.len h.short (h.mem.below hb)
theorem mFindB {w : World} {A : Option Addr} {ts : List Cur} {n c : Nat} (h : TL w A ts n c) (code : List UInt8) : RetB w 32 #[.slice A n c, .string ⟨code.toArray⟩] (curV (findT ts code)) := fun w' hb => mFind A ts n c code w' h.len (Nat.le_trans h.sm (by decide)) (h.mem.below hb)
set_option maxHeartbeats 1000000 in
set_option maxRecDepth 100000 in
theorem jFind5 (A : Option Addr) (ts : List Cur) (n c : Nat) (code : List UInt8) (w : World) (hn : ts.length = n) (hn2 : n ≤ 1000000000) (h : CurAt w A ts) :
    Calls Tryz.prog 76 #[.slice A n c, .string ⟨code.toArray⟩] w fun e w' => e = .returned (curV (findT ts code)) ∧ Below w.heap.size w w' := by
  have HI := Lib.hid h
  have hn1 : ts.length ≤ n := by omega
  have hn3 : n ≤ ts.length := by omega
  have x4 := FBox.new w (.string ⟨#[]⟩) (.int .i64 0) 47
  have hb0 := below_alloc w (.cells #[.string ⟨#[]⟩, .int .i64 0] 47)
  clear h hn
  go_enter Tryz.func76, Tryz.ntmps76
  go_wp2_with fail
  go_loopw [6] (fun iv wr => ∃ k : Nat, k ≤ n ∧ iv = .int .i64 (k : Int) ∧ Hid (findT ts code = findT (ts.drop k) code) ∧ FBox wr w.heap.size (.string ⟨#[]⟩) (.int .i64 0) ∧ Below w.heap.size w wr) (fun iv _ => n - (intOf iv).toNat)
  case atStart => exact ⟨0, Nat.zero_le _, rfl, rfl, x4, hb0⟩
  case round =>
    clear x4 hb0
    obtain ⟨k, hk, rfl, HK, y4, hb⟩ := hrel
    by_cases hlk : k < n
    · obtain ⟨t, ht⟩ : ∃ t, ts[k]? = some t := ⟨_, List.getElem?_eq_getElem (by omega)⟩
      obtain ⟨b, o, rfl, hbs, p0, p1⟩ := (HI.out.below hb) k t ht
      have HD := Lib.hid (findT_drop (code := code) ht)
      clear ht
      by_cases he : t.code = code
      · have e1 : (t.code == code) = true := by rw [beq_iff_eq]; exact he
        have HV : Hid (curV (findT ts code) = curV (some t)) := by show _ = _; rw [HK.out, HD.out, if_pos he]
        clear he HK HD
        have q0 := y4.c0
        have q1 := y4.c1
        have q2 := y4.f0
        have q3 := y4.f1
        go_wp2
        have hy := y4.set (.string ⟨t.code.toArray⟩) (.int .i64 t.places)
        have d0 := hy.c0
        have d1 := hy.c1
        refine bodyPost_ret (v := .tuple #[.agg #[.string ⟨t.code.toArray⟩, .int .i64 t.places], .bool true]) (by simp [results, Tryz.results76, go_sem, d0, d1]) rfl ?_
        exact ⟨by rw [HV.out]; rfl, below_set2 hb (Nat.le_refl _) _ _⟩
      · have e1 : (t.code == code) = false := by rw [beq_eq_false_iff_ne]; exact he
        have HV : Hid (findT ts code = findT (ts.drop (k + 1)) code) := by show _ = _; rw [HK.out, HD.out, if_neg he]
        clear he HK HD
        go_wp2
        go_roundw
        case rel => exact ⟨k + 1, by omega, by go_num, HV, y4, hb⟩
        case measure => simp [intOf]; omega
    · have HV : Hid (curV (findT ts code) = curV none) := by show _ = _; rw [HK.out, List.drop_of_length_le (by omega)]; rfl
      have q0 := y4.c0
      have q1 := y4.c1
      have q2 := y4.f0
      have q3 := y4.f1
      go_wp2
      have hy := y4.set (.string ⟨#[]⟩) (.int .i64 0)
      have d0 := hy.c0
      have d1 := hy.c1
      refine bodyPost_ret (v := .tuple #[.agg #[.string ⟨#[]⟩, .int .i64 0], .bool false]) (by simp [results, Tryz.results76, go_sem, d0, d1]) rfl ?_
      exact ⟨by rw [HV.out]; rfl, below_set2 hb (Nat.le_refl _) _ _⟩
theorem jFindB {w : World} {A : Option Addr} {ts : List Cur} {n c : Nat} (h : TL w A ts n c) (code : List UInt8) : RetB w 76 #[.slice A n c, .string ⟨code.toArray⟩] (curV (findT ts code)) := fun w' hb => jFind5 A ts n c code w' h.len (Nat.le_trans h.sm (by decide)) (h.mem.below hb)
/-- what Text returns -/
def textV (ts : List Cur) (m : Mon) : List UInt8 × Int :=
  if ¬ tabE ts = 0 then ([], 1) else match findT ts m.cur with
    | none => ([], 12)
    | some c => if ¬ m.amt = canon (val m.amt) then ([], 1) else (textD (val m.amt) c.places.toNat ++ 32 :: m.cur, 0)
theorem findT_some {ts : List Cur} {code : List UInt8} {c : Cur} (h : findT ts code = some c) : c ∈ ts ∧ c.code = code := by
  unfold findT at h
  refine ⟨List.mem_of_find?_eq_some h, ?_⟩
  have := List.find?_some h
  simpa using this
theorem tabL_ok : ∀ (ts seen : List Cur), tabL seen ts = 0 → ∀ t ∈ ts, codeB t.code = true ∧ 0 ≤ t.places ∧ t.places ≤ 12
  | t :: r, seen, h, u, hu => by
    have h : (if ¬ codeB t.code = true then (23 : Int) else if t.places < 0 ∨ 12 < t.places then 2 else if (findT seen t.code).isSome = true then 5 else tabL (seen ++ [t]) r) = 0 := h
    by_cases g1 : codeB t.code = true
    rotate_left
    · rw [if_pos g1] at h; cases h
    by_cases g2 : t.places < 0 ∨ 12 < t.places
    · rw [if_neg (fun h => h g1), if_pos g2] at h; cases h
    by_cases g3 : (findT seen t.code).isSome = true
    · rw [if_neg (fun h => h g1), if_neg g2, if_pos g3] at h; cases h
    rw [if_neg (fun h => h g1), if_neg g2, if_neg g3] at h
    rcases List.mem_cons.1 hu with rfl | hu
    · exact ⟨g1, by omega, by omega⟩
    · exact tabL_ok r _ h u hu
theorem tabE_ok {ts : List Cur} (h : tabE ts = 0) : ts.length ≤ 16 ∧ ∀ t ∈ ts, codeB t.code = true ∧ 0 ≤ t.places ∧ t.places ≤ 12 := by
  unfold tabE at h
  by_cases h0 : 16 < ts.length
  · rw [if_pos h0] at h; cases h
  rw [if_neg h0] at h
  exact ⟨by omega, tabL_ok ts [] h⟩
theorem str_addM (a b : List UInt8) (h : a.length + b.length ≤ 1000000) (w : World) : (Go.Op.stringOp .add ⟨a.toArray⟩ ⟨b.toArray⟩).run Tryz.prog w = .ok (.string ⟨(a ++ b).toArray⟩) w := by
  have h2 : (⟨a.toArray⟩ : ByteArray).size + (⟨b.toArray⟩ : ByteArray).size ≤ 9223372036854775807 := by
    show a.toArray.size + b.toArray.size ≤ _
    simp; omega
  rw [run_string_add_sum w ⟨a.toArray⟩ ⟨b.toArray⟩ h2]
  congr 2

set_option maxHeartbeats 4000000 in
set_option maxRecDepth 100000 in
theorem mText (A : Option Addr) (ts : List Cur) (n c : Nat) (m : Mon) (w : World) (hG : Glob w) (hT : TL w A ts n c) (h1 : m.cur.length ≤ 1000) (h2 : m.amt.length ≤ 200) :
    Calls Tryz.prog 21 #[.slice A n c, (.agg #[.string ⟨m.cur.toArray⟩, .string ⟨m.amt.toArray⟩])] w fun e w' => e = .returned (.tuple #[.string ⟨(textV ts m).1.toArray⟩, .int .i64 (textV ts m).2]) ∧ Below w.heap.size w w' := by
  have CB := Lib.hid (mTableB hG hT)
  have CFn := Lib.hid (mFindB hT m.cur)
  have hb := below_alloc w (.cells #[.string ⟨m.cur.toArray⟩, .string ⟨m.amt.toArray⟩] 25)
  have x3 := FBox.new w (.string ⟨m.cur.toArray⟩) (.string ⟨m.amt.toArray⟩) 25
  clear hT
  by_cases g0 : tabE ts = 0
  rotate_left
  · have HV : Hid (textV ts m = ([], 1)) := if_pos g0
    have e1 : (tabE ts != 0) = true := bneq' (intbne g0)
    generalize tabE ts = E at *
    clear g0
    go_enter Tryz.func21, Tryz.ntmps21
    go_wp2_with fail
    ((with_reducible refine (CB.out.of hG hb).mono ?_); rintro e w2 ⟨rfl, hb2⟩)
    replace x3 := x3.below hb2
    replace hb := bto hb hb2
    clear hb2
    clear CB x3
    go_wp2
    go_ret2
    exact ⟨by rw [HV.out]; rfl, hb⟩
  have HV0 : Hid (textV ts m = match findT ts m.cur with | none => ([], 12) | some c => if ¬ m.amt = canon (val m.amt) then ([], 1) else (textD (val m.amt) c.places.toNat ++ 32 :: m.cur, 0)) := if_neg (fun h => h g0)
  have HT := Lib.hid (fun c (h : findT ts m.cur = some c) => (And.intro ((tabE_ok g0).2 c (findT_some h).1).2 (findT_some h).2))
  rw [g0] at CB
  clear g0
  generalize findT ts m.cur = fo at *
  cases fo with
  | none =>
    have HV : Hid (textV ts m = ([], 12)) := HV0.out
    unfold curV at CFn
    clear HV0 HT
    go_enter Tryz.func21, Tryz.ntmps21
    go_wp2_with fail
    ((with_reducible refine (CB.out.of hG hb).mono ?_); rintro e w2 ⟨rfl, hb2⟩)
    replace x3 := x3.below hb2
    replace hb := bto hb hb2
    clear hb2
    have q0 := x3.c0
    clear CB
    go_wp2_with fail
    ((with_reducible refine (CFn.out.of hG hb).mono ?_); rintro e w3 ⟨rfl, hb3⟩)
    replace x3 := x3.below hb3
    replace hb := bto hb hb3
    clear hb3
    clear CFn q0 x3
    go_wp2
    go_ret2
    exact ⟨by rw [HV.out]; rfl, bto hb (below_alloc _ _)⟩
  | some t =>
    obtain ⟨⟨ht0, ht12⟩, htc⟩ := HT.out t rfl
    obtain ⟨p, hp⟩ : ∃ p : Nat, p = t.places.toNat := ⟨_, rfl⟩
    have hp2 : t.places = (p : Int) := by omega
    have hp12 : p ≤ 12 := by omega
    have cfq : RetB w 32 #[.slice A n c, .string ⟨m.cur.toArray⟩] (.tuple #[.agg #[.string ⟨t.code.toArray⟩, .int .i64 t.places], .bool true]) := CFn.out
    rw [hp2, htc] at cfq
    clear CFn
    have CFn := Lib.hid cfq
    clear cfq
    have HV1 : Hid (textV ts m = if ¬ m.amt = canon (val m.amt) then ([], 1) else (textD (val m.amt) p ++ 32 :: m.cur, 0)) := by rw [hp]; exact HV0.out
    clear HV0 HT ht0 ht12 htc hp hp2
    by_cases gv : m.amt = canon (val m.amt)
    rotate_left
    · have HV : Hid (textV ts m = ([], 1)) := HV1.out.trans (if_pos gv)
      have CC := Lib.hid (riCheck (l := m.amt) (c := 1) (by omega) (if_neg gv))
      clear gv HV1
      go_enter Tryz.func21, Tryz.ntmps21
      go_wp2_with fail
      ((with_reducible refine (CB.out.of hG hb).mono ?_); rintro e w2 ⟨rfl, hb2⟩)
      replace x3 := x3.below hb2
      replace hb := bto hb hb2
      clear hb2
      have q0 := x3.c0
      clear CB
      go_wp2_with fail
      ((with_reducible refine (CFn.out.of hG hb).mono ?_); rintro e w3 ⟨rfl, hb3⟩)
      replace x3 := x3.below hb3
      replace hb := bto hb hb3
      clear hb3
      have hbA := below_alloc w3 (.cells #[.string ⟨m.cur.toArray⟩, .int .i64 (p : Int)] 47)
      have x6 := FBox.new w3 (.string ⟨m.cur.toArray⟩) (.int .i64 (p : Int)) 47
      replace x3 := x3.below hbA
      replace hb := bto hb hbA
      clear hbA
      clear CFn q0
      have q1 := x3.c1
      go_wp2_with fail
      ((with_reducible refine (CC.out.of hG hb).mono ?_); rintro e w4 ⟨rfl, hb4⟩)
      replace x3 := x3.below hb4
      replace hb := bto hb hb4
      clear hb4
      clear CC q1 x3 x6
      go_wp2
      go_ret2
      exact ⟨by rw [HV.out]; rfl, hb⟩
    have HV : Hid (textV ts m = (textD (val m.amt) p ++ 32 :: m.cur, 0)) := HV1.out.trans (if_neg (fun h => h gv))
    have CC := Lib.hid (riCheck (l := m.amt) (c := 0) (by omega) (if_pos gv))
    have CX := Lib.hid (dText (l := m.amt) (by omega) rfl (p := p) hp12)
    have hdl : (dec (val m.amt).natAbs).length ≤ 201 := by
      have h3 := canon_len_le (val m.amt) 200 (val_lt_of h2)
      have h4 : (dec (val m.amt).natAbs).length ≤ (canon (val m.amt)).length := by unfold canon; split <;> simp
      omega
    have htl := textD_len (val m.amt) p
    have ha1 := str_addM (textD (val m.amt) p) [32] (by simp; omega)
    have ha2 := str_addM (textD (val m.amt) p ++ [32]) m.cur (by simp; omega)
    rw [List.append_assoc] at ha2
    have ha3 : ∀ w, (Go.Op.stringOp .add ⟨(textD (val m.amt) p ++ [32]).toArray⟩ ⟨m.cur.toArray⟩).run Tryz.prog w = .ok (.string ⟨(textD (val m.amt) p ++ 32 :: m.cur).toArray⟩) w := ha2
    clear ha2 gv HV1 hdl htl
    generalize textD (val m.amt) p = T at *
    go_enter Tryz.func21, Tryz.ntmps21
    go_wp2_with fail
    ((with_reducible refine (CB.out.of hG hb).mono ?_); rintro e w2 ⟨rfl, hb2⟩)
    replace x3 := x3.below hb2
    replace hb := bto hb hb2
    clear hb2
    have q0 := x3.c0
    clear CB
    go_wp2_with fail
    ((with_reducible refine (CFn.out.of hG hb).mono ?_); rintro e w3 ⟨rfl, hb3⟩)
    replace x3 := x3.below hb3
    replace hb := bto hb hb3
    clear hb3
    have hbA := below_alloc w3 (.cells #[.string ⟨m.cur.toArray⟩, .int .i64 (p : Int)] 47)
    have x6 := FBox.new w3 (.string ⟨m.cur.toArray⟩) (.int .i64 (p : Int)) 47
    replace x3 := x3.below hbA
    replace hb := bto hb hbA
    clear hbA
    clear CFn q0
    have q1 := x3.c1
    go_wp2_with fail
    ((with_reducible refine (CC.out.of hG hb).mono ?_); rintro e w4 ⟨rfl, hb4⟩)
    replace x3 := x3.below hb4
    replace x6 := x6.below hb4
    replace hb := bto hb hb4
    clear hb4
    clear CC q1
    have q1 := x3.c1
    have q3 := x6.c1
    go_wp2_with fail
    ((with_reducible refine (CX.out.of hG hb).mono ?_); rintro e w6 ⟨rfl, hb6⟩)
    replace x3 := x3.below hb6
    replace x6 := x6.below hb6
    replace hb := bto hb hb6
    clear hb6
    clear q1 q3
    have q2 := x6.c0
    go_wp2
    go_ret2
    exact ⟨by rw [HV.out]; rfl, hb⟩

set_option maxHeartbeats 4000000 in
set_option maxRecDepth 100000 in
theorem jText (A : Option Addr) (ts : List Cur) (n c : Nat) (m : Mon) (w : World) (hG : Glob w) (hT : TL w A ts n c) (h1 : m.cur.length ≤ 1000) (h2 : m.amt.length ≤ 200) :
    Calls Tryz.prog 22 #[.slice A n c, (.agg #[.string ⟨m.cur.toArray⟩, .string ⟨m.amt.toArray⟩])] w fun e w' => e = .returned (.tuple #[.string ⟨(textV ts m).1.toArray⟩, .int .i64 (textV ts m).2]) ∧ Below w.heap.size w w' := by
  have CB := Lib.hid (jTableB hG hT)
  have CFn := Lib.hid (jFindB hT m.cur)
  have hb := below_alloc w (.cells #[.string ⟨m.cur.toArray⟩, .string ⟨m.amt.toArray⟩] 25)
  have x3 := FBox.new w (.string ⟨m.cur.toArray⟩) (.string ⟨m.amt.toArray⟩) 25
  clear hT
  by_cases g0 : tabE ts = 0
  rotate_left
  · have HV : Hid (textV ts m = ([], 1)) := if_pos g0
    have e1 : (tabE ts != 0) = true := bneq' (intbne g0)
    generalize tabE ts = E at *
    clear g0
    go_enter Tryz.func22, Tryz.ntmps22
    go_wp2_with fail
    ((with_reducible refine (CB.out.of hG hb).mono ?_); rintro e w2 ⟨rfl, hb2⟩)
    replace x3 := x3.below hb2
    replace hb := bto hb hb2
    clear hb2
    clear CB x3
    go_wp2
    go_ret2
    exact ⟨by rw [HV.out]; rfl, hb⟩
  have HV0 : Hid (textV ts m = match findT ts m.cur with | none => ([], 12) | some c => if ¬ m.amt = canon (val m.amt) then ([], 1) else (textD (val m.amt) c.places.toNat ++ 32 :: m.cur, 0)) := if_neg (fun h => h g0)
  have HT := Lib.hid (fun c (h : findT ts m.cur = some c) => (And.intro ((tabE_ok g0).2 c (findT_some h).1).2 (findT_some h).2))
  rw [g0] at CB
  clear g0
  generalize findT ts m.cur = fo at *
  cases fo with
  | none =>
    have HV : Hid (textV ts m = ([], 12)) := HV0.out
    unfold curV at CFn
    clear HV0 HT
    go_enter Tryz.func22, Tryz.ntmps22
    go_wp2_with fail
    ((with_reducible refine (CB.out.of hG hb).mono ?_); rintro e w2 ⟨rfl, hb2⟩)
    replace x3 := x3.below hb2
    replace hb := bto hb hb2
    clear hb2
    have q0 := x3.c0
    clear CB
    go_wp2_with fail
    ((with_reducible refine (CFn.out.of hG hb).mono ?_); rintro e w3 ⟨rfl, hb3⟩)
    replace x3 := x3.below hb3
    replace hb := bto hb hb3
    clear hb3
    clear CFn q0 x3
    go_wp2
    go_ret2
    exact ⟨by rw [HV.out]; rfl, bto hb (below_alloc _ _)⟩
  | some t =>
    obtain ⟨⟨ht0, ht12⟩, htc⟩ := HT.out t rfl
    obtain ⟨p, hp⟩ : ∃ p : Nat, p = t.places.toNat := ⟨_, rfl⟩
    have hp2 : t.places = (p : Int) := by omega
    have hp12 : p ≤ 12 := by omega
    have cfq : RetB w 76 #[.slice A n c, .string ⟨m.cur.toArray⟩] (.tuple #[.agg #[.string ⟨t.code.toArray⟩, .int .i64 t.places], .bool true]) := CFn.out
    rw [hp2, htc] at cfq
    clear CFn
    have CFn := Lib.hid cfq
    clear cfq
    have HV1 : Hid (textV ts m = if ¬ m.amt = canon (val m.amt) then ([], 1) else (textD (val m.amt) p ++ 32 :: m.cur, 0)) := by rw [hp]; exact HV0.out
    clear HV0 HT ht0 ht12 htc hp hp2
    by_cases gv : m.amt = canon (val m.amt)
    rotate_left
    · have HV : Hid (textV ts m = ([], 1)) := HV1.out.trans (if_pos gv)
      have CC := Lib.hid (qCheck (l := m.amt) (c := 1) (by omega) (if_neg gv))
      clear gv HV1
      go_enter Tryz.func22, Tryz.ntmps22
      go_wp2_with fail
      ((with_reducible refine (CB.out.of hG hb).mono ?_); rintro e w2 ⟨rfl, hb2⟩)
      replace x3 := x3.below hb2
      replace hb := bto hb hb2
      clear hb2
      have q0 := x3.c0
      clear CB
      go_wp2_with fail
      ((with_reducible refine (CFn.out.of hG hb).mono ?_); rintro e w3 ⟨rfl, hb3⟩)
      replace x3 := x3.below hb3
      replace hb := bto hb hb3
      clear hb3
      have hbA := below_alloc w3 (.cells #[.string ⟨m.cur.toArray⟩, .int .i64 (p : Int)] 47)
      have x6 := FBox.new w3 (.string ⟨m.cur.toArray⟩) (.int .i64 (p : Int)) 47
      replace x3 := x3.below hbA
      replace hb := bto hb hbA
      clear hbA
      clear CFn q0
      have q1 := x3.c1
      go_wp2_with fail
      ((with_reducible refine (CC.out.of hG hb).mono ?_); rintro e w4 ⟨rfl, hb4⟩)
      replace x3 := x3.below hb4
      replace hb := bto hb hb4
      clear hb4
      clear CC q1 x3 x6
      go_wp2
      go_ret2
      exact ⟨by rw [HV.out]; rfl, hb⟩
    have HV : Hid (textV ts m = (textD (val m.amt) p ++ 32 :: m.cur, 0)) := HV1.out.trans (if_neg (fun h => h gv))
    have CC := Lib.hid (qCheck (l := m.amt) (c := 0) (by omega) (if_pos gv))
    have CX := Lib.hid (eTextOf (l := m.amt) (by omega) rfl (p := p) hp12)
    have hdl : (dec (val m.amt).natAbs).length ≤ 201 := by
      have h3 := canon_len_le (val m.amt) 200 (val_lt_of h2)
      have h4 : (dec (val m.amt).natAbs).length ≤ (canon (val m.amt)).length := by unfold canon; split <;> simp
      omega
    have htl := textD_len (val m.amt) p
    have ha1 := str_addM (textD (val m.amt) p) [32] (by simp; omega)
    have ha2 := str_addM (textD (val m.amt) p ++ [32]) m.cur (by simp; omega)
    rw [List.append_assoc] at ha2
    have ha3 : ∀ w, (Go.Op.stringOp .add ⟨(textD (val m.amt) p ++ [32]).toArray⟩ ⟨m.cur.toArray⟩).run Tryz.prog w = .ok (.string ⟨(textD (val m.amt) p ++ 32 :: m.cur).toArray⟩) w := ha2
    clear ha2 gv HV1 hdl htl
    generalize textD (val m.amt) p = T at *
    go_enter Tryz.func22, Tryz.ntmps22
    go_wp2_with fail
    ((with_reducible refine (CB.out.of hG hb).mono ?_); rintro e w2 ⟨rfl, hb2⟩)
    replace x3 := x3.below hb2
    replace hb := bto hb hb2
    clear hb2
    have q0 := x3.c0
    clear CB
    go_wp2_with fail
    ((with_reducible refine (CFn.out.of hG hb).mono ?_); rintro e w3 ⟨rfl, hb3⟩)
    replace x3 := x3.below hb3
    replace hb := bto hb hb3
    clear hb3
    have hbA := below_alloc w3 (.cells #[.string ⟨m.cur.toArray⟩, .int .i64 (p : Int)] 47)
    have x6 := FBox.new w3 (.string ⟨m.cur.toArray⟩) (.int .i64 (p : Int)) 47
    replace x3 := x3.below hbA
    replace hb := bto hb hbA
    clear hbA
    clear CFn q0
    have q1 := x3.c1
    go_wp2_with fail
    ((with_reducible refine (CC.out.of hG hb).mono ?_); rintro e w4 ⟨rfl, hb4⟩)
    replace x3 := x3.below hb4
    replace x6 := x6.below hb4
    replace hb := bto hb hb4
    clear hb4
    clear CC q1
    go_wp2_with fail
    refine wp_region_kept (by kernel_rfl) (by kernel_rfl) ?_
    refine kept_val _ (fun _ => rfl) (fun ρ w hw => by go_simp; first | done | with_reducible rfl) ?_
    simp only [Act.put, List.setIfInBounds_toArray, List.set_cons_zero, List.set_cons_succ, Nat.reduceAdd]
    refine kept_val _ (fun _ => rfl) (fun ρ w hw => by have q0 := (x3.below hw).c1; go_simp; first | done | with_reducible rfl) ?_
    simp only [Act.put, List.setIfInBounds_toArray, List.set_cons_zero, List.set_cons_succ, Nat.reduceAdd]
    refine kept_val _ (fun _ => rfl) (fun ρ w hw => by go_simp; first | done | with_reducible rfl) ?_
    simp only [Act.put, List.setIfInBounds_toArray, List.set_cons_zero, List.set_cons_succ, Nat.reduceAdd]
    refine kept_val _ (fun _ => rfl) (fun ρ w hw => by have q0 := (x6.below hw).c1; go_simp; first | done | with_reducible rfl) ?_
    simp only [Act.put, List.setIfInBounds_toArray, List.set_cons_zero, List.set_cons_succ, Nat.reduceAdd]
    refine kept_call _ _ _ (fun _ => rfl) (fun ρ w hw => by go_simp; first | done | with_reducible rfl) (fun w hw => CX.out.of (hG) (bto hb hw)) ?_
    simp only [Act.put, List.setIfInBounds_toArray, List.set_cons_zero, List.set_cons_succ, Nat.reduceAdd]
    refine kept_val _ (fun _ => rfl) (fun ρ w hw => by go_simp; first | done | with_reducible rfl) ?_
    simp only [Act.put, List.setIfInBounds_toArray, List.set_cons_zero, List.set_cons_succ, Nat.reduceAdd]
    refine kept_val _ (fun _ => rfl) (fun ρ w hw => by go_simp; first | done | with_reducible rfl) ?_
    simp only [Act.put, List.setIfInBounds_toArray, List.set_cons_zero, List.set_cons_succ, Nat.reduceAdd]
    refine kept_val _ (fun _ => rfl) (fun ρ w hw => by have q0 := (x3.below hw).c0; go_simp; first | done | with_reducible rfl) ?_
    simp only [Act.put, List.setIfInBounds_toArray, List.set_cons_zero, List.set_cons_succ, Nat.reduceAdd]
    refine kept_val _ (fun _ => rfl) (fun ρ w hw => by go_simp; first | done | with_reducible rfl) ?_
    simp only [Act.put, List.setIfInBounds_toArray, List.set_cons_zero, List.set_cons_succ, Nat.reduceAdd]
    refine kept_val _ (fun _ => rfl) (fun ρ w hw => by go_simp; first | done | with_reducible rfl) ?_
    simp only [Act.put, List.setIfInBounds_toArray, List.set_cons_zero, List.set_cons_succ, Nat.reduceAdd]
    refine kept_val _ (fun _ => rfl) (fun ρ w hw => by go_simp; first | done | with_reducible rfl) ?_
    simp only [Act.put, List.setIfInBounds_toArray, List.set_cons_zero, List.set_cons_succ, Nat.reduceAdd]
    refine kept_end (fun ρ w7 hF => ?_)
    replace hb := bto hb hF.below
    clear hF
    go_wp2
    go_ret2
    exact ⟨by rw [HV.out]; rfl, hb⟩

end Go.Proofs.YtdjjlbfleibhjaaGreatDoor
