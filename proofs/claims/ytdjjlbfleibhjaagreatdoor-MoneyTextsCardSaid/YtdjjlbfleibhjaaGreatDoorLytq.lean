/- The law MoneyTexts. -/
import Derived.Test.YtdjjlbfleibhjaaGreatDoorNiq
namespace Go.Proofs.YtdjjlbfleibhjaaGreatDoor
open Go.RowKit Num
set_option maxHeartbeats 8000000 in
set_option maxRecDepth 100000 in
theorem texts_law (A : Option Addr) (ts : List Cur) (n c : Nat) (m : Mon) (s : List UInt8) (w : World) (hG : Glob w)
    (hn : ts.length = n) (hc : n ≤ c) (hm : n ≤ 9223372036854775807) (hI : CurAt w A ts) :
    Calls Tryz.prog 5 #[.slice A n c, .agg #[.string ⟨m.cur.toArray⟩, .string ⟨m.amt.toArray⟩], .string ⟨s.toArray⟩] w fun e w' => e = .returned (.bool true) ∧ Below w.heap.size w w' := by
  have HAw := Lib.hid wAwake5
  have HLg := Lib.hid (llongM m)
  have hb := below_alloc w (.cells #[.string ⟨m.cur.toArray⟩, .string ⟨m.amt.toArray⟩] 25)
  have x4 := FBox.new w (.string ⟨m.cur.toArray⟩) (.string ⟨m.amt.toArray⟩) 25
  have CG := Lib.hid (fun (W : World) (hb : Below w.heap.size w W) => rGreatT A ts n c W hn hc hm (hI.below hb))
  have HI := Lib.hid hI
  clear hn hm hI
  go_enter Tryz.func5, Tryz.ntmps5
  go_wp2_with fail
  refine (CG.out _ hb).mono ?_
  rintro e w2 ⟨g, rfl, hg, hb2⟩
  have HF := Lib.hid hg
  replace hb := bto hb hb2
  replace x4 := x4.below hb2
  have q0 := x4.c0
  have q1 := x4.c1
  clear hg hb2 CG
  cases g with
  | true =>
    clear HF x4 q0 q1
    go_wp2_with fail
    ((with_reducible refine (HAw.out.of hG hb).mono ?_); rintro e wz ⟨rfl, hbz⟩)
    replace hb := bto hb hbz
    clear hbz
    go_wp2
    go_ret
    exact ⟨rfl, hb⟩
  | false =>
    have hX := HF.out rfl
    have hT : TL w A ts n c := ⟨hX.len, hX.cap, hX.sm, hX.str, HI.out⟩
    have HT := Lib.hid hT
    clear hX hT HF HI
    go_wp2_with fail
    ((with_reducible refine (HLg.out.of hG hb).mono ?_); rintro e w3 ⟨rfl, hb3⟩)
    replace x4 := x4.below hb3
    replace hb := bto hb hb3
    clear hb3
    have q0 := x4.c0
    have q1 := x4.c1
    by_cases gL : longM m = true
    · rw [gL]
      clear x4 q0 q1 gL HT
      go_wp2_with fail
      ((with_reducible refine (HAw.out.of hG hb).mono ?_); rintro e wz ⟨rfl, hbz⟩)
      replace hb := bto hb hbz
      clear hbz
      go_wp2
      go_ret
      exact ⟨rfl, hb⟩
    rw [not_true_b gL]
    have hL := longM_no (not_true_b gL)
    by_cases g40 : 40 < s.length
    · have e1 : decide (40 < s.length) = true := decide_eq_true g40
      have e2 : decide ((40 : Int) < (s.length : Int)) = true := decide_eq_true (by omega)
      clear x4 q0 q1 gL HT hL g40
      go_wp2_with fail
      ((with_reducible refine (HAw.out.of hG hb).mono ?_); rintro e wz ⟨rfl, hbz⟩)
      replace hb := bto hb hbz
      clear hbz
      go_wp2
      go_ret
      exact ⟨rfl, hb⟩
    have e1 : decide (40 < s.length) = false := decide_eq_false g40
    have e2 : decide ((40 : Int) < (s.length : Int)) = false := decide_eq_false (by omega)
    have hs40 : s.length ≤ 40 := by omega
    have C1 := Lib.hid (mTableB hG HT.out)
    clear gL g40
    go_wp2_with fail
    ((with_reducible refine (C1.out.of hG hb).mono ?_); rintro e w4 ⟨rfl, hb4⟩)
    replace x4 := x4.below hb4
    replace hb := bto hb hb4
    clear hb4
    have q0 := x4.c0
    have q1 := x4.c1
    clear C1 e1 e2
    by_cases g0 : tabE ts = 0
    rotate_left
    · have e1 : (tabE ts != 0) = true := bneq' (intbne g0)
      generalize tabE ts = E at *
      clear x4 q0 q1 HT hL g0
      go_wp2_with fail
      ((with_reducible refine (HAw.out.of hG hb).mono ?_); rintro e wz ⟨rfl, hbz⟩)
      replace hb := bto hb hbz
      clear hbz
      go_wp2
      go_ret
      exact ⟨rfl, hb⟩
    rw [g0]
    have P1 := fun (W : World) (hb : Below w.heap.size w W) => mText A ts n c m W (hG.below hb) (HT.out.below hb) (by omega) (by omega)
    by_cases ge : (textV ts m).2 = 0
    · obtain ⟨hbk, hxl⟩ := text_back ge hL.2
      have P2 := fun (W : World) (hb : Below w.heap.size w W) => mParseW A ts n c (textV ts m).1 W (hG.below hb) (HT.out.below hb) (by omega) (by omega)
      rw [hbk] at P2
      rw [ge] at P1
      simp only [pmV] at P2
      generalize (textV ts m).1 = X at *
      have P1 := Lib.hid P1
      have P2 := Lib.hid P2
      have hE := fun (w : World) => eqM1 m m w
      rw [show sameM m m = true by simp [sameM]] at hE
      have hEG := guardM
      clear ge hbk hxl hL
      go_wp2_with fail
      ((with_reducible refine (P1.out _ hb).mono ?_); rintro e w5 ⟨rfl, hb5⟩)
      replace x4 := x4.below hb5
      replace hb := bto hb hb5
      clear hb5
      have q0 := x4.c0
      have q1 := x4.c1
      clear P1
      go_wp2_with fail
      ((with_reducible refine (P2.out _ hb).mono ?_); rintro e w6 ⟨rfl, hb6⟩)
      have hbA := below_alloc w6 (.cells #[.string ⟨m.cur.toArray⟩, .string ⟨m.amt.toArray⟩] 25)
      have x9 := FBox.new w6 (.string ⟨m.cur.toArray⟩) (.string ⟨m.amt.toArray⟩) 25
      replace hb6 := bto hb6 hbA
      clear hbA
      replace x4 := x4.below hb6
      replace hb := bto hb hb6
      clear hb6
      have q0 := x4.c0
      have q1 := x4.c1
      have q2 := x9.c0
      have q3 := x9.c1
      clear P2
      have P3 := fun (W : World) (hb : Below w.heap.size w W) => mParseW A ts n c s W (hG.below hb) (HT.out.below hb) (by omega) (by omega)
      by_cases gg : (mParse ts s).2 = 0
      rotate_left
      · have hno := parse_no gg
        have e5 : ((mParse ts s).2 != 0) = true := bneq' (intbne gg)
        generalize mParse ts s = pr at *
        obtain ⟨⟨pc, pa⟩, pz⟩ := pr
        obtain ⟨rfl, rfl⟩ : pc = [] ∧ pa = [] := by injection hno with h1 h2; exact ⟨h1, h2⟩
        simp only [pmV] at P3
        dsimp only at e5
        have P3 := Lib.hid P3
        have hE := fun (w : World) => eqM1 ⟨[], []⟩ ⟨[], []⟩ w
        rw [show sameM ⟨[], []⟩ ⟨[], []⟩ = true by simp [sameM]] at hE
        have hEG := guardM
        clear gg hno
        go_wp2_with fail
        ((with_reducible refine (P3.out _ hb).mono ?_); rintro e w20 ⟨rfl, hb20⟩)
        have hbA := below_alloc w20 (.cells #[.string ⟨#[]⟩, .string ⟨#[]⟩] 25)
        have x11 := FBox.new w20 (.string ⟨#[]⟩) (.string ⟨#[]⟩) 25
        replace hb20 := bto hb20 hbA
        clear hbA
        replace hb := bto hb hb20
        clear hb20
        have q0 := x11.c0
        have q1 := x11.c1
        clear P3
        go_wp2_with fail
        ((with_reducible refine (HAw.out.of hG hb).mono ?_); rintro e wz ⟨rfl, hbz⟩)
        replace hb := bto hb hbz
        clear hbz
        go_wp2
        go_ret
        exact ⟨rfl, hb⟩
      obtain ⟨T, cu, z, hP⟩ := parse_back gg
      generalize mParse ts s = pr at *
      obtain ⟨⟨pc, pa⟩, pz⟩ := pr
      obtain rfl : pz = 0 := gg
      simp only [pmV] at P3
      have P3 := Lib.hid P3
      have hst := hP.txt
      have hz := hP.zlen (by rw [hst] at hs40; simp at hs40; omega)
      have hc3 := codeB_len hP.code
      have hTl : T.length ≤ 40 := by rw [hst] at hs40; simp at hs40; omega
      have hfT := hP.find
      have hp := hP.p0
      obtain ⟨p, hpp⟩ : ∃ p : Nat, p = cu.places.toNat := ⟨_, rfl⟩
      have hpi : cu.places = (p : Int) := by omega
      have htx := hP.text
      have hqq := hP.q
      rw [← hpp] at htx hqq
      have hpt := text_point z p hP.code
      have hz1 := textD_len z p
      have P4 := fun (W : World) (hb : Below w.heap.size w W) => mText A ts n c ⟨pc, pa⟩ W (hG.below hb) (HT.out.below hb) (by show pc.length ≤ 1000; have h : pc.length = 3 := hc3; omega) (by show pa.length ≤ 200; have h : pa = canon z := hP.amt; rw [h]; omega)
      rw [htx] at P4
      have P4 := Lib.hid P4
      have P5 := Lib.hid (rTrimSu s (32 :: pc) (by omega))
      rw [show Lib.trimSuffix s (32 :: pc) = T by rw [hst]; exact trim_app _ _] at P5
      have p6 := dFrac (s := T) (by omega)
      rw [fracV_t hP.ok] at p6
      have P6 := Lib.hid p6
      have P7 := Lib.hid (rTrimSu (textD z p ++ 32 :: pc) (32 :: pc) (by have h : pc.length = 3 := hc3; simp; omega))
      rw [show Lib.trimSuffix (textD z p ++ 32 :: pc) (32 :: pc) = textD z p from trim_app _ _] at P7
      have p8 := dFrac (s := textD z p) (by omega)
      rw [fracV_t (textD_ok z p), ← hqq] at p8
      have P8 := Lib.hid p8
      have p9 : RetB w 32 #[.slice A n c, .string ⟨pc.toArray⟩] (.tuple #[.agg #[.string ⟨cu.code.toArray⟩, .int .i64 cu.places], .bool true]) := by
        have h := mFindB HT.out pc
        rw [show findT ts pc = some cu from hfT] at h
        exact h
      rw [hpi] at p9
      have P9 := Lib.hid p9
      have P10 := Lib.hid (rIdx46 (textD z p ++ 32 :: pc))
      have hadd := fun (w : World) => str_addM [32] pc (by have h : pc.length = 3 := hc3; simp; omega) w
      have hE := fun (w : World) => eqQF (fN (decQ T)) (fD (decQ T)) (fN (decQ T)) (fD (decQ T)) w
      rw [show sameQ (fN (decQ T)) (fD (decQ T)) (fN (decQ T)) (fD (decQ T)) = true by simp [sameQ]] at hE
      have hEG := guardQF
      have hHt := Lib.hid hpt
      generalize fN (decQ T) = u1 at *
      generalize fD (decQ T) = u2 at *
      obtain ⟨Z, hZ⟩ : ∃ Z, Z = textD z p ++ 32 :: pc := ⟨_, rfl⟩
      rw [← hZ] at P4 P7 P10 hHt
      have hZl : Z.length ≤ 1000000 := by rw [hZ]; have h : pc.length = 3 := hc3; simp; omega
      clear hP hst hz hc3 hTl hfT hp hpp hpi htx hqq hz1 hpt p6 p8 p9 hZ HT hs40
      go_wp2_with fail
      ((with_reducible refine (P3.out _ hb).mono ?_); rintro e w20 ⟨rfl, hb20⟩)
      have hbA := below_alloc w20 (.cells #[.string ⟨pc.toArray⟩, .string ⟨pa.toArray⟩] 25)
      have x11 := FBox.new w20 (.string ⟨pc.toArray⟩) (.string ⟨pa.toArray⟩) 25
      replace hb20 := bto hb20 hbA
      clear hbA
      replace hb := bto hb hb20
      clear hb20
      have q0 := x11.c0
      have q1 := x11.c1
      clear P3
      go_wp2_with fail
      ((with_reducible refine (P4.out _ hb).mono ?_); rintro e w21 ⟨rfl, hb21⟩)
      replace x11 := x11.below hb21
      replace hb := bto hb hb21
      clear hb21
      have q0 := x11.c0
      have q1 := x11.c1
      clear P4
      go_wp2_with fail
      ((with_reducible refine (P5.out.of hG hb).mono ?_); rintro e w22 ⟨rfl, hb22⟩)
      replace x11 := x11.below hb22
      replace hb := bto hb hb22
      clear hb22
      have q0 := x11.c0
      clear P5 q1
      go_wp2_with fail
      ((with_reducible refine (P6.out.of hG hb).mono ?_); rintro e w23 ⟨rfl, hb23⟩)
      have hbA := below_alloc w23 (.cells #[.string ⟨u1.toArray⟩, .string ⟨u2.toArray⟩] 42)
      have x15 := FBox.new w23 (.string ⟨u1.toArray⟩) (.string ⟨u2.toArray⟩) 42
      replace hb23 := bto hb23 hbA
      clear hbA
      replace x11 := x11.below hb23
      replace hb := bto hb hb23
      clear hb23
      have q0 := x11.c0
      clear P6
      go_wp2_with fail
      ((with_reducible refine (P7.out.of hG hb).mono ?_); rintro e w24 ⟨rfl, hb24⟩)
      replace x11 := x11.below hb24
      replace x15 := x15.below hb24
      replace hb := bto hb hb24
      clear hb24
      have q0 := x11.c0
      clear P7
      go_wp2_with fail
      ((with_reducible refine (P8.out.of hG hb).mono ?_); rintro e w25 ⟨rfl, hb25⟩)
      have hbA := below_alloc w25 (.cells #[.string ⟨u1.toArray⟩, .string ⟨u2.toArray⟩] 42)
      have x17 := FBox.new w25 (.string ⟨u1.toArray⟩) (.string ⟨u2.toArray⟩) 42
      replace hb25 := bto hb25 hbA
      clear hbA
      replace x11 := x11.below hb25
      replace x15 := x15.below hb25
      replace hb := bto hb hb25
      clear hb25
      have q0 := x11.c0
      clear P8
      go_wp2_with fail
      ((with_reducible refine (P9.out.of hG hb).mono ?_); rintro e w26 ⟨rfl, hb26⟩)
      have hbA := below_alloc w26 (.cells #[.string ⟨cu.code.toArray⟩, .int .i64 (p : Int)] 47)
      have x19 := FBox.new w26 (.string ⟨cu.code.toArray⟩) (.int .i64 (p : Int)) 47
      replace hb26 := bto hb26 hbA
      clear hbA
      replace x15 := x15.below hb26
      replace x17 := x17.below hb26
      replace hb := bto hb hb26
      clear hb26
      clear P9 x11 q0
      go_wp2_with fail
      ((with_reducible refine (P10.out.of hG hb).mono ?_); rintro e w27 ⟨rfl, hb27⟩)
      replace x15 := x15.below hb27
      replace x17 := x17.below hb27
      replace x19 := x19.below hb27
      replace hb := bto hb hb27
      clear hb27
      clear P10
      have q0 := x15.c0
      have q1 := x15.c1
      have q2 := x17.c0
      have q3 := x17.c1
      have q4 := x19.c1
      rcases hHt.out with ⟨rfl, hix⟩ | ⟨a, hp0, hix, hla⟩
      · rw [hix]
        clear hHt hix hadd
        go_wp2_with fail
        ((with_reducible refine (HAw.out.of hG hb).mono ?_); rintro e wz ⟨rfl, hbz⟩)
        replace hb := bto hb hbz
        clear hbz
        go_wp2
        go_ret
        exact ⟨rfl, hb⟩
      · rw [hix]
        have hk : Z.length = a + 1 + p + 4 := hla
        have e1 : decide ((a : Int) ≥ 0) = true := decide_eq_true (by omega)
        have hpl : (Z.length : Int) - 4 - (a : Int) - 1 = (p : Int) := by omega
        clear hHt hix hadd hla hk
        go_wp2_with fail
        ((with_reducible refine (HAw.out.of hG hb).mono ?_); rintro e wz ⟨rfl, hbz⟩)
        replace hb := bto hb hbz
        clear hbz
        go_wp2
        go_ret
        exact ⟨rfl, hb⟩
    · have e3 : ((textV ts m).2 == 0) = false := intbne ge
      generalize (textV ts m).1 = X at *
      generalize (textV ts m).2 = ze at *
      have P1 := Lib.hid P1
      clear ge hL
      go_wp2_with fail
      ((with_reducible refine (P1.out _ hb).mono ?_); rintro e w5 ⟨rfl, hb5⟩)
      replace hb := bto hb hb5
      clear hb5
      clear P1 x4 q0 q1
      have P3 := fun (W : World) (hb : Below w.heap.size w W) => mParseW A ts n c s W (hG.below hb) (HT.out.below hb) (by omega) (by omega)
      by_cases gg : (mParse ts s).2 = 0
      rotate_left
      · have hno := parse_no gg
        have e5 : ((mParse ts s).2 != 0) = true := bneq' (intbne gg)
        generalize mParse ts s = pr at *
        obtain ⟨⟨pc, pa⟩, pz⟩ := pr
        obtain ⟨rfl, rfl⟩ : pc = [] ∧ pa = [] := by injection hno with h1 h2; exact ⟨h1, h2⟩
        simp only [pmV] at P3
        dsimp only at e5
        have P3 := Lib.hid P3
        have hE := fun (w : World) => eqM1 ⟨[], []⟩ ⟨[], []⟩ w
        rw [show sameM ⟨[], []⟩ ⟨[], []⟩ = true by simp [sameM]] at hE
        have hEG := guardM
        clear gg hno
        go_wp2_with fail
        ((with_reducible refine (P3.out _ hb).mono ?_); rintro e w20 ⟨rfl, hb20⟩)
        have hbA := below_alloc w20 (.cells #[.string ⟨#[]⟩, .string ⟨#[]⟩] 25)
        have x11 := FBox.new w20 (.string ⟨#[]⟩) (.string ⟨#[]⟩) 25
        replace hb20 := bto hb20 hbA
        clear hbA
        replace hb := bto hb hb20
        clear hb20
        have q0 := x11.c0
        have q1 := x11.c1
        clear P3
        go_wp2_with fail
        ((with_reducible refine (HAw.out.of hG hb).mono ?_); rintro e wz ⟨rfl, hbz⟩)
        replace hb := bto hb hbz
        clear hbz
        go_wp2
        go_ret
        exact ⟨rfl, hb⟩
      obtain ⟨T, cu, z, hP⟩ := parse_back gg
      generalize mParse ts s = pr at *
      obtain ⟨⟨pc, pa⟩, pz⟩ := pr
      obtain rfl : pz = 0 := gg
      simp only [pmV] at P3
      have P3 := Lib.hid P3
      have hst := hP.txt
      have hz := hP.zlen (by rw [hst] at hs40; simp at hs40; omega)
      have hc3 := codeB_len hP.code
      have hTl : T.length ≤ 40 := by rw [hst] at hs40; simp at hs40; omega
      have hfT := hP.find
      have hp := hP.p0
      obtain ⟨p, hpp⟩ : ∃ p : Nat, p = cu.places.toNat := ⟨_, rfl⟩
      have hpi : cu.places = (p : Int) := by omega
      have htx := hP.text
      have hqq := hP.q
      rw [← hpp] at htx hqq
      have hpt := text_point z p hP.code
      have hz1 := textD_len z p
      have P4 := fun (W : World) (hb : Below w.heap.size w W) => mText A ts n c ⟨pc, pa⟩ W (hG.below hb) (HT.out.below hb) (by show pc.length ≤ 1000; have h : pc.length = 3 := hc3; omega) (by show pa.length ≤ 200; have h : pa = canon z := hP.amt; rw [h]; omega)
      rw [htx] at P4
      have P4 := Lib.hid P4
      have P5 := Lib.hid (rTrimSu s (32 :: pc) (by omega))
      rw [show Lib.trimSuffix s (32 :: pc) = T by rw [hst]; exact trim_app _ _] at P5
      have p6 := dFrac (s := T) (by omega)
      rw [fracV_t hP.ok] at p6
      have P6 := Lib.hid p6
      have P7 := Lib.hid (rTrimSu (textD z p ++ 32 :: pc) (32 :: pc) (by have h : pc.length = 3 := hc3; simp; omega))
      rw [show Lib.trimSuffix (textD z p ++ 32 :: pc) (32 :: pc) = textD z p from trim_app _ _] at P7
      have p8 := dFrac (s := textD z p) (by omega)
      rw [fracV_t (textD_ok z p), ← hqq] at p8
      have P8 := Lib.hid p8
      have p9 : RetB w 32 #[.slice A n c, .string ⟨pc.toArray⟩] (.tuple #[.agg #[.string ⟨cu.code.toArray⟩, .int .i64 cu.places], .bool true]) := by
        have h := mFindB HT.out pc
        rw [show findT ts pc = some cu from hfT] at h
        exact h
      rw [hpi] at p9
      have P9 := Lib.hid p9
      have P10 := Lib.hid (rIdx46 (textD z p ++ 32 :: pc))
      have hadd := fun (w : World) => str_addM [32] pc (by have h : pc.length = 3 := hc3; simp; omega) w
      have hE := fun (w : World) => eqQF (fN (decQ T)) (fD (decQ T)) (fN (decQ T)) (fD (decQ T)) w
      rw [show sameQ (fN (decQ T)) (fD (decQ T)) (fN (decQ T)) (fD (decQ T)) = true by simp [sameQ]] at hE
      have hEG := guardQF
      have hHt := Lib.hid hpt
      generalize fN (decQ T) = u1 at *
      generalize fD (decQ T) = u2 at *
      obtain ⟨Z, hZ⟩ : ∃ Z, Z = textD z p ++ 32 :: pc := ⟨_, rfl⟩
      rw [← hZ] at P4 P7 P10 hHt
      have hZl : Z.length ≤ 1000000 := by rw [hZ]; have h : pc.length = 3 := hc3; simp; omega
      clear hP hst hz hc3 hTl hfT hp hpp hpi htx hqq hz1 hpt p6 p8 p9 hZ HT hs40
      go_wp2_with fail
      ((with_reducible refine (P3.out _ hb).mono ?_); rintro e w20 ⟨rfl, hb20⟩)
      have hbA := below_alloc w20 (.cells #[.string ⟨pc.toArray⟩, .string ⟨pa.toArray⟩] 25)
      have x11 := FBox.new w20 (.string ⟨pc.toArray⟩) (.string ⟨pa.toArray⟩) 25
      replace hb20 := bto hb20 hbA
      clear hbA
      replace hb := bto hb hb20
      clear hb20
      have q0 := x11.c0
      have q1 := x11.c1
      clear P3
      go_wp2_with fail
      ((with_reducible refine (P4.out _ hb).mono ?_); rintro e w21 ⟨rfl, hb21⟩)
      replace x11 := x11.below hb21
      replace hb := bto hb hb21
      clear hb21
      have q0 := x11.c0
      have q1 := x11.c1
      clear P4
      go_wp2_with fail
      ((with_reducible refine (P5.out.of hG hb).mono ?_); rintro e w22 ⟨rfl, hb22⟩)
      replace x11 := x11.below hb22
      replace hb := bto hb hb22
      clear hb22
      have q0 := x11.c0
      clear P5 q1
      go_wp2_with fail
      ((with_reducible refine (P6.out.of hG hb).mono ?_); rintro e w23 ⟨rfl, hb23⟩)
      have hbA := below_alloc w23 (.cells #[.string ⟨u1.toArray⟩, .string ⟨u2.toArray⟩] 42)
      have x15 := FBox.new w23 (.string ⟨u1.toArray⟩) (.string ⟨u2.toArray⟩) 42
      replace hb23 := bto hb23 hbA
      clear hbA
      replace x11 := x11.below hb23
      replace hb := bto hb hb23
      clear hb23
      have q0 := x11.c0
      clear P6
      go_wp2_with fail
      ((with_reducible refine (P7.out.of hG hb).mono ?_); rintro e w24 ⟨rfl, hb24⟩)
      replace x11 := x11.below hb24
      replace x15 := x15.below hb24
      replace hb := bto hb hb24
      clear hb24
      have q0 := x11.c0
      clear P7
      go_wp2_with fail
      ((with_reducible refine (P8.out.of hG hb).mono ?_); rintro e w25 ⟨rfl, hb25⟩)
      have hbA := below_alloc w25 (.cells #[.string ⟨u1.toArray⟩, .string ⟨u2.toArray⟩] 42)
      have x17 := FBox.new w25 (.string ⟨u1.toArray⟩) (.string ⟨u2.toArray⟩) 42
      replace hb25 := bto hb25 hbA
      clear hbA
      replace x11 := x11.below hb25
      replace x15 := x15.below hb25
      replace hb := bto hb hb25
      clear hb25
      have q0 := x11.c0
      clear P8
      go_wp2_with fail
      ((with_reducible refine (P9.out.of hG hb).mono ?_); rintro e w26 ⟨rfl, hb26⟩)
      have hbA := below_alloc w26 (.cells #[.string ⟨cu.code.toArray⟩, .int .i64 (p : Int)] 47)
      have x19 := FBox.new w26 (.string ⟨cu.code.toArray⟩) (.int .i64 (p : Int)) 47
      replace hb26 := bto hb26 hbA
      clear hbA
      replace x15 := x15.below hb26
      replace x17 := x17.below hb26
      replace hb := bto hb hb26
      clear hb26
      clear P9 x11 q0
      go_wp2_with fail
      ((with_reducible refine (P10.out.of hG hb).mono ?_); rintro e w27 ⟨rfl, hb27⟩)
      replace x15 := x15.below hb27
      replace x17 := x17.below hb27
      replace x19 := x19.below hb27
      replace hb := bto hb hb27
      clear hb27
      clear P10
      have q0 := x15.c0
      have q1 := x15.c1
      have q2 := x17.c0
      have q3 := x17.c1
      have q4 := x19.c1
      rcases hHt.out with ⟨rfl, hix⟩ | ⟨a, hp0, hix, hla⟩
      · rw [hix]
        clear hHt hix hadd
        go_wp2_with fail
        ((with_reducible refine (HAw.out.of hG hb).mono ?_); rintro e wz ⟨rfl, hbz⟩)
        replace hb := bto hb hbz
        clear hbz
        go_wp2
        go_ret
        exact ⟨rfl, hb⟩
      · rw [hix]
        have hk : Z.length = a + 1 + p + 4 := hla
        have e1 : decide ((a : Int) ≥ 0) = true := decide_eq_true (by omega)
        have hpl : (Z.length : Int) - 4 - (a : Int) - 1 = (p : Int) := by omega
        clear hHt hix hadd hla hk
        go_wp2_with fail
        ((with_reducible refine (HAw.out.of hG hb).mono ?_); rintro e wz ⟨rfl, hbz⟩)
        replace hb := bto hb hbz
        clear hbz
        go_wp2
        go_ret
        exact ⟨rfl, hb⟩
end Go.Proofs.YtdjjlbfleibhjaaGreatDoor
