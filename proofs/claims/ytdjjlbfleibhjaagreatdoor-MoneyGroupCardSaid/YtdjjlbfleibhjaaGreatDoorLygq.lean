/- The law MoneyGroup. -/
import Derived.Test.YtdjjlbfleibhjaaGreatDoorM7
namespace Go.Proofs.YtdjjlbfleibhjaaGreatDoor
open Go.RowKit Num
theorem row_mf {w : World} {r : MRow} {A : Option Addr} {xs : List Mon} {n c : Nat} {W : World} (e : r = ⟨A, xs, n, c⟩) (h : FitR W r) (hI : MonAt w A xs) : MF w A xs n c := by
  subst e; exact ⟨h.len, h.cap, h.sz, h.str, hI⟩
set_option maxHeartbeats 8000000 in
set_option maxRecDepth 100000 in
theorem group_law (A : Option Addr) (xs : List Mon) (n c : Nat) (B : Option Addr) (ys : List Mon) (n' c' : Nat) (C : Option Addr) (zs : List Mon) (n2 c2 : Nat) (w : World) (hG : Glob w)
    (hn : xs.length = n) (hc : n ≤ c) (hm : n ≤ 9223372036854775807) (hI : MonAt w A xs) (hn' : ys.length = n') (hc' : n' ≤ c') (hm' : n' ≤ 9223372036854775807) (hI' : MonAt w B ys) (hn2 : zs.length = n2) (hc2 : n2 ≤ c2) (hm2 : n2 ≤ 9223372036854775807) (hI2 : MonAt w C zs) :
    Calls Tryz.prog 6 #[.slice A n c, .slice B n' c', .slice C n2 c2] w fun e w' => e = .returned (.bool true) ∧ Below w.heap.size w w' := by
  have HAw := Lib.hid wAwake5
  obtain ⟨r, hr⟩ : ∃ r : MRow, r = ⟨A, xs, n, c⟩ := ⟨_, rfl⟩
  obtain ⟨s, hs⟩ : ∃ s : MRow, s = ⟨B, ys, n', c'⟩ := ⟨_, rfl⟩
  obtain ⟨t, ht⟩ : ∃ s : MRow, s = ⟨C, zs, n2, c2⟩ := ⟨_, rfl⟩
  have hrA : r.At w := by rw [hr]; exact ⟨hn, hc, hm, hI⟩
  have hsA : s.At w := by rw [hs]; exact ⟨hn', hc', hm', hI'⟩
  have htA : t.At w := by rw [ht]; exact ⟨hn2, hc2, hm2, hI2⟩
  have hb := below_alloc w (.cells #[r.v, s.v, t.v] 35)
  have CG := Lib.hid (lgreatM _ [r, s, t] 3 3 _ (hG.below hb) rfl (by decide) row3_at (fun q hq => by
    rcases List.mem_cons.1 hq with rfl | hq
    · exact hrA.below hb
    · rcases List.mem_cons.1 hq with rfl | hq
      · exact hsA.below hb
      · rcases List.mem_cons.1 hq with rfl | hq
        · exact htA.below hb
        · cases hq))
  rw [show r.v = .slice A n c by rw [hr]; rfl, show s.v = .slice B n' c' by rw [hs]; rfl, show t.v = .slice C n2 c2 by rw [ht]; rfl] at CG hb
  have HR := Lib.hid hr
  have HS := Lib.hid hs
  have HT := Lib.hid ht
  have HI := Lib.hid hI
  have HI' := Lib.hid hI'
  have HI2 := Lib.hid hI2
  clear hr hs ht hrA hsA htA hn hn' hn2 hm hm' hm2 hI hI' hI2 hc hc' hc2
  go_enter Tryz.func6, Tryz.ntmps6
  go_wp2_with fail
  refine CG.out.mono ?_
  rintro e w2 ⟨g, rfl, hg, hb2⟩
  have HF := Lib.hid hg
  replace hb := bto hb hb2
  clear hg hb2 CG
  cases g with
  | true =>
    clear HF
    go_wp2_with fail
    ((with_reducible refine (HAw.out.of hG hb).mono ?_); rintro e wz ⟨rfl, hbz⟩)
    replace hb := bto hb hbz
    clear hbz
    go_wp2
    go_ret
    exact ⟨rfl, hb⟩
  | false =>
    have hF1 : MF w A xs n c := row_mf HR.out (HF.out rfl r (by simp)) HI.out
    have hF2 : MF w B ys n' c' := row_mf HS.out (HF.out rfl s (by simp)) HI'.out
    have hF3 : MF w C zs n2 c2 := row_mf HT.out (HF.out rfl t (by simp)) HI2.out
    have hs1 : n ≤ 18 := by have := hF1.sz; omega
    have hs2 : n' ≤ 18 := by have := hF2.sz; omega
    have hs3 : n2 ≤ 18 := by have := hF3.sz; omega
    have H1 := Lib.hid hF1
    have H2 := Lib.hid hF2
    have H3 := Lib.hid hF3
    clear hF1 hF2 hF3 HF HR HS HT HI HI' HI2
    by_cases g15 : 15 < n + n' + n2
    · have e1 : decide (15 < n + n' + n2) = true := decide_eq_true g15
      have e2 : decide ((15 : Int) < (n : Int) + (n' : Int) + (n2 : Int)) = true := decide_eq_true (by omega)
      go_wp2_with fail
      ((with_reducible refine (HAw.out.of hG hb).mono ?_); rintro e wz ⟨rfl, hbz⟩)
      replace hb := bto hb hbz
      clear hbz
      go_wp2
      go_ret
      exact ⟨rfl, hb⟩
    have e1 : decide (15 < n + n' + n2) = false := decide_eq_false g15
    have e2 : decide ((15 : Int) < (n : Int) + (n' : Int) + (n2 : Int)) = false := decide_eq_false (by omega)
    have K1 := Lib.hid (mCheckB hG H1.out.ml c)
    have K2 := Lib.hid (mCheckB hG H2.out.ml c')
    have K3 := Lib.hid (mCheckB hG H3.out.ml c2)
    go_wp2_with fail
    ((with_reducible refine (K1.out.of hG hb).mono ?_); rintro e w3 ⟨rfl, hb3⟩)
    replace hb := bto hb hb3
    clear hb3 K1 e1 e2
    by_cases g1 : bagE xs = 0
    rotate_left
    · have e3 : (bagE xs != 0) = true := bneq' (intbne g1)
      generalize bagE xs = E1 at *
      clear g1 K2 K3
      go_wp2_with fail
      ((with_reducible refine (HAw.out.of hG hb).mono ?_); rintro e wz ⟨rfl, hbz⟩)
      replace hb := bto hb hbz
      clear hbz
      go_wp2
      go_ret
      exact ⟨rfl, hb⟩
    rw [g1]
    go_wp2_with fail
    ((with_reducible refine (K2.out.of hG hb).mono ?_); rintro e w4 ⟨rfl, hb4⟩)
    replace hb := bto hb hb4
    clear hb4 K2
    by_cases g2 : bagE ys = 0
    rotate_left
    · have e3 : (bagE ys != 0) = true := bneq' (intbne g2)
      generalize bagE ys = E2 at *
      clear g1 g2 K3
      go_wp2_with fail
      ((with_reducible refine (HAw.out.of hG hb).mono ?_); rintro e wz ⟨rfl, hbz⟩)
      replace hb := bto hb hbz
      clear hbz
      go_wp2
      go_ret
      exact ⟨rfl, hb⟩
    rw [g2]
    go_wp2_with fail
    ((with_reducible refine (K3.out.of hG hb).mono ?_); rintro e w5 ⟨rfl, hb5⟩)
    replace hb := bto hb hb5
    clear hb5 K3
    by_cases g3 : bagE zs = 0
    rotate_left
    · have e3 : (bagE zs != 0) = true := bneq' (intbne g3)
      generalize bagE zs = E3 at *
      clear g1 g2 g3
      go_wp2_with fail
      ((with_reducible refine (HAw.out.of hG hb).mono ?_); rintro e wz ⟨rfl, hbz⟩)
      replace hb := bto hb hbz
      clear hbz
      go_wp2
      go_ret
      exact ⟨rfl, hb⟩
    rw [g3]
    have ga : BG xs 13 n := BG.of g1 H1.out.str (Nat.le_of_eq H1.out.len)
    have gb : BG ys 13 n' := BG.of g2 H2.out.str (Nat.le_of_eq H2.out.len)
    have gc : BG zs 13 n2 := BG.of g3 H3.out.str (Nat.le_of_eq H3.out.len)
    have gab := ga.sum gb
    have gbc := gb.sum gc
    have gl := gab.sum (gc.up (k' := 14) (by decide) (Nat.le_refl _))
    have la := ga.len
    have lb := gb.len
    have lc := gc.len
    have lab := gab.len
    have lbc := gbc.len
    have lle := gl.len
    have E1 : smL ys xs = smL xs ys := sum_comm gb.bag ga.bag
    have E2 : smL xs (smL ys zs) = smL (smL xs ys) zs := (sum_assoc ga.bag gb.bag gc.bag).symm
    have E3 : smL xs (xs.map negM) = [] := sum_neg ga.bag
    have E4 : smL xs [] = xs := sum_nil ga.bag
    have M1 := Lib.hid (fun (W : World) A B n c n' c' (hG : Glob W) (h1 : AtM W A xs n c) (h2 : AtM W B ys n' c') => mSumG hG ga gb (by decide) (by decide) h1 h2 rfl (by omega) (by omega) (by omega))
    have M2 := Lib.hid (fun (W : World) A B n c n' c' (hG : Glob W) (h1 : AtM W A ys n c) (h2 : AtM W B xs n' c') => mSumG hG gb ga (by decide) (by decide) h1 h2 E1 (by omega) (by omega) (by omega))
    have M3 := Lib.hid (fun (W : World) A B n c n' c' (hG : Glob W) (h1 : AtM W A (smL xs ys) n c) (h2 : AtM W B zs n' c') => mSumG hG gab gc (by decide) (by decide) h1 h2 rfl (by omega) (by omega) (by omega))
    have M4 := Lib.hid (fun (W : World) A B n c n' c' (hG : Glob W) (h1 : AtM W A ys n c) (h2 : AtM W B zs n' c') => mSumG hG gb gc (by decide) (by decide) h1 h2 rfl (by omega) (by omega) (by omega))
    have M5 := Lib.hid (fun (W : World) A B n c n' c' (hG : Glob W) (h1 : AtM W A xs n c) (h2 : AtM W B (smL ys zs) n' c') => mSumG hG (ga.up (k' := 14) (by decide) (Nat.le_refl _)) gbc (by decide) (by decide) h1 h2 E2 (by omega) (by omega) (by omega))
    have M6 := Lib.hid (fun (W : World) A n c (hG : Glob W) (h1 : AtM W A xs n c) => mNegG hG ga (by decide) h1 (by omega))
    have M7 := Lib.hid (fun (W : World) A B n c n' c' (hG : Glob W) (h1 : AtM W A xs n c) (h2 : AtM W B (xs.map negM) n' c') => mSumG hG ga ga.neg (by decide) (by decide) h1 h2 E3 (by omega) (by rw [List.length_map]; omega) (by decide))
    have M8 := Lib.hid (fun (W : World) A n c (hG : Glob W) (h1 : AtM W A xs n c) => mSumG hG ga BG.nil (by decide) (by decide) h1 (AtM.nil W) E4 (by omega) (by decide) (by omega))
    have Q1 := Lib.hid (fun (W : World) A B n c n' c' (h1 : AtM W A (smL xs ys) n c) (h2 : AtM W B (smL xs ys) n' c') => eqMG h1 h2 rfl (by omega))
    have Q2 := Lib.hid (fun (W : World) A B n c n' c' (h1 : AtM W A (smL (smL xs ys) zs) n c) (h2 : AtM W B (smL (smL xs ys) zs) n' c') => eqMG h1 h2 rfl (by omega))
    have Q3 := Lib.hid (fun (W : World) A B n c n' c' (h1 : AtM W A xs n c) (h2 : AtM W B xs n' c') => eqMG h1 h2 rfl (by omega))
    have Q4 := Lib.hid (fun (W : World) A n c (hG : Glob W) (h1 : AtM W A (smL xs ys) n c) => (mCheckB hG (gab.ml (by decide) (by omega) h1) c).of hG (Below.refl _ _))
    simp only [gab.ok (by omega)] at Q4
    have xa := H1.out.at.below hb
    have xb := H2.out.at.below hb
    have xc := H3.out.at.below hb
    have hmx := fun (ts : Array TypeId) (t : TypeId) (w : World) => max8 (P := Tryz.prog) ts t w
    clear g1 g2 g3 g15 H1 H2 H3 hs1 hs2 hs3 gl la lb lc lab lbc lle E1 E2 E3 E4 ga gb gc gab gbc
    generalize smL (smL xs ys) zs = v3 at *
    generalize smL xs ys = v1 at *
    generalize smL ys zs = v2 at *
    generalize xs.map negM = v4 at *

    go_wp2_with fail
    refine (M1.out _ _ _ _ _ _ _ (hG.below hb) xa xb).mono ?_
    rintro e w6 ⟨B6, m6, c6, rfl, x6, hb6⟩
    replace xa := xa.below hb6
    replace xb := xb.below hb6
    replace xc := xc.below hb6
    replace hb := bto hb hb6
    clear hb6
    go_wp2_with fail
    refine (M2.out _ _ _ _ _ _ _ (hG.below hb) xb xa).mono ?_
    rintro e w7 ⟨B7, m7, c7, rfl, x7, hb7⟩
    replace xa := xa.below hb7
    replace xb := xb.below hb7
    replace xc := xc.below hb7
    replace x6 := x6.below hb7
    replace hb := bto hb hb7
    clear hb7
    go_wp2_with fail
    refine (M3.out _ _ _ _ _ _ _ (hG.below hb) x6 xc).mono ?_
    rintro e w8 ⟨B8, m8, c8, rfl, x8, hb8⟩
    replace xa := xa.below hb8
    replace xb := xb.below hb8
    replace xc := xc.below hb8
    replace x6 := x6.below hb8
    replace x7 := x7.below hb8
    replace hb := bto hb hb8
    clear hb8
    go_wp2_with fail
    refine (M4.out _ _ _ _ _ _ _ (hG.below hb) xb xc).mono ?_
    rintro e w9 ⟨B9, m9, c9, rfl, x9, hb9⟩
    replace xa := xa.below hb9
    replace xb := xb.below hb9
    replace xc := xc.below hb9
    replace x6 := x6.below hb9
    replace x7 := x7.below hb9
    replace x8 := x8.below hb9
    replace hb := bto hb hb9
    clear hb9
    go_wp2_with fail
    refine (M5.out _ _ _ _ _ _ _ (hG.below hb) xa x9).mono ?_
    rintro e w10 ⟨B10, m10, c10, rfl, x10, hb10⟩
    replace xa := xa.below hb10
    replace xb := xb.below hb10
    replace xc := xc.below hb10
    replace x6 := x6.below hb10
    replace x7 := x7.below hb10
    replace x8 := x8.below hb10
    replace x9 := x9.below hb10
    replace hb := bto hb hb10
    clear hb10
    go_wp2_with fail
    refine (M6.out _ _ _ _ (hG.below hb) xa).mono ?_
    rintro e w11 ⟨B11, m11, c11, rfl, x11, hb11⟩
    replace xa := xa.below hb11
    replace xb := xb.below hb11
    replace xc := xc.below hb11
    replace x6 := x6.below hb11
    replace x7 := x7.below hb11
    replace x8 := x8.below hb11
    replace x9 := x9.below hb11
    replace x10 := x10.below hb11
    replace hb := bto hb hb11
    clear hb11
    go_wp2_with fail
    refine (M7.out _ _ _ _ _ _ _ (hG.below hb) xa x11).mono ?_
    rintro e w12 ⟨B12, m12, c12, rfl, x12, hb12⟩
    replace xa := xa.below hb12
    replace xb := xb.below hb12
    replace xc := xc.below hb12
    replace x6 := x6.below hb12
    replace x7 := x7.below hb12
    replace x8 := x8.below hb12
    replace x9 := x9.below hb12
    replace x10 := x10.below hb12
    replace x11 := x11.below hb12
    replace hb := bto hb hb12
    clear hb12
    go_wp2_with fail
    refine (M8.out _ _ _ _ (hG.below hb) xa).mono ?_
    rintro e w13 ⟨B13, m13, c13, rfl, x13, hb13⟩
    replace xa := xa.below hb13
    replace xb := xb.below hb13
    replace xc := xc.below hb13
    replace x6 := x6.below hb13
    replace x7 := x7.below hb13
    replace x8 := x8.below hb13
    replace x9 := x9.below hb13
    replace x10 := x10.below hb13
    replace x11 := x11.below hb13
    replace x12 := x12.below hb13
    replace hb := bto hb hb13
    clear hb13
    obtain rfl : m12 = 0 := x12.len.symm
    clear M1 M2 M3 M4 M5 M6 M7 M8
    go_wp2_with fail
    refine (Q1.out _ _ _ _ _ _ _ x6 x7).mono ?_
    rintro e w14 ⟨rfl, hb14⟩
    replace xa := xa.below hb14
    replace x6 := x6.below hb14
    replace x7 := x7.below hb14
    replace x8 := x8.below hb14
    replace x10 := x10.below hb14
    replace x13 := x13.below hb14
    replace hb := bto hb hb14
    clear hb14
    go_wp2_with fail
    refine (Q2.out _ _ _ _ _ _ _ x8 x10).mono ?_
    rintro e w15 ⟨rfl, hb15⟩
    replace xa := xa.below hb15
    replace x6 := x6.below hb15
    replace x13 := x13.below hb15
    replace hb := bto hb hb15
    clear hb15
    go_wp2_with fail
    refine (Q3.out _ _ _ _ _ _ _ x13 xa).mono ?_
    rintro e w16 ⟨rfl, hb16⟩
    replace x6 := x6.below hb16
    replace hb := bto hb hb16
    clear hb16
    go_wp2_with fail
    refine (Q4.out _ _ _ _ (hG.below hb) x6).mono ?_
    rintro e w17 ⟨rfl, hb17⟩
    replace hb := bto hb hb17
    clear hb17
    go_wp2_with fail
    ((with_reducible refine (HAw.out.of hG hb).mono ?_); rintro e wz ⟨rfl, hbz⟩)
    replace hb := bto hb hbz
    clear hbz
    go_wp2
    go_ret
    exact ⟨rfl, hb⟩
end Go.Proofs.YtdjjlbfleibhjaaGreatDoor
