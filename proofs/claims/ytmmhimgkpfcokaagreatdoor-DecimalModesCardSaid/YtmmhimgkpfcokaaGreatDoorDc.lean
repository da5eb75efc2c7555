/- strings.HasPrefix; package decimal: Text. -/
import Derived.Test.YtmmhimgkpfcokaaGreatDoorDb
namespace Go.Proofs.YtmmhimgkpfcokaaGreatDoor
open Go.RowKit Num
theorem wbyte_c (c : UInt8) (B b : Nat) (bs : List UInt8) (w : World) (h : Bld B b bs w) (hlen : bs.length ≤ 100000000000) (hBw : B ≤ w.heap.size) :
    Calls Tryz.prog 96 #[.pointer (some ⟨b, 0, none⟩), .int .u8 (c.toNat : Int)] w fun e w' => e = .returned .nilIface ∧ Bld B b (bs ++ [c]) w' ∧ Below B w w' := by
  refine (Tryz.Builder_WriteByte B b (Lib.byteCells bs) (c.toNat : Int) w h (by rw [Lib.byteCells_length]; omega) hBw).mono ?_
  rintro e w' ⟨rfl, h1, h2⟩
  refine ⟨rfl, .inr ?_, h2⟩
  have : Lib.byteCells (bs ++ [c]) = Lib.byteCells bs ++ [.int .u8 (c.toNat : Int)] := by simp [Lib.byteCells]
  rw [this]; exact h1
theorem rRepeat (z : Int) (c : Nat) (hz : z = c) (hc : c ≤ 1000) : Ret 97 #[.string ⟨#[48]⟩, .int .i64 z] (.string ⟨(List.replicate c (48 : UInt8)).toArray⟩) := fun w _ => repeat_int z c w hz hc
set_option maxHeartbeats 1000000 in
set_option maxRecDepth 100000 in
theorem hPre_lite (l : List UInt8) (hl : l.length ≤ 1000000) : Ret 155 #[.string ⟨l.toArray⟩, .string ⟨#[45]⟩] (.bool (isNeg l)) := fun w hG => by
  have hb := Below.refl w.heap.size w
  cases l with
  | nil =>
    go_enter Tryz.func155, Tryz.ntmps155
    go_wp2
    go_ret
    exact ⟨rfl, hb⟩
  | cons a t =>
    have ht : t.length ≤ 1000000 := by simp at hl; omega
    have k4 : (⟨(a :: t).toArray⟩ : ByteArray).extract 0 1 = ⟨#[a]⟩ := by rw [extract_list]; rfl
    have hv : isNeg (a :: t) = (a == 45) := by unfold isNeg; simp
    rw [hv]
    by_cases ha : a = 45
    · subst ha
      go_enter Tryz.func155, Tryz.ntmps155
      go_wp2
      go_ret
      exact ⟨rfl, hb⟩
    · have e1 : (a == 45) = false := by rw [beq_eq_false_iff_ne]; exact ha
      have e2 : ([a] == [45]) = false := by rw [beq_eq_false_iff_ne]; simpa using ha
      go_enter Tryz.func155, Tryz.ntmps155
      go_wp2
      go_ret
      exact ⟨by rw [e1]; first | done | rfl, hb⟩
theorem hPre (l : List UInt8) (hl : l.length ≤ 1000000) : Ret 95 #[.string ⟨l.toArray⟩, .string ⟨#[45]⟩] (.bool (isNeg l)) := fun w hG => by
  have c1 := hPre_lite l hl
  have hb := Below.refl w.heap.size w
  go_enter Tryz.func95, Tryz.ntmps95
  go_wp2_with fail
  ((with_reducible refine (c1.of hG hb).mono ?_); rintro e w2 ⟨rfl, hb2⟩)
  go_wp2
  go_ret
  exact ⟨rfl, bto hb hb2⟩
set_option maxHeartbeats 2000000 in
set_option maxRecDepth 100000 in
theorem dText_n0 {l : List UInt8} (hl : l.length ≤ 1000) {z : Int} (e : val l = z) {p : Nat} (hp : p = 0) (hp2 : p ≤ 12) (hz : z < 0) : Ret 34 #[.string ⟨l.toArray⟩, .int .i64 (p : Int)] (.tuple #[.string ⟨(textD z p).toArray⟩, .int .i64 0]) := fun w hG => by
  have c1 := dPlaces (n := (p : Int)) (by omega) (by omega)
  have c2 := riCanonical (l := l) (by omega) e
  have hcz : canon z = 45 :: dec z.natAbs := by unfold canon; rw [if_pos hz]
  have hD : (dec z.natAbs).length ≤ 1000 := Nat.le_trans (dec_len_le _ _ (by rw [← e]; exact val_lt l)) hl
  have hd := dec_digs z.natAbs
  have HT : Hid (∀ Z, Z = zpad (p + 1) (dec z.natAbs) → textD z p = [45] ++ (Z.take (Z.length - p) ++ [])) := by
    rintro Z rfl; unfold textD sgnT tW tP; rw [if_pos hz, if_pos hp]
  rw [hcz] at c2
  obtain ⟨D, hDe⟩ : ∃ D, D = dec z.natAbs := ⟨_, rfl⟩
  rw [← hDe] at c2 hD hd HT
  have hneg : isNeg (45 :: D) = true := rfl
  have c3 := hPre (45 :: D) (by simp; omega)
  rw [hneg] at c3
  have hadd := str_add (List.replicate (p + 1 - D.length) 48) D (by simp; omega) (by omega)
  have c4 := rRepeat (max 0 ((p : Int) + 1 - (D.length : Int))) (p + 1 - D.length) (by omega) (by omega)
  obtain ⟨Z, hZ⟩ : ∃ Z, Z = List.replicate (p + 1 - D.length) 48 ++ D := ⟨_, rfl⟩
  rw [← hZ] at hadd
  have hZl : Z.length = max (p + 1) D.length := by rw [hZ]; exact zpad_len _ _
  have HV := Lib.hid (HT.out Z hZ)
  have hz1 : Z.length ≤ 2000 := by omega
  have hz2 : p + 1 ≤ Z.length := by omega
  have kx : (⟨Z.toArray⟩ : ByteArray).extract 0 (Z.length - p) = ⟨(Z.take (Z.length - p)).toArray⟩ := by rw [extract_list]; simp
  have ky : (⟨Z.toArray⟩ : ByteArray).extract (Z.length - p) Z.length = ⟨(Z.drop (Z.length - p)).toArray⟩ := by rw [extract_list]; simp
  have kx' : (⟨Z.toArray⟩ : ByteArray).extract 0 ((Z.length : Int) - (p : Int)).toNat = ⟨(Z.take (Z.length - p)).toArray⟩ := by rw [show ((Z.length : Int) - (p : Int)).toNat = Z.length - p by omega]; exact kx
  have ky' : (⟨Z.toArray⟩ : ByteArray).extract ((Z.length : Int) - (p : Int)).toNat Z.length = ⟨(Z.drop (Z.length - p)).toArray⟩ := by rw [show ((Z.length : Int) - (p : Int)).toNat = Z.length - p by omega]; exact ky
  have hA : (Z.take (Z.length - p)).length ≤ 2000 := by rw [List.length_take]; omega
  have hB : (Z.drop (Z.length - p)).length ≤ 2000 := by rw [List.length_drop]; omega
  generalize Z.take (Z.length - p) = ZA at *
  generalize Z.drop (Z.length - p) = ZB at *
  have k4 : (⟨(45 :: D).toArray⟩ : ByteArray).extract 1 (D.length + 1) = ⟨D.toArray⟩ := by rw [extract_list]; simp
  have k9 : ¬ 0 < p := by omega
  have e0 : decide (0 < (p : Int)) = false := decide_eq_false (by omega)
  have C1 := Lib.hid c1
  have C2 := Lib.hid c2
  have C3 := Lib.hid c3
  have C4 := Lib.hid c4
  have hb := Below.refl w.heap.size w
  clear c1 c2 c3 c4 hcz hd HT hDe hneg hZ hZl e hz hp hl
  generalize List.replicate (p + 1 - D.length) (48 : UInt8) = Rp at *
  go_enter Tryz.func34, Tryz.ntmps34
  go_wp2_with fail
  ((with_reducible refine (C1.out.of hG hb).mono ?_); rintro e w1 ⟨rfl, hb1⟩)
  replace hb := bto hb hb1
  clear hb1
  go_wp2_with fail
  ((with_reducible refine (C2.out.of hG hb).mono ?_); rintro e w2 ⟨rfl, hb2⟩)
  replace hb := bto hb hb2
  have hbd := bld_new w2
  have hw2 : w.heap.size ≤ w2.heap.size := hb.size
  have hb8 := below_alloc w2 (.cells #[.pointer none, .slice none 0 0] 112)
  have hs2 : w2.heap.size ≤ (w2.alloc (.cells #[.pointer none, .slice none 0 0] 112)).heap.size := hb8.size
  replace hb := bto hb hb8
  clear hb2 hb8
  go_wp2_with fail
  ((with_reducible refine (C3.out.of hG hb).mono ?_); rintro e w3 ⟨rfl, hb3⟩)
  replace hb := bto hb hb3
  replace hbd := hbd.below hb3
  have hs3 := Nat.le_trans hs2 hb3.size
  generalize w2.heap.size = n8 at *
  clear hb3 hs2 C1 C2 C3
  go_wp2_with fail
  (refine (wbyte_c 45 _ _ _ _ hbd (by simp) hs3).mono ?_; rintro e w4 ⟨rfl, hbd4, hb4⟩)
  replace hbd := hbd4
  replace hb := hb.trans (hb4.mono hw2)
  replace hs3 := Nat.le_trans hs3 hb4.size
  clear hbd4 hb4
  go_wp2_with fail
  ((with_reducible refine (C4.out.of hG hb).mono ?_); rintro e w5 ⟨rfl, hb5⟩)
  replace hbd := hbd.below hb5
  replace hb := bto hb hb5
  replace hs3 := Nat.le_trans hs3 hb5.size
  clear hb5
  go_wp2_with fail
  (refine (wstr_any _ _ _ _ _ hbd (by simp) (by omega) hs3).mono ?_; rintro e w6 ⟨rfl, hbd6, hb6⟩)
  replace hbd := hbd6
  replace hb := hb.trans (hb6.mono hw2)
  replace hs3 := Nat.le_trans hs3 hb6.size
  clear hbd6 hb6
  go_wp2_with fail
  (refine (bstring_any _ _ _ _ hbd hs3).mono ?_; rintro e w9 ⟨rfl, hb9⟩)
  replace hb := hb.trans (hb9.mono hw2)
  go_wp2
  go_ret2
  exact ⟨by rw [HV.out]; simp; first | done | rfl, hb⟩
set_option maxHeartbeats 2000000 in
set_option maxRecDepth 100000 in
theorem dText_n1 {l : List UInt8} (hl : l.length ≤ 1000) {z : Int} (e : val l = z) {p : Nat} (hp : 0 < p) (hp2 : p ≤ 12) (hz : z < 0) : Ret 34 #[.string ⟨l.toArray⟩, .int .i64 (p : Int)] (.tuple #[.string ⟨(textD z p).toArray⟩, .int .i64 0]) := fun w hG => by
  have c1 := dPlaces (n := (p : Int)) (by omega) (by omega)
  have c2 := riCanonical (l := l) (by omega) e
  have hcz : canon z = 45 :: dec z.natAbs := by unfold canon; rw [if_pos hz]
  have hD : (dec z.natAbs).length ≤ 1000 := Nat.le_trans (dec_len_le _ _ (by rw [← e]; exact val_lt l)) hl
  have hd := dec_digs z.natAbs
  have HT : Hid (∀ Z, Z = zpad (p + 1) (dec z.natAbs) → textD z p = [45] ++ (Z.take (Z.length - p) ++ 46 :: Z.drop (Z.length - p))) := by
    rintro Z rfl; unfold textD sgnT tW tP; rw [if_pos hz, if_neg (by omega)]
  rw [hcz] at c2
  obtain ⟨D, hDe⟩ : ∃ D, D = dec z.natAbs := ⟨_, rfl⟩
  rw [← hDe] at c2 hD hd HT
  have hneg : isNeg (45 :: D) = true := rfl
  have c3 := hPre (45 :: D) (by simp; omega)
  rw [hneg] at c3
  have hadd := str_add (List.replicate (p + 1 - D.length) 48) D (by simp; omega) (by omega)
  have c4 := rRepeat (max 0 ((p : Int) + 1 - (D.length : Int))) (p + 1 - D.length) (by omega) (by omega)
  obtain ⟨Z, hZ⟩ : ∃ Z, Z = List.replicate (p + 1 - D.length) 48 ++ D := ⟨_, rfl⟩
  rw [← hZ] at hadd
  have hZl : Z.length = max (p + 1) D.length := by rw [hZ]; exact zpad_len _ _
  have HV := Lib.hid (HT.out Z hZ)
  have hz1 : Z.length ≤ 2000 := by omega
  have hz2 : p + 1 ≤ Z.length := by omega
  have kx : (⟨Z.toArray⟩ : ByteArray).extract 0 (Z.length - p) = ⟨(Z.take (Z.length - p)).toArray⟩ := by rw [extract_list]; simp
  have ky : (⟨Z.toArray⟩ : ByteArray).extract (Z.length - p) Z.length = ⟨(Z.drop (Z.length - p)).toArray⟩ := by rw [extract_list]; simp
  have kx' : (⟨Z.toArray⟩ : ByteArray).extract 0 ((Z.length : Int) - (p : Int)).toNat = ⟨(Z.take (Z.length - p)).toArray⟩ := by rw [show ((Z.length : Int) - (p : Int)).toNat = Z.length - p by omega]; exact kx
  have ky' : (⟨Z.toArray⟩ : ByteArray).extract ((Z.length : Int) - (p : Int)).toNat Z.length = ⟨(Z.drop (Z.length - p)).toArray⟩ := by rw [show ((Z.length : Int) - (p : Int)).toNat = Z.length - p by omega]; exact ky
  have hA : (Z.take (Z.length - p)).length ≤ 2000 := by rw [List.length_take]; omega
  have hB : (Z.drop (Z.length - p)).length ≤ 2000 := by rw [List.length_drop]; omega
  generalize Z.take (Z.length - p) = ZA at *
  generalize Z.drop (Z.length - p) = ZB at *
  have k4 : (⟨(45 :: D).toArray⟩ : ByteArray).extract 1 (D.length + 1) = ⟨D.toArray⟩ := by rw [extract_list]; simp
  have k9 : 0 < p := by omega
  have e0 : decide (0 < (p : Int)) = true := decide_eq_true (by omega)
  have C1 := Lib.hid c1
  have C2 := Lib.hid c2
  have C3 := Lib.hid c3
  have C4 := Lib.hid c4
  have hb := Below.refl w.heap.size w
  clear c1 c2 c3 c4 hcz hd HT hDe hneg hZ hZl e hz hp hl
  generalize List.replicate (p + 1 - D.length) (48 : UInt8) = Rp at *
  go_enter Tryz.func34, Tryz.ntmps34
  go_wp2_with fail
  ((with_reducible refine (C1.out.of hG hb).mono ?_); rintro e w1 ⟨rfl, hb1⟩)
  replace hb := bto hb hb1
  clear hb1
  go_wp2_with fail
  ((with_reducible refine (C2.out.of hG hb).mono ?_); rintro e w2 ⟨rfl, hb2⟩)
  replace hb := bto hb hb2
  have hbd := bld_new w2
  have hw2 : w.heap.size ≤ w2.heap.size := hb.size
  have hb8 := below_alloc w2 (.cells #[.pointer none, .slice none 0 0] 112)
  have hs2 : w2.heap.size ≤ (w2.alloc (.cells #[.pointer none, .slice none 0 0] 112)).heap.size := hb8.size
  replace hb := bto hb hb8
  clear hb2 hb8
  go_wp2_with fail
  ((with_reducible refine (C3.out.of hG hb).mono ?_); rintro e w3 ⟨rfl, hb3⟩)
  replace hb := bto hb hb3
  replace hbd := hbd.below hb3
  have hs3 := Nat.le_trans hs2 hb3.size
  generalize w2.heap.size = n8 at *
  clear hb3 hs2 C1 C2 C3
  go_wp2_with fail
  (refine (wbyte_c 45 _ _ _ _ hbd (by simp) hs3).mono ?_; rintro e w4 ⟨rfl, hbd4, hb4⟩)
  replace hbd := hbd4
  replace hb := hb.trans (hb4.mono hw2)
  replace hs3 := Nat.le_trans hs3 hb4.size
  clear hbd4 hb4
  go_wp2_with fail
  ((with_reducible refine (C4.out.of hG hb).mono ?_); rintro e w5 ⟨rfl, hb5⟩)
  replace hbd := hbd.below hb5
  replace hb := bto hb hb5
  replace hs3 := Nat.le_trans hs3 hb5.size
  clear hb5
  go_wp2_with fail
  (refine (wstr_any _ _ _ _ _ hbd (by simp) (by omega) hs3).mono ?_; rintro e w6 ⟨rfl, hbd6, hb6⟩)
  replace hbd := hbd6
  replace hb := hb.trans (hb6.mono hw2)
  replace hs3 := Nat.le_trans hs3 hb6.size
  clear hbd6 hb6
  go_wp2_with fail
  (refine (wbyte_c 46 _ _ _ _ hbd (by simp; omega) hs3).mono ?_; rintro e w7 ⟨rfl, hbd7, hb7⟩)
  replace hbd := hbd7
  replace hb := hb.trans (hb7.mono hw2)
  replace hs3 := Nat.le_trans hs3 hb7.size
  clear hbd7 hb7
  go_wp2_with fail
  (refine (wstr_any _ _ _ _ _ hbd (by simp; omega) (by omega) hs3).mono ?_; rintro e w8 ⟨rfl, hbd8, hb8⟩)
  replace hbd := hbd8
  replace hb := hb.trans (hb8.mono hw2)
  replace hs3 := Nat.le_trans hs3 hb8.size
  clear hbd8 hb8
  go_wp2_with fail
  (refine (bstring_any _ _ _ _ hbd hs3).mono ?_; rintro e w9 ⟨rfl, hb9⟩)
  replace hb := hb.trans (hb9.mono hw2)
  go_wp2
  go_ret2
  exact ⟨by rw [HV.out]; simp; first | done | rfl, hb⟩
set_option maxHeartbeats 2000000 in
set_option maxRecDepth 100000 in
theorem dText_p0 {l : List UInt8} (hl : l.length ≤ 1000) {z : Int} (e : val l = z) {p : Nat} (hp : p = 0) (hp2 : p ≤ 12) (hz : ¬ z < 0) : Ret 34 #[.string ⟨l.toArray⟩, .int .i64 (p : Int)] (.tuple #[.string ⟨(textD z p).toArray⟩, .int .i64 0]) := fun w hG => by
  have c1 := dPlaces (n := (p : Int)) (by omega) (by omega)
  have c2 := riCanonical (l := l) (by omega) e
  have hcz : canon z = dec z.natAbs := by unfold canon; rw [if_neg hz]
  have hD : (dec z.natAbs).length ≤ 1000 := Nat.le_trans (dec_len_le _ _ (by rw [← e]; exact val_lt l)) hl
  have hd := dec_digs z.natAbs
  have HT : Hid (∀ Z, Z = zpad (p + 1) (dec z.natAbs) → textD z p = [] ++ (Z.take (Z.length - p) ++ [])) := by
    rintro Z rfl; unfold textD sgnT tW tP; rw [if_neg hz, if_pos hp]
  rw [hcz] at c2
  obtain ⟨D, hDe⟩ : ∃ D, D = dec z.natAbs := ⟨_, rfl⟩
  rw [← hDe] at c2 hD hd HT
  have hneg : isNeg D = false := no45_head hd
  have c3 := hPre D (by omega)
  rw [hneg] at c3
  have hadd := str_add (List.replicate (p + 1 - D.length) 48) D (by simp; omega) (by omega)
  have c4 := rRepeat (max 0 ((p : Int) + 1 - (D.length : Int))) (p + 1 - D.length) (by omega) (by omega)
  obtain ⟨Z, hZ⟩ : ∃ Z, Z = List.replicate (p + 1 - D.length) 48 ++ D := ⟨_, rfl⟩
  rw [← hZ] at hadd
  have hZl : Z.length = max (p + 1) D.length := by rw [hZ]; exact zpad_len _ _
  have HV := Lib.hid (HT.out Z hZ)
  have hz1 : Z.length ≤ 2000 := by omega
  have hz2 : p + 1 ≤ Z.length := by omega
  have kx : (⟨Z.toArray⟩ : ByteArray).extract 0 (Z.length - p) = ⟨(Z.take (Z.length - p)).toArray⟩ := by rw [extract_list]; simp
  have ky : (⟨Z.toArray⟩ : ByteArray).extract (Z.length - p) Z.length = ⟨(Z.drop (Z.length - p)).toArray⟩ := by rw [extract_list]; simp
  have kx' : (⟨Z.toArray⟩ : ByteArray).extract 0 ((Z.length : Int) - (p : Int)).toNat = ⟨(Z.take (Z.length - p)).toArray⟩ := by rw [show ((Z.length : Int) - (p : Int)).toNat = Z.length - p by omega]; exact kx
  have ky' : (⟨Z.toArray⟩ : ByteArray).extract ((Z.length : Int) - (p : Int)).toNat Z.length = ⟨(Z.drop (Z.length - p)).toArray⟩ := by rw [show ((Z.length : Int) - (p : Int)).toNat = Z.length - p by omega]; exact ky
  have hA : (Z.take (Z.length - p)).length ≤ 2000 := by rw [List.length_take]; omega
  have hB : (Z.drop (Z.length - p)).length ≤ 2000 := by rw [List.length_drop]; omega
  generalize Z.take (Z.length - p) = ZA at *
  generalize Z.drop (Z.length - p) = ZB at *

  have k9 : ¬ 0 < p := by omega
  have e0 : decide (0 < (p : Int)) = false := decide_eq_false (by omega)
  have C1 := Lib.hid c1
  have C2 := Lib.hid c2
  have C3 := Lib.hid c3
  have C4 := Lib.hid c4
  have hb := Below.refl w.heap.size w
  clear c1 c2 c3 c4 hcz hd HT hDe hneg hZ hZl e hz hp hl
  generalize List.replicate (p + 1 - D.length) (48 : UInt8) = Rp at *
  go_enter Tryz.func34, Tryz.ntmps34
  go_wp2_with fail
  ((with_reducible refine (C1.out.of hG hb).mono ?_); rintro e w1 ⟨rfl, hb1⟩)
  replace hb := bto hb hb1
  clear hb1
  go_wp2_with fail
  ((with_reducible refine (C2.out.of hG hb).mono ?_); rintro e w2 ⟨rfl, hb2⟩)
  replace hb := bto hb hb2
  have hbd := bld_new w2
  have hw2 : w.heap.size ≤ w2.heap.size := hb.size
  have hb8 := below_alloc w2 (.cells #[.pointer none, .slice none 0 0] 112)
  have hs2 : w2.heap.size ≤ (w2.alloc (.cells #[.pointer none, .slice none 0 0] 112)).heap.size := hb8.size
  replace hb := bto hb hb8
  clear hb2 hb8
  go_wp2_with fail
  ((with_reducible refine (C3.out.of hG hb).mono ?_); rintro e w3 ⟨rfl, hb3⟩)
  replace hb := bto hb hb3
  replace hbd := hbd.below hb3
  have hs3 := Nat.le_trans hs2 hb3.size
  generalize w2.heap.size = n8 at *
  clear hb3 hs2 C1 C2 C3
  go_wp2_with fail
  ((with_reducible refine (C4.out.of hG hb).mono ?_); rintro e w5 ⟨rfl, hb5⟩)
  replace hbd := hbd.below hb5
  replace hb := bto hb hb5
  replace hs3 := Nat.le_trans hs3 hb5.size
  clear hb5
  go_wp2_with fail
  (refine (wstr_any _ _ _ _ _ hbd (by simp) (by omega) hs3).mono ?_; rintro e w6 ⟨rfl, hbd6, hb6⟩)
  replace hbd := hbd6
  replace hb := hb.trans (hb6.mono hw2)
  replace hs3 := Nat.le_trans hs3 hb6.size
  clear hbd6 hb6
  go_wp2_with fail
  (refine (bstring_any _ _ _ _ hbd hs3).mono ?_; rintro e w9 ⟨rfl, hb9⟩)
  replace hb := hb.trans (hb9.mono hw2)
  go_wp2
  go_ret2
  exact ⟨by rw [HV.out]; simp; first | done | rfl, hb⟩
set_option maxHeartbeats 2000000 in
set_option maxRecDepth 100000 in
theorem dText_p1 {l : List UInt8} (hl : l.length ≤ 1000) {z : Int} (e : val l = z) {p : Nat} (hp : 0 < p) (hp2 : p ≤ 12) (hz : ¬ z < 0) : Ret 34 #[.string ⟨l.toArray⟩, .int .i64 (p : Int)] (.tuple #[.string ⟨(textD z p).toArray⟩, .int .i64 0]) := fun w hG => by
  have c1 := dPlaces (n := (p : Int)) (by omega) (by omega)
  have c2 := riCanonical (l := l) (by omega) e
  have hcz : canon z = dec z.natAbs := by unfold canon; rw [if_neg hz]
  have hD : (dec z.natAbs).length ≤ 1000 := Nat.le_trans (dec_len_le _ _ (by rw [← e]; exact val_lt l)) hl
  have hd := dec_digs z.natAbs
  have HT : Hid (∀ Z, Z = zpad (p + 1) (dec z.natAbs) → textD z p = [] ++ (Z.take (Z.length - p) ++ 46 :: Z.drop (Z.length - p))) := by
    rintro Z rfl; unfold textD sgnT tW tP; rw [if_neg hz, if_neg (by omega)]
  rw [hcz] at c2
  obtain ⟨D, hDe⟩ : ∃ D, D = dec z.natAbs := ⟨_, rfl⟩
  rw [← hDe] at c2 hD hd HT
  have hneg : isNeg D = false := no45_head hd
  have c3 := hPre D (by omega)
  rw [hneg] at c3
  have hadd := str_add (List.replicate (p + 1 - D.length) 48) D (by simp; omega) (by omega)
  have c4 := rRepeat (max 0 ((p : Int) + 1 - (D.length : Int))) (p + 1 - D.length) (by omega) (by omega)
  obtain ⟨Z, hZ⟩ : ∃ Z, Z = List.replicate (p + 1 - D.length) 48 ++ D := ⟨_, rfl⟩
  rw [← hZ] at hadd
  have hZl : Z.length = max (p + 1) D.length := by rw [hZ]; exact zpad_len _ _
  have HV := Lib.hid (HT.out Z hZ)
  have hz1 : Z.length ≤ 2000 := by omega
  have hz2 : p + 1 ≤ Z.length := by omega
  have kx : (⟨Z.toArray⟩ : ByteArray).extract 0 (Z.length - p) = ⟨(Z.take (Z.length - p)).toArray⟩ := by rw [extract_list]; simp
  have ky : (⟨Z.toArray⟩ : ByteArray).extract (Z.length - p) Z.length = ⟨(Z.drop (Z.length - p)).toArray⟩ := by rw [extract_list]; simp
  have kx' : (⟨Z.toArray⟩ : ByteArray).extract 0 ((Z.length : Int) - (p : Int)).toNat = ⟨(Z.take (Z.length - p)).toArray⟩ := by rw [show ((Z.length : Int) - (p : Int)).toNat = Z.length - p by omega]; exact kx
  have ky' : (⟨Z.toArray⟩ : ByteArray).extract ((Z.length : Int) - (p : Int)).toNat Z.length = ⟨(Z.drop (Z.length - p)).toArray⟩ := by rw [show ((Z.length : Int) - (p : Int)).toNat = Z.length - p by omega]; exact ky
  have hA : (Z.take (Z.length - p)).length ≤ 2000 := by rw [List.length_take]; omega
  have hB : (Z.drop (Z.length - p)).length ≤ 2000 := by rw [List.length_drop]; omega
  generalize Z.take (Z.length - p) = ZA at *
  generalize Z.drop (Z.length - p) = ZB at *

  have k9 : 0 < p := by omega
  have e0 : decide (0 < (p : Int)) = true := decide_eq_true (by omega)
  have C1 := Lib.hid c1
  have C2 := Lib.hid c2
  have C3 := Lib.hid c3
  have C4 := Lib.hid c4
  have hb := Below.refl w.heap.size w
  clear c1 c2 c3 c4 hcz hd HT hDe hneg hZ hZl e hz hp hl
  generalize List.replicate (p + 1 - D.length) (48 : UInt8) = Rp at *
  go_enter Tryz.func34, Tryz.ntmps34
  go_wp2_with fail
  ((with_reducible refine (C1.out.of hG hb).mono ?_); rintro e w1 ⟨rfl, hb1⟩)
  replace hb := bto hb hb1
  clear hb1
  go_wp2_with fail
  ((with_reducible refine (C2.out.of hG hb).mono ?_); rintro e w2 ⟨rfl, hb2⟩)
  replace hb := bto hb hb2
  have hbd := bld_new w2
  have hw2 : w.heap.size ≤ w2.heap.size := hb.size
  have hb8 := below_alloc w2 (.cells #[.pointer none, .slice none 0 0] 112)
  have hs2 : w2.heap.size ≤ (w2.alloc (.cells #[.pointer none, .slice none 0 0] 112)).heap.size := hb8.size
  replace hb := bto hb hb8
  clear hb2 hb8
  go_wp2_with fail
  ((with_reducible refine (C3.out.of hG hb).mono ?_); rintro e w3 ⟨rfl, hb3⟩)
  replace hb := bto hb hb3
  replace hbd := hbd.below hb3
  have hs3 := Nat.le_trans hs2 hb3.size
  generalize w2.heap.size = n8 at *
  clear hb3 hs2 C1 C2 C3
  go_wp2_with fail
  ((with_reducible refine (C4.out.of hG hb).mono ?_); rintro e w5 ⟨rfl, hb5⟩)
  replace hbd := hbd.below hb5
  replace hb := bto hb hb5
  replace hs3 := Nat.le_trans hs3 hb5.size
  clear hb5
  go_wp2_with fail
  (refine (wstr_any _ _ _ _ _ hbd (by simp) (by omega) hs3).mono ?_; rintro e w6 ⟨rfl, hbd6, hb6⟩)
  replace hbd := hbd6
  replace hb := hb.trans (hb6.mono hw2)
  replace hs3 := Nat.le_trans hs3 hb6.size
  clear hbd6 hb6
  go_wp2_with fail
  (refine (wbyte_c 46 _ _ _ _ hbd (by simp; omega) hs3).mono ?_; rintro e w7 ⟨rfl, hbd7, hb7⟩)
  replace hbd := hbd7
  replace hb := hb.trans (hb7.mono hw2)
  replace hs3 := Nat.le_trans hs3 hb7.size
  clear hbd7 hb7
  go_wp2_with fail
  (refine (wstr_any _ _ _ _ _ hbd (by simp; omega) (by omega) hs3).mono ?_; rintro e w8 ⟨rfl, hbd8, hb8⟩)
  replace hbd := hbd8
  replace hb := hb.trans (hb8.mono hw2)
  replace hs3 := Nat.le_trans hs3 hb8.size
  clear hbd8 hb8
  go_wp2_with fail
  (refine (bstring_any _ _ _ _ hbd hs3).mono ?_; rintro e w9 ⟨rfl, hb9⟩)
  replace hb := hb.trans (hb9.mono hw2)
  go_wp2
  go_ret2
  exact ⟨by rw [HV.out]; simp; first | done | rfl, hb⟩
theorem dText {l : List UInt8} (hl : l.length ≤ 1000) {z : Int} (e : val l = z) {p : Nat} (hp2 : p ≤ 12) : Ret 34 #[.string ⟨l.toArray⟩, .int .i64 (p : Int)] (.tuple #[.string ⟨(textD z p).toArray⟩, .int .i64 0]) := by
  by_cases hz : z < 0
  · rcases Nat.eq_zero_or_pos p with hp | hp
    · exact dText_n0 hl e hp hp2 hz
    · exact dText_n1 hl e hp hp2 hz
  · rcases Nat.eq_zero_or_pos p with hp | hp
    · exact dText_p0 hl e hp hp2 hz
    · exact dText_p1 hl e hp hp2 hz
set_option maxHeartbeats 1000000 in
set_option maxRecDepth 100000 in
theorem dTextOut {l : List UInt8} {n : Int} (hn : n < 0 ∨ 12 < n) : Ret 34 #[.string ⟨l.toArray⟩, .int .i64 n] (.tuple #[.string ⟨#[]⟩, .int .i64 2]) := fun w hG => by
  have c1 := dPlacesBad hn
  have C1 := Lib.hid c1
  have hb := Below.refl w.heap.size w
  clear c1 hn
  go_enter Tryz.func34, Tryz.ntmps34
  go_wp2_with fail
  ((with_reducible refine (C1.out.of hG hb).mono ?_); rintro e w2 ⟨rfl, hb2⟩)
  go_wp2
  go_ret2
  exact ⟨rfl, bto hb hb2⟩
end Go.Proofs.YtmmhimgkpfcokaaGreatDoor
