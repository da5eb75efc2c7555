/- trancheref03: TextOf, Text, Format. -/
import Derived.BigQuiet
import Derived.Test.YtmmhimgkpfcokaaGreatDoorEa
namespace Go.Proofs.YtmmhimgkpfcokaaGreatDoor
open Go.RowKit Num
set_option maxHeartbeats 4000000 in
set_option maxRecDepth 100000 in
theorem eTextOf_n0 {l : List UInt8} (hl : l.length ≤ 1000) {z : Int} (e : val l = z) {p : Nat} (hp : p = 0) (hp2 : p ≤ 12) (hz : z < 0) : Ret 101 #[.string ⟨l.toArray⟩, .int .i64 (p : Int)] (.string ⟨(textD z p).toArray⟩) := fun w hG => by
  have c2 := qCanonical (l := l) (by omega) e
  have hcz : canon z = 45 :: dec z.natAbs := by unfold canon; rw [if_pos hz]
  have hD : (dec z.natAbs).length ≤ 1000 := Nat.le_trans (Num.dec_len_le _ _ (by rw [← e]; exact val_lt l)) hl
  have hd := dec_digs z.natAbs
  have hd0 : dec z.natAbs = [] ↔ z = 0 := by rw [dec_eq_nil]; omega
  have HT : Hid (∀ Z, Z = zpad (p + 1) (dec z.natAbs) → textD z p = [45] ++ (Z.take (Z.length - p) ++ [])) := by
    rintro Z rfl; unfold textD sgnT tW tP; rw [if_pos hz, if_pos hp]
  rw [hcz] at c2
  obtain ⟨D, hDe⟩ : ∃ D, D = dec z.natAbs := ⟨_, rfl⟩
  rw [← hDe] at c2 hD hd HT hd0
  generalize textD z p = V at *
  have C2 := Lib.hid c2
  have hb := Below.refl w.heap.size w
  have k9 : ¬ 0 < p := by omega
  have k8 : ((p : Int) == 0) = true := by rw [beq_iff_eq]; omega
  have k2 : ∀ hp, ((((⟨(45 :: D).toArray⟩ : ByteArray)[0]'hp).toNat : Int) == 45) = true := fun hp => rfl
  have k4 : (⟨(45 :: D).toArray⟩ : ByteArray).extract 1 (D.length + 1) = ⟨D.toArray⟩ := by rw [extract_list]; simp
  clear c2 hcz hd hDe hd0 hz hp e
  go_enter Tryz.func101, Tryz.ntmps101
  go_wp2_with fail
  ((with_reducible refine (C2.out.of hG hb).mono ?_); rintro e w2 ⟨rfl, hb2⟩)
  replace hb := bto hb hb2
  clear hb2
  go_wp2_with fail
  go_quiet (fail)
  replace hb := bdrewN hb nq
  go_wp2_with fail
  clear k2 k4
  go_loop [5] (fun sv => ∃ (j : Nat) (T : List UInt8), sv = .string ⟨T.toArray⟩ ∧ Hid (T = List.replicate j 48 ++ D) ∧ T.length = j + D.length ∧ (j = 0 ∨ j + D.length ≤ p + 1)) (fun sv => p + 1 - (bytesOf sv).length)
  case atStart => exact ⟨0, D, rfl, rfl, by omega, .inl rfl⟩
  case round =>
    obtain ⟨j, T, rfl, HTj, hTl, hj⟩ := hrel
    by_cases hlt : T.length < p + 1
    · have k5 : decide ((T.length : Int) < (p : Int) + 1) = true := decide_eq_true (by omega)
      have k6 : (T.length : Int) < (p : Int) + 1 := by omega
      have ha := str_add [48] T (by decide) (by omega)
      have HT2 : Hid ([48] ++ T = List.replicate (j + 1) 48 ++ D) := by show _ = _; rw [HTj.out, List.replicate_succ]; rfl
      have hl2 : ([48] ++ T).length = j + 1 + D.length := by simp; omega
      generalize [48] ++ T = T' at *
      go_wp2
      go_round
      case rel => exact ⟨j + 1, T', rfl, HT2, hl2, .inr (by omega)⟩
      case measure => simp only [bytesOf]; show p + 1 - T'.length < p + 1 - T.length; omega
    · have k5 : decide ((T.length : Int) < (p : Int) + 1) = false := decide_eq_false (by omega)
      have k6 : ¬ (T.length : Int) < (p : Int) + 1 := by omega
      have hjj : j = p + 1 - D.length := by omega
      have HV := Lib.hid (HT.out T (by rw [HTj.out, hjj]; rfl))
      have hTb : T.length ≤ 2000 := by omega
      have hTp : p + 1 ≤ T.length := by omega
      clear HTj HT hTl hj hjj
      have ha := str_add [45] T (by decide) (by omega)
      have HV2 : Hid (V = [45] ++ T) := by show _ = _; rw [HV.out, List.append_nil, show T.length - p = T.length by omega, List.take_length]
      clear HV
      go_wp2
      go_ret
      exact ⟨by rw [HV2.out]; first | done | rfl | simp, hb⟩
set_option maxHeartbeats 4000000 in
set_option maxRecDepth 100000 in
theorem eTextOf_n1 {l : List UInt8} (hl : l.length ≤ 1000) {z : Int} (e : val l = z) {p : Nat} (hp : 0 < p) (hp2 : p ≤ 12) (hz : z < 0) : Ret 101 #[.string ⟨l.toArray⟩, .int .i64 (p : Int)] (.string ⟨(textD z p).toArray⟩) := fun w hG => by
  have c2 := qCanonical (l := l) (by omega) e
  have hcz : canon z = 45 :: dec z.natAbs := by unfold canon; rw [if_pos hz]
  have hD : (dec z.natAbs).length ≤ 1000 := Nat.le_trans (Num.dec_len_le _ _ (by rw [← e]; exact val_lt l)) hl
  have hd := dec_digs z.natAbs
  have hd0 : dec z.natAbs = [] ↔ z = 0 := by rw [dec_eq_nil]; omega
  have HT : Hid (∀ Z, Z = zpad (p + 1) (dec z.natAbs) → textD z p = [45] ++ (Z.take (Z.length - p) ++ 46 :: Z.drop (Z.length - p))) := by
    rintro Z rfl; unfold textD sgnT tW tP; rw [if_pos hz, if_neg (by omega)]
  rw [hcz] at c2
  obtain ⟨D, hDe⟩ : ∃ D, D = dec z.natAbs := ⟨_, rfl⟩
  rw [← hDe] at c2 hD hd HT hd0
  generalize textD z p = V at *
  have C2 := Lib.hid c2
  have hb := Below.refl w.heap.size w
  have k9 : 0 < p := by omega
  have k8 : ((p : Int) == 0) = false := by rw [beq_eq_false_iff_ne]; omega
  have k2 : ∀ hp, ((((⟨(45 :: D).toArray⟩ : ByteArray)[0]'hp).toNat : Int) == 45) = true := fun hp => rfl
  have k4 : (⟨(45 :: D).toArray⟩ : ByteArray).extract 1 (D.length + 1) = ⟨D.toArray⟩ := by rw [extract_list]; simp
  clear c2 hcz hd hDe hd0 hz hp e
  go_enter Tryz.func101, Tryz.ntmps101
  go_wp2_with fail
  ((with_reducible refine (C2.out.of hG hb).mono ?_); rintro e w2 ⟨rfl, hb2⟩)
  replace hb := bto hb hb2
  clear hb2
  go_wp2_with fail
  go_quiet (fail)
  replace hb := bdrewN hb nq
  go_wp2_with fail
  clear k2 k4
  go_loop [5] (fun sv => ∃ (j : Nat) (T : List UInt8), sv = .string ⟨T.toArray⟩ ∧ Hid (T = List.replicate j 48 ++ D) ∧ T.length = j + D.length ∧ (j = 0 ∨ j + D.length ≤ p + 1)) (fun sv => p + 1 - (bytesOf sv).length)
  case atStart => exact ⟨0, D, rfl, rfl, by omega, .inl rfl⟩
  case round =>
    obtain ⟨j, T, rfl, HTj, hTl, hj⟩ := hrel
    by_cases hlt : T.length < p + 1
    · have k5 : decide ((T.length : Int) < (p : Int) + 1) = true := decide_eq_true (by omega)
      have k6 : (T.length : Int) < (p : Int) + 1 := by omega
      have ha := str_add [48] T (by decide) (by omega)
      have HT2 : Hid ([48] ++ T = List.replicate (j + 1) 48 ++ D) := by show _ = _; rw [HTj.out, List.replicate_succ]; rfl
      have hl2 : ([48] ++ T).length = j + 1 + D.length := by simp; omega
      generalize [48] ++ T = T' at *
      go_wp2
      go_round
      case rel => exact ⟨j + 1, T', rfl, HT2, hl2, .inr (by omega)⟩
      case measure => simp only [bytesOf]; show p + 1 - T'.length < p + 1 - T.length; omega
    · have k5 : decide ((T.length : Int) < (p : Int) + 1) = false := decide_eq_false (by omega)
      have k6 : ¬ (T.length : Int) < (p : Int) + 1 := by omega
      have hjj : j = p + 1 - D.length := by omega
      have HV := Lib.hid (HT.out T (by rw [HTj.out, hjj]; rfl))
      have hTb : T.length ≤ 2000 := by omega
      have hTp : p + 1 ≤ T.length := by omega
      clear HTj HT hTl hj hjj
      have kx : (⟨T.toArray⟩ : ByteArray).extract 0 (T.length - p) = ⟨(T.take (T.length - p)).toArray⟩ := by rw [extract_list]; simp
      have ky : (⟨T.toArray⟩ : ByteArray).extract (T.length - p) T.length = ⟨(T.drop (T.length - p)).toArray⟩ := by rw [extract_list]; simp
      have kx' : (⟨T.toArray⟩ : ByteArray).extract 0 ((T.length : Int) - (p : Int)).toNat = ⟨(T.take (T.length - p)).toArray⟩ := by rw [show ((T.length : Int) - (p : Int)).toNat = T.length - p by omega]; exact kx
      have ky' : (⟨T.toArray⟩ : ByteArray).extract ((T.length : Int) - (p : Int)).toNat T.length = ⟨(T.drop (T.length - p)).toArray⟩ := by rw [show ((T.length : Int) - (p : Int)).toNat = T.length - p by omega]; exact ky
      have hA : (T.take (T.length - p)).length ≤ 2000 := by rw [List.length_take]; omega
      have hB : (T.drop (T.length - p)).length ≤ 2000 := by rw [List.length_drop]; omega
      have b1 : (0 : Int) ≤ (T.length : Int) - (p : Int) := by omega
      have b2 : (T.length : Int) - (p : Int) ≤ (T.length : Int) := by omega
      generalize T.take (T.length - p) = A at *
      generalize T.drop (T.length - p) = B at *
      have ha1 := str_add [45] A (by decide) (by omega)
      obtain ⟨X1, hX1⟩ : ∃ X1, X1 = [45] ++ A := ⟨_, rfl⟩
      rw [← hX1] at ha1
      have l1 : X1.length ≤ 2001 := by rw [hX1]; simp; omega
      have ha2 := str_add X1 [46] (by omega) (by decide)
      obtain ⟨X2, hX2⟩ : ∃ X2, X2 = X1 ++ [46] := ⟨_, rfl⟩
      rw [← hX2] at ha2
      have l2 : X2.length ≤ 2002 := by rw [hX2]; simp; omega
      have ha3 := str_add X2 B (by omega) (by omega)
      have HV2 : Hid (V = X2 ++ B) := by show _ = _; rw [HV.out, hX2, hX1]; simp
      generalize X2 ++ B = X3 at *
      clear HV hX1 hX2
      go_wp2_with fail
      go_quiet (fail)
      replace hb := bdrewN hb nq
      go_wp2
      go_ret
      exact ⟨by rw [HV2.out]; first | done | rfl, hb⟩
set_option maxHeartbeats 4000000 in
set_option maxRecDepth 100000 in
theorem eTextOf_p0 {l : List UInt8} (hl : l.length ≤ 1000) {z : Int} (e : val l = z) {p : Nat} (hp : p = 0) (hp2 : p ≤ 12) (hz : 0 < z) : Ret 101 #[.string ⟨l.toArray⟩, .int .i64 (p : Int)] (.string ⟨(textD z p).toArray⟩) := fun w hG => by
  have c2 := qCanonical (l := l) (by omega) e
  have hcz : canon z = dec z.natAbs := by unfold canon; rw [if_neg (by omega)]
  have hD : (dec z.natAbs).length ≤ 1000 := Nat.le_trans (Num.dec_len_le _ _ (by rw [← e]; exact val_lt l)) hl
  have hd := dec_digs z.natAbs
  have hd0 : dec z.natAbs = [] ↔ z = 0 := by rw [dec_eq_nil]; omega
  have HT : Hid (∀ Z, Z = zpad (p + 1) (dec z.natAbs) → textD z p = [] ++ (Z.take (Z.length - p) ++ [])) := by
    rintro Z rfl; unfold textD sgnT tW tP; rw [if_neg (by omega), if_pos hp]
  rw [hcz] at c2
  obtain ⟨D, hDe⟩ : ∃ D, D = dec z.natAbs := ⟨_, rfl⟩
  rw [← hDe] at c2 hD hd HT hd0
  generalize textD z p = V at *
  have C2 := Lib.hid c2
  have hb := Below.refl w.heap.size w
  have k9 : ¬ 0 < p := by omega
  have k8 : ((p : Int) == 0) = true := by rw [beq_iff_eq]; omega
  have hne : D ≠ [] := fun h => by have := hd0.1 h; omega
  have e1 : (D == []) = false := by rw [beq_eq_false_iff_ne]; exact hne
  have e2 : D.isEmpty = false := by rw [List.isEmpty_eq_false_iff]; exact hne
  have hlt : 0 < D.length := List.length_pos_iff.2 hne
  have hlt' : 0 < (⟨D.toArray⟩ : ByteArray).size := by show 0 < D.toArray.size; simpa using hlt
  obtain ⟨x, hx⟩ : ∃ x, x = (⟨D.toArray⟩ : ByteArray)[0] := ⟨_, rfl⟩
  have hxl : D[0]? = some x := by rw [hx]; simp [hlt]; rfl
  have hx2 : ∀ hp, (⟨D.toArray⟩ : ByteArray)[0]'hp = x := fun _ => hx.symm
  have hxd : isDig x = true := List.all_eq_true.1 hd x (List.mem_of_getElem? hxl)
  have hx45 : ((x.toNat : Int) == 45) = false := by rw [beq_eq_false_iff_ne]; have := (isDig_iff x).1 hxd; omega
  clear hx hxl hxd hne
  clear c2 hcz hd hDe hd0 hz hp e
  go_enter Tryz.func101, Tryz.ntmps101
  go_wp2_with fail
  ((with_reducible refine (C2.out.of hG hb).mono ?_); rintro e w2 ⟨rfl, hb2⟩)
  replace hb := bto hb hb2
  clear hb2
  go_wp2_with fail
  clear e1 e2 hx2 hx45 hlt hlt'
  go_loop [5] (fun sv => ∃ (j : Nat) (T : List UInt8), sv = .string ⟨T.toArray⟩ ∧ Hid (T = List.replicate j 48 ++ D) ∧ T.length = j + D.length ∧ (j = 0 ∨ j + D.length ≤ p + 1)) (fun sv => p + 1 - (bytesOf sv).length)
  case atStart => exact ⟨0, D, rfl, rfl, by omega, .inl rfl⟩
  case round =>
    obtain ⟨j, T, rfl, HTj, hTl, hj⟩ := hrel
    by_cases hlt : T.length < p + 1
    · have k5 : decide ((T.length : Int) < (p : Int) + 1) = true := decide_eq_true (by omega)
      have k6 : (T.length : Int) < (p : Int) + 1 := by omega
      have ha := str_add [48] T (by decide) (by omega)
      have HT2 : Hid ([48] ++ T = List.replicate (j + 1) 48 ++ D) := by show _ = _; rw [HTj.out, List.replicate_succ]; rfl
      have hl2 : ([48] ++ T).length = j + 1 + D.length := by simp; omega
      generalize [48] ++ T = T' at *
      go_wp2
      go_round
      case rel => exact ⟨j + 1, T', rfl, HT2, hl2, .inr (by omega)⟩
      case measure => simp only [bytesOf]; show p + 1 - T'.length < p + 1 - T.length; omega
    · have k5 : decide ((T.length : Int) < (p : Int) + 1) = false := decide_eq_false (by omega)
      have k6 : ¬ (T.length : Int) < (p : Int) + 1 := by omega
      have hjj : j = p + 1 - D.length := by omega
      have HV := Lib.hid (HT.out T (by rw [HTj.out, hjj]; rfl))
      have hTb : T.length ≤ 2000 := by omega
      have hTp : p + 1 ≤ T.length := by omega
      clear HTj HT hTl hj hjj
      have ha := str_add [] T (by decide) (by omega)
      have HV2 : Hid (V = [] ++ T) := by show _ = _; rw [HV.out, List.append_nil, show T.length - p = T.length by omega, List.take_length]
      clear HV
      go_wp2
      go_ret
      exact ⟨by rw [HV2.out]; first | done | rfl | simp, hb⟩
set_option maxHeartbeats 4000000 in
set_option maxRecDepth 100000 in
theorem eTextOf_p1 {l : List UInt8} (hl : l.length ≤ 1000) {z : Int} (e : val l = z) {p : Nat} (hp : 0 < p) (hp2 : p ≤ 12) (hz : 0 < z) : Ret 101 #[.string ⟨l.toArray⟩, .int .i64 (p : Int)] (.string ⟨(textD z p).toArray⟩) := fun w hG => by
  have c2 := qCanonical (l := l) (by omega) e
  have hcz : canon z = dec z.natAbs := by unfold canon; rw [if_neg (by omega)]
  have hD : (dec z.natAbs).length ≤ 1000 := Nat.le_trans (Num.dec_len_le _ _ (by rw [← e]; exact val_lt l)) hl
  have hd := dec_digs z.natAbs
  have hd0 : dec z.natAbs = [] ↔ z = 0 := by rw [dec_eq_nil]; omega
  have HT : Hid (∀ Z, Z = zpad (p + 1) (dec z.natAbs) → textD z p = [] ++ (Z.take (Z.length - p) ++ 46 :: Z.drop (Z.length - p))) := by
    rintro Z rfl; unfold textD sgnT tW tP; rw [if_neg (by omega), if_neg (by omega)]
  rw [hcz] at c2
  obtain ⟨D, hDe⟩ : ∃ D, D = dec z.natAbs := ⟨_, rfl⟩
  rw [← hDe] at c2 hD hd HT hd0
  generalize textD z p = V at *
  have C2 := Lib.hid c2
  have hb := Below.refl w.heap.size w
  have k9 : 0 < p := by omega
  have k8 : ((p : Int) == 0) = false := by rw [beq_eq_false_iff_ne]; omega
  have hne : D ≠ [] := fun h => by have := hd0.1 h; omega
  have e1 : (D == []) = false := by rw [beq_eq_false_iff_ne]; exact hne
  have e2 : D.isEmpty = false := by rw [List.isEmpty_eq_false_iff]; exact hne
  have hlt : 0 < D.length := List.length_pos_iff.2 hne
  have hlt' : 0 < (⟨D.toArray⟩ : ByteArray).size := by show 0 < D.toArray.size; simpa using hlt
  obtain ⟨x, hx⟩ : ∃ x, x = (⟨D.toArray⟩ : ByteArray)[0] := ⟨_, rfl⟩
  have hxl : D[0]? = some x := by rw [hx]; simp [hlt]; rfl
  have hx2 : ∀ hp, (⟨D.toArray⟩ : ByteArray)[0]'hp = x := fun _ => hx.symm
  have hxd : isDig x = true := List.all_eq_true.1 hd x (List.mem_of_getElem? hxl)
  have hx45 : ((x.toNat : Int) == 45) = false := by rw [beq_eq_false_iff_ne]; have := (isDig_iff x).1 hxd; omega
  clear hx hxl hxd hne
  clear c2 hcz hd hDe hd0 hz hp e
  go_enter Tryz.func101, Tryz.ntmps101
  go_wp2_with fail
  ((with_reducible refine (C2.out.of hG hb).mono ?_); rintro e w2 ⟨rfl, hb2⟩)
  replace hb := bto hb hb2
  clear hb2
  go_wp2_with fail
  clear e1 e2 hx2 hx45 hlt hlt'
  go_loop [5] (fun sv => ∃ (j : Nat) (T : List UInt8), sv = .string ⟨T.toArray⟩ ∧ Hid (T = List.replicate j 48 ++ D) ∧ T.length = j + D.length ∧ (j = 0 ∨ j + D.length ≤ p + 1)) (fun sv => p + 1 - (bytesOf sv).length)
  case atStart => exact ⟨0, D, rfl, rfl, by omega, .inl rfl⟩
  case round =>
    obtain ⟨j, T, rfl, HTj, hTl, hj⟩ := hrel
    by_cases hlt : T.length < p + 1
    · have k5 : decide ((T.length : Int) < (p : Int) + 1) = true := decide_eq_true (by omega)
      have k6 : (T.length : Int) < (p : Int) + 1 := by omega
      have ha := str_add [48] T (by decide) (by omega)
      have HT2 : Hid ([48] ++ T = List.replicate (j + 1) 48 ++ D) := by show _ = _; rw [HTj.out, List.replicate_succ]; rfl
      have hl2 : ([48] ++ T).length = j + 1 + D.length := by simp; omega
      generalize [48] ++ T = T' at *
      go_wp2
      go_round
      case rel => exact ⟨j + 1, T', rfl, HT2, hl2, .inr (by omega)⟩
      case measure => simp only [bytesOf]; show p + 1 - T'.length < p + 1 - T.length; omega
    · have k5 : decide ((T.length : Int) < (p : Int) + 1) = false := decide_eq_false (by omega)
      have k6 : ¬ (T.length : Int) < (p : Int) + 1 := by omega
      have hjj : j = p + 1 - D.length := by omega
      have HV := Lib.hid (HT.out T (by rw [HTj.out, hjj]; rfl))
      have hTb : T.length ≤ 2000 := by omega
      have hTp : p + 1 ≤ T.length := by omega
      clear HTj HT hTl hj hjj
      have kx : (⟨T.toArray⟩ : ByteArray).extract 0 (T.length - p) = ⟨(T.take (T.length - p)).toArray⟩ := by rw [extract_list]; simp
      have ky : (⟨T.toArray⟩ : ByteArray).extract (T.length - p) T.length = ⟨(T.drop (T.length - p)).toArray⟩ := by rw [extract_list]; simp
      have kx' : (⟨T.toArray⟩ : ByteArray).extract 0 ((T.length : Int) - (p : Int)).toNat = ⟨(T.take (T.length - p)).toArray⟩ := by rw [show ((T.length : Int) - (p : Int)).toNat = T.length - p by omega]; exact kx
      have ky' : (⟨T.toArray⟩ : ByteArray).extract ((T.length : Int) - (p : Int)).toNat T.length = ⟨(T.drop (T.length - p)).toArray⟩ := by rw [show ((T.length : Int) - (p : Int)).toNat = T.length - p by omega]; exact ky
      have hA : (T.take (T.length - p)).length ≤ 2000 := by rw [List.length_take]; omega
      have hB : (T.drop (T.length - p)).length ≤ 2000 := by rw [List.length_drop]; omega
      have b1 : (0 : Int) ≤ (T.length : Int) - (p : Int) := by omega
      have b2 : (T.length : Int) - (p : Int) ≤ (T.length : Int) := by omega
      generalize T.take (T.length - p) = A at *
      generalize T.drop (T.length - p) = B at *
      have ha1 := str_add [] A (by decide) (by omega)
      obtain ⟨X1, hX1⟩ : ∃ X1, X1 = [] ++ A := ⟨_, rfl⟩
      rw [← hX1] at ha1
      have l1 : X1.length ≤ 2001 := by rw [hX1]; simp; omega
      have ha2 := str_add X1 [46] (by omega) (by decide)
      obtain ⟨X2, hX2⟩ : ∃ X2, X2 = X1 ++ [46] := ⟨_, rfl⟩
      rw [← hX2] at ha2
      have l2 : X2.length ≤ 2002 := by rw [hX2]; simp; omega
      have ha3 := str_add X2 B (by omega) (by omega)
      have HV2 : Hid (V = X2 ++ B) := by show _ = _; rw [HV.out, hX2, hX1]; simp
      generalize X2 ++ B = X3 at *
      clear HV hX1 hX2
      go_wp2_with fail
      go_quiet (fail)
      replace hb := bdrewN hb nq
      go_wp2
      go_ret
      exact ⟨by rw [HV2.out]; first | done | rfl, hb⟩
set_option maxHeartbeats 4000000 in
set_option maxRecDepth 100000 in
theorem eTextOf_z0 {l : List UInt8} (hl : l.length ≤ 1000) {z : Int} (e : val l = z) {p : Nat} (hp : p = 0) (hp2 : p ≤ 12) (hz : z = 0) : Ret 101 #[.string ⟨l.toArray⟩, .int .i64 (p : Int)] (.string ⟨(textD z p).toArray⟩) := fun w hG => by
  have c2 := qCanonical (l := l) (by omega) e
  have hcz : canon z = dec z.natAbs := by unfold canon; rw [if_neg (by omega)]
  have hD : (dec z.natAbs).length ≤ 1000 := Nat.le_trans (Num.dec_len_le _ _ (by rw [← e]; exact val_lt l)) hl
  have hd := dec_digs z.natAbs
  have hd0 : dec z.natAbs = [] ↔ z = 0 := by rw [dec_eq_nil]; omega
  have HT : Hid (∀ Z, Z = zpad (p + 1) (dec z.natAbs) → textD z p = [] ++ (Z.take (Z.length - p) ++ [])) := by
    rintro Z rfl; unfold textD sgnT tW tP; rw [if_neg (by omega), if_pos hp]
  rw [hcz] at c2
  obtain ⟨D, hDe⟩ : ∃ D, D = dec z.natAbs := ⟨_, rfl⟩
  rw [← hDe] at c2 hD hd HT hd0
  generalize textD z p = V at *
  have C2 := Lib.hid c2
  have hb := Below.refl w.heap.size w
  have k9 : ¬ 0 < p := by omega
  have k8 : ((p : Int) == 0) = true := by rw [beq_iff_eq]; omega
  have hne : D = [] := hd0.2 hz
  have e1 : (D == []) = true := by rw [beq_iff_eq]; exact hne
  have e2 : D.isEmpty = true := by rw [List.isEmpty_iff]; exact hne
  clear hne
  clear c2 hcz hd hDe hd0 hz hp e
  go_enter Tryz.func101, Tryz.ntmps101
  go_wp2_with fail
  ((with_reducible refine (C2.out.of hG hb).mono ?_); rintro e w2 ⟨rfl, hb2⟩)
  replace hb := bto hb hb2
  clear hb2
  go_wp2_with fail
  clear e1 e2
  go_loop [5] (fun sv => ∃ (j : Nat) (T : List UInt8), sv = .string ⟨T.toArray⟩ ∧ Hid (T = List.replicate j 48 ++ D) ∧ T.length = j + D.length ∧ (j = 0 ∨ j + D.length ≤ p + 1)) (fun sv => p + 1 - (bytesOf sv).length)
  case atStart => exact ⟨0, D, rfl, rfl, by omega, .inl rfl⟩
  case round =>
    obtain ⟨j, T, rfl, HTj, hTl, hj⟩ := hrel
    by_cases hlt : T.length < p + 1
    · have k5 : decide ((T.length : Int) < (p : Int) + 1) = true := decide_eq_true (by omega)
      have k6 : (T.length : Int) < (p : Int) + 1 := by omega
      have ha := str_add [48] T (by decide) (by omega)
      have HT2 : Hid ([48] ++ T = List.replicate (j + 1) 48 ++ D) := by show _ = _; rw [HTj.out, List.replicate_succ]; rfl
      have hl2 : ([48] ++ T).length = j + 1 + D.length := by simp; omega
      generalize [48] ++ T = T' at *
      go_wp2
      go_round
      case rel => exact ⟨j + 1, T', rfl, HT2, hl2, .inr (by omega)⟩
      case measure => simp only [bytesOf]; show p + 1 - T'.length < p + 1 - T.length; omega
    · have k5 : decide ((T.length : Int) < (p : Int) + 1) = false := decide_eq_false (by omega)
      have k6 : ¬ (T.length : Int) < (p : Int) + 1 := by omega
      have hjj : j = p + 1 - D.length := by omega
      have HV := Lib.hid (HT.out T (by rw [HTj.out, hjj]; rfl))
      have hTb : T.length ≤ 2000 := by omega
      have hTp : p + 1 ≤ T.length := by omega
      clear HTj HT hTl hj hjj
      have ha := str_add [] T (by decide) (by omega)
      have HV2 : Hid (V = [] ++ T) := by show _ = _; rw [HV.out, List.append_nil, show T.length - p = T.length by omega, List.take_length]
      clear HV
      go_wp2
      go_ret
      exact ⟨by rw [HV2.out]; first | done | rfl | simp, hb⟩
set_option maxHeartbeats 4000000 in
set_option maxRecDepth 100000 in
theorem eTextOf_z1 {l : List UInt8} (hl : l.length ≤ 1000) {z : Int} (e : val l = z) {p : Nat} (hp : 0 < p) (hp2 : p ≤ 12) (hz : z = 0) : Ret 101 #[.string ⟨l.toArray⟩, .int .i64 (p : Int)] (.string ⟨(textD z p).toArray⟩) := fun w hG => by
  have c2 := qCanonical (l := l) (by omega) e
  have hcz : canon z = dec z.natAbs := by unfold canon; rw [if_neg (by omega)]
  have hD : (dec z.natAbs).length ≤ 1000 := Nat.le_trans (Num.dec_len_le _ _ (by rw [← e]; exact val_lt l)) hl
  have hd := dec_digs z.natAbs
  have hd0 : dec z.natAbs = [] ↔ z = 0 := by rw [dec_eq_nil]; omega
  have HT : Hid (∀ Z, Z = zpad (p + 1) (dec z.natAbs) → textD z p = [] ++ (Z.take (Z.length - p) ++ 46 :: Z.drop (Z.length - p))) := by
    rintro Z rfl; unfold textD sgnT tW tP; rw [if_neg (by omega), if_neg (by omega)]
  rw [hcz] at c2
  obtain ⟨D, hDe⟩ : ∃ D, D = dec z.natAbs := ⟨_, rfl⟩
  rw [← hDe] at c2 hD hd HT hd0
  generalize textD z p = V at *
  have C2 := Lib.hid c2
  have hb := Below.refl w.heap.size w
  have k9 : 0 < p := by omega
  have k8 : ((p : Int) == 0) = false := by rw [beq_eq_false_iff_ne]; omega
  have hne : D = [] := hd0.2 hz
  have e1 : (D == []) = true := by rw [beq_iff_eq]; exact hne
  have e2 : D.isEmpty = true := by rw [List.isEmpty_iff]; exact hne
  clear hne
  clear c2 hcz hd hDe hd0 hz hp e
  go_enter Tryz.func101, Tryz.ntmps101
  go_wp2_with fail
  ((with_reducible refine (C2.out.of hG hb).mono ?_); rintro e w2 ⟨rfl, hb2⟩)
  replace hb := bto hb hb2
  clear hb2
  go_wp2_with fail
  clear e1 e2
  go_loop [5] (fun sv => ∃ (j : Nat) (T : List UInt8), sv = .string ⟨T.toArray⟩ ∧ Hid (T = List.replicate j 48 ++ D) ∧ T.length = j + D.length ∧ (j = 0 ∨ j + D.length ≤ p + 1)) (fun sv => p + 1 - (bytesOf sv).length)
  case atStart => exact ⟨0, D, rfl, rfl, by omega, .inl rfl⟩
  case round =>
    obtain ⟨j, T, rfl, HTj, hTl, hj⟩ := hrel
    by_cases hlt : T.length < p + 1
    · have k5 : decide ((T.length : Int) < (p : Int) + 1) = true := decide_eq_true (by omega)
      have k6 : (T.length : Int) < (p : Int) + 1 := by omega
      have ha := str_add [48] T (by decide) (by omega)
      have HT2 : Hid ([48] ++ T = List.replicate (j + 1) 48 ++ D) := by show _ = _; rw [HTj.out, List.replicate_succ]; rfl
      have hl2 : ([48] ++ T).length = j + 1 + D.length := by simp; omega
      generalize [48] ++ T = T' at *
      go_wp2
      go_round
      case rel => exact ⟨j + 1, T', rfl, HT2, hl2, .inr (by omega)⟩
      case measure => simp only [bytesOf]; show p + 1 - T'.length < p + 1 - T.length; omega
    · have k5 : decide ((T.length : Int) < (p : Int) + 1) = false := decide_eq_false (by omega)
      have k6 : ¬ (T.length : Int) < (p : Int) + 1 := by omega
      have hjj : j = p + 1 - D.length := by omega
      have HV := Lib.hid (HT.out T (by rw [HTj.out, hjj]; rfl))
      have hTb : T.length ≤ 2000 := by omega
      have hTp : p + 1 ≤ T.length := by omega
      clear HTj HT hTl hj hjj
      have kx : (⟨T.toArray⟩ : ByteArray).extract 0 (T.length - p) = ⟨(T.take (T.length - p)).toArray⟩ := by rw [extract_list]; simp
      have ky : (⟨T.toArray⟩ : ByteArray).extract (T.length - p) T.length = ⟨(T.drop (T.length - p)).toArray⟩ := by rw [extract_list]; simp
      have kx' : (⟨T.toArray⟩ : ByteArray).extract 0 ((T.length : Int) - (p : Int)).toNat = ⟨(T.take (T.length - p)).toArray⟩ := by rw [show ((T.length : Int) - (p : Int)).toNat = T.length - p by omega]; exact kx
      have ky' : (⟨T.toArray⟩ : ByteArray).extract ((T.length : Int) - (p : Int)).toNat T.length = ⟨(T.drop (T.length - p)).toArray⟩ := by rw [show ((T.length : Int) - (p : Int)).toNat = T.length - p by omega]; exact ky
      have hA : (T.take (T.length - p)).length ≤ 2000 := by rw [List.length_take]; omega
      have hB : (T.drop (T.length - p)).length ≤ 2000 := by rw [List.length_drop]; omega
      have b1 : (0 : Int) ≤ (T.length : Int) - (p : Int) := by omega
      have b2 : (T.length : Int) - (p : Int) ≤ (T.length : Int) := by omega
      generalize T.take (T.length - p) = A at *
      generalize T.drop (T.length - p) = B at *
      have ha1 := str_add [] A (by decide) (by omega)
      obtain ⟨X1, hX1⟩ : ∃ X1, X1 = [] ++ A := ⟨_, rfl⟩
      rw [← hX1] at ha1
      have l1 : X1.length ≤ 2001 := by rw [hX1]; simp; omega
      have ha2 := str_add X1 [46] (by omega) (by decide)
      obtain ⟨X2, hX2⟩ : ∃ X2, X2 = X1 ++ [46] := ⟨_, rfl⟩
      rw [← hX2] at ha2
      have l2 : X2.length ≤ 2002 := by rw [hX2]; simp; omega
      have ha3 := str_add X2 B (by omega) (by omega)
      have HV2 : Hid (V = X2 ++ B) := by show _ = _; rw [HV.out, hX2, hX1]; simp
      generalize X2 ++ B = X3 at *
      clear HV hX1 hX2
      go_wp2_with fail
      go_quiet (fail)
      replace hb := bdrewN hb nq
      go_wp2
      go_ret
      exact ⟨by rw [HV2.out]; first | done | rfl, hb⟩
theorem eTextOf {l : List UInt8} (hl : l.length ≤ 1000) {z : Int} (e : val l = z) {p : Nat} (hp2 : p ≤ 12) : Ret 101 #[.string ⟨l.toArray⟩, .int .i64 (p : Int)] (.string ⟨(textD z p).toArray⟩) := by
  rcases Int.lt_trichotomy z 0 with hz | hz | hz <;> rcases Nat.eq_zero_or_pos p with hp | hp
  · exact eTextOf_n0 hl e hp hp2 hz
  · exact eTextOf_n1 hl e hp hp2 hz
  · exact eTextOf_z0 hl e hp hp2 hz
  · exact eTextOf_z1 hl e hp hp2 hz
  · exact eTextOf_p0 hl e hp hp2 hz
  · exact eTextOf_p1 hl e hp hp2 hz
set_option maxHeartbeats 1000000 in
set_option maxRecDepth 100000 in
theorem eText {l : List UInt8} (hl : l.length ≤ 1000) {z : Int} (e : val l = z) {p : Nat} (hp : p ≤ 12) : Ret 35 #[.string ⟨l.toArray⟩, .int .i64 (p : Int)] (.tuple #[.string ⟨(textD z p).toArray⟩, .int .i64 0]) := fun w hG => by
  have C1 := Lib.hid (ePlaces (n := (p : Int)) (by omega) (by omega))
  have C2 := Lib.hid (eTextOf hl e hp)
  have hb := Below.refl w.heap.size w
  clear hl e hp
  generalize textD z p = T at *
  go_enter Tryz.func35, Tryz.ntmps35
  go_wp2_with fail
  ((with_reducible refine (C1.out.of hG hb).mono ?_); rintro e w1 ⟨rfl, hb1⟩)
  replace hb := bto hb hb1
  go_wp2_with fail
  ((with_reducible refine (C2.out.of hG hb).mono ?_); rintro e w2 ⟨rfl, hb2⟩)
  go_wp2
  go_ret2
  exact ⟨rfl, bto hb hb2⟩
set_option maxHeartbeats 1000000 in
set_option maxRecDepth 100000 in
theorem eTextOut {l : List UInt8} {n : Int} (hn : n < 0 ∨ 12 < n) : Ret 35 #[.string ⟨l.toArray⟩, .int .i64 n] (.tuple #[.string ⟨#[]⟩, .int .i64 2]) := fun w hG => by
  have C1 := Lib.hid (ePlacesBad hn)
  have hb := Below.refl w.heap.size w
  clear hn
  go_enter Tryz.func35, Tryz.ntmps35
  go_wp2_with fail
  ((with_reducible refine (C1.out.of hG hb).mono ?_); rintro e w1 ⟨rfl, hb1⟩)
  go_wp2
  go_ret2
  exact ⟨rfl, bto hb hb1⟩
set_option maxHeartbeats 2000000 in
set_option maxRecDepth 100000 in
theorem eFormat {l l' : List UInt8} {q : Rat} (hl : l.length ≤ 100) (hl' : l'.length ≤ 100) (hq : fv l l' = q) (b : Bd 100 q) {p : Nat} (hp : p ≤ 12) {m : Int} (h1 : 1 ≤ m) (h6 : m ≤ 6) {z : Int} (e : rnd (q * tenQ p) m = z) : Ret 59 #[(Value.agg #[Value.string ⟨List.toArray l⟩, Value.string ⟨List.toArray l'⟩]), .int .i64 (p : Int), .int .i64 m] (.tuple #[.string ⟨(textD z p).toArray⟩, .int .i64 0]) := fun w hG => by
  have c1 := eScale hl hl' hq b hp h1 h6 e
  have bs := bd_mul b (bd_ten p)
  have hzl : z.natAbs < 10 ^ (100 + (p + 1) + 1) := by
    rw [← e]
    have h2 := rnd_le (q * tenQ p) m
    have h3 := fl_abs (q * tenQ p)
    have h4 := bs.1
    rw [Nat.pow_succ]
    omega
  have c2 := eTextOf (l := canon z) (canon_len_of hzl (by omega)) (val_canon z) hp
  generalize canon z = Z at *
  generalize textD z p = T at *
  have C2 := Lib.hid c2
  clear c2 hzl bs e hl hl' hq b hp h1 h6
  have C1 := Lib.hid c1
  have x3 := FBox.new w (.string ⟨l.toArray⟩) (.string ⟨l'.toArray⟩) 32
  have hb := below_alloc w (.cells #[.string ⟨l.toArray⟩, .string ⟨l'.toArray⟩] 32)
  go_enter Tryz.func59, Tryz.ntmps59
  have qx3_0 := x3.c0
  have qx3_1 := x3.c1
  go_wp2_with fail
  ((with_reducible refine (C1.out.of hG hb).mono ?_); rintro e w2 ⟨rfl, hb2⟩)
  clear qx3_0 qx3_1
  replace x3 := x3.below hb2
  replace hb := bto hb hb2
  clear hb2
  clear x3
  go_wp2_with fail
  ((with_reducible refine (C2.out.of hG hb).mono ?_); rintro e w3 ⟨rfl, hb3⟩)
  replace hb := bto hb hb3
  clear hb3
  go_wp2
  go_ret2
  exact ⟨rfl, hb⟩
set_option maxHeartbeats 2000000 in
set_option maxRecDepth 100000 in
theorem eFormatBad {l l' : List UInt8} {p : Nat} (hp : p ≤ 12) {m : Int} (hm : m < 1 ∨ 6 < m) : Ret 59 #[(Value.agg #[Value.string ⟨List.toArray l⟩, Value.string ⟨List.toArray l'⟩]), .int .i64 (p : Int), .int .i64 m] (.tuple #[.string ⟨#[]⟩, .int .i64 7]) := fun w hG => by
  have c1 := eScaleBad (l := l) (l' := l') hp hm
  clear hm
  have C1 := Lib.hid c1
  have x3 := FBox.new w (.string ⟨l.toArray⟩) (.string ⟨l'.toArray⟩) 32
  have hb := below_alloc w (.cells #[.string ⟨l.toArray⟩, .string ⟨l'.toArray⟩] 32)
  go_enter Tryz.func59, Tryz.ntmps59
  have qx3_0 := x3.c0
  have qx3_1 := x3.c1
  go_wp2_with fail
  ((with_reducible refine (C1.out.of hG hb).mono ?_); rintro e w2 ⟨rfl, hb2⟩)
  clear qx3_0 qx3_1
  replace x3 := x3.below hb2
  replace hb := bto hb hb2
  clear hb2
  clear x3
  go_wp2
  go_ret2
  exact ⟨rfl, hb⟩
set_option maxHeartbeats 2000000 in
set_option maxRecDepth 100000 in
theorem eFormatOut {l l' : List UInt8} {n : Int} (hn : n < 0 ∨ 12 < n) (m : Int) : Ret 59 #[(Value.agg #[Value.string ⟨List.toArray l⟩, Value.string ⟨List.toArray l'⟩]), .int .i64 n, .int .i64 m] (.tuple #[.string ⟨#[]⟩, .int .i64 2]) := fun w hG => by
  have c1 := eScaleOut (l := l) (l' := l') hn m
  clear hn
  have C1 := Lib.hid c1
  have x3 := FBox.new w (.string ⟨l.toArray⟩) (.string ⟨l'.toArray⟩) 32
  have hb := below_alloc w (.cells #[.string ⟨l.toArray⟩, .string ⟨l'.toArray⟩] 32)
  go_enter Tryz.func59, Tryz.ntmps59
  have qx3_0 := x3.c0
  have qx3_1 := x3.c1
  go_wp2_with fail
  ((with_reducible refine (C1.out.of hG hb).mono ?_); rintro e w2 ⟨rfl, hb2⟩)
  clear qx3_0 qx3_1
  replace x3 := x3.below hb2
  replace hb := bto hb hb2
  clear hb2
  clear x3
  go_wp2
  go_ret2
  exact ⟨rfl, hb⟩
end Go.Proofs.YtmmhimgkpfcokaaGreatDoor
