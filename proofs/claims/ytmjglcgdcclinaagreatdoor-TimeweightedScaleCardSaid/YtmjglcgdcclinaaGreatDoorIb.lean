/- Package instrument and trancheref10: Name; Code. -/
import Derived.Test.YtmjglcgdcclinaaGreatDoorIa
namespace Go.Proofs.YtmjglcgdcclinaaGreatDoor
open Go.RowKit Num
theorem codeC_iff (c : UInt8) : codeC c = true ↔ 65 ≤ c.toNat ∧ c.toNat ≤ 90 := by simp [codeC]
theorem nameC_iff (c : UInt8) : nameC c = true ↔ (97 ≤ c.toNat ∧ c.toNat ≤ 122) ∨ (48 ≤ c.toNat ∧ c.toNat ≤ 57) ∨ c.toNat = 95 := by simp [nameC, or_assoc]
set_option maxHeartbeats 1000000 in
theorem jCode5 {l : List UInt8} (hl : l.length ≤ 1000000) : Ret 72 #[.string ⟨l.toArray⟩] (.bool (codeB l)) := fun w hG => by
  have hb := Below.refl w.heap.size w
  have HN : Hid (l.all codeC = false → codeB l = false) := by intro h; unfold codeB; rw [h, Bool.and_false]
  have HY : Hid (l.all codeC = true → ((l.length : Int) == 3) = codeB l) := by intro h; unfold codeB; rw [h, Bool.and_true]; by_cases h3 : l.length = 3 <;> simp [h3] <;> omega
  go_enter Tryz.func72, Tryz.ntmps72
  go_wp2_with fail
  go_loop [3] (fun iv => ∃ k : Nat, k ≤ l.length ∧ iv = .int .i64 (k : Int) ∧ Hid ((l.take k).all codeC = true)) (fun iv => l.length - (intOf iv).toNat)
  case atStart => exact ⟨0, Nat.zero_le _, rfl, rfl⟩
  case round =>
    obtain ⟨k, hk, rfl, HK⟩ := hrel
    by_cases hlt : k < l.length
    · have hlt' : k < (⟨l.toArray⟩ : ByteArray).size := by show k < l.toArray.size; simpa using hlt
      obtain ⟨x, hx⟩ : ∃ x, x = (⟨l.toArray⟩ : ByteArray)[k] := ⟨_, rfl⟩
      have hxl : l[k]? = some x := by rw [hx]; simp [hlt]; rfl
      have HX := Lib.hid hxl
      clear hxl
      have hx2 : ∀ hp, (⟨l.toArray⟩ : ByteArray)[k]'hp = x := fun _ => hx.symm
      clear hx
      by_cases d1 : (x.toNat : Int) < 65
      · have ed1 : decide ((x.toNat : Int) < 65) = true := decide_eq_true d1
        go_wp2
        go_ret
        exact ⟨retb (HN.out (all_no' HX.out (not_true_b (fun h => by have := (codeC_iff _).1 h; omega)))).symm, hb⟩
      · have ed1 : decide ((x.toNat : Int) < 65) = false := decide_eq_false d1
        by_cases d2 : 90 < (x.toNat : Int)
        · have ed2 : decide (90 < (x.toNat : Int)) = true := decide_eq_true d2
          go_wp2
          go_ret
          exact ⟨retb (HN.out (all_no' HX.out (not_true_b (fun h => by have := (codeC_iff _).1 h; omega)))).symm, hb⟩
        · have ed2 : decide (90 < (x.toNat : Int)) = false := decide_eq_false d2
          go_wp2
          go_round
          case rel => exact ⟨k + 1, by omega, by go_num, all_snoc' HK.out HX.out ((codeC_iff _).2 (by omega))⟩
          case measure => simp [intOf]; omega
    · have HK' : Hid (l.all codeC = true) := by have := HK.out; rw [List.take_of_length_le (by omega)] at this; exact this
      clear HK
      go_wp2
      go_ret
      exact ⟨retb (HY.out HK'.out), hb⟩
set_option maxHeartbeats 2000000 in
set_option maxRecDepth 100000 in
theorem iName {l : List UInt8} (hl : l.length ≤ 1000000) : Ret 134 #[.string ⟨l.toArray⟩] (.bool (nameB l)) := fun w hG => by
  by_cases h1 : l.length = 0
  · have k2 : ((l.length : Int) == 0) = true := by rw [beq_iff_eq]; omega
    have HV : Hid (nameB l = false) := by show _ = _; unfold nameB; rw [decide_eq_false (by omega), Bool.false_and, Bool.false_and]
    clear h1
    go_enter Tryz.func134, Tryz.ntmps134
    go_wp2
    go_ret
    exact ⟨retb HV.out.symm, Below.refl _ _⟩
  by_cases h2 : 16 < l.length
  · have k2 : ((l.length : Int) == 0) = false := by rw [beq_eq_false_iff_ne]; omega
    have k3 : decide (16 < l.length) = true := decide_eq_true h2
    have HV : Hid (nameB l = false) := by show _ = _; unfold nameB; rw [decide_eq_false (p := l.length ≤ 16) (by omega), Bool.and_false, Bool.false_and]
    clear h1
    go_enter Tryz.func134, Tryz.ntmps134
    go_wp2
    go_ret
    exact ⟨retb HV.out.symm, Below.refl _ _⟩
  obtain ⟨cap, C, hconv, hcell⟩ := bytes_conv l w
  have HC := Lib.hid hcell
  have k2 : ((l.length : Int) == 0) = false := by rw [beq_eq_false_iff_ne]; omega
  have k3 : decide (16 < l.length) = false := decide_eq_false h2
  have HV : Hid (∀ b, l.all nameC = b → nameB l = b) := by intro b hb; unfold nameB; rw [hb, decide_eq_true (by omega), decide_eq_true (by omega)]; rfl
  have hb : Below w.heap.size w (w.alloc (.cells C 5 (C.size, C.size + 1))).drew := bto (below_alloc _ _) (bdr _)
  clear hcell h1
  go_enter Tryz.func134, Tryz.ntmps134
  go_wp2_with fail
  clear hconv k2 k3 h2
  go_loop [16] (fun iv => ∃ k : Nat, k ≤ l.length ∧ iv = .int .i64 (k : Int) ∧ Hid ((l.take k).all nameC = true)) (fun iv => l.length - (intOf iv).toNat)
  case atStart => exact ⟨0, Nat.zero_le _, rfl, rfl⟩
  case round =>
    obtain ⟨k, hk, rfl, HK⟩ := hrel
    by_cases hlt : k < l.length
    · obtain ⟨x, hx⟩ : ∃ x, l[k]? = some x := ⟨_, List.getElem?_eq_getElem hlt⟩
      have hc := HC.out k x hx
      have HX := Lib.hid hx
      clear hx
      by_cases d1 : (x.toNat : Int) < 97
      · have ed1 : decide ((x.toNat : Int) < 97) = true := decide_eq_true d1
        by_cases d3 : (x.toNat : Int) < 48
        · have ed3 : decide ((x.toNat : Int) < 48) = true := decide_eq_true d3
          by_cases d5 : x.toNat = 95
          · have e5 : ((x.toNat : Int) == 95) = true := by rw [beq_iff_eq]; omega
            have e6 : ((x.toNat : Int) != 95) = false := bneq e5
            go_wp2
            go_round
            case rel => exact ⟨k + 1, by omega, by go_num, all_snoc' HK.out HX.out ((nameC_iff _).2 (by omega))⟩
            case measure => simp [intOf]; omega
          · have e5 : ((x.toNat : Int) == 95) = false := by rw [beq_eq_false_iff_ne]; omega
            have e6 : ((x.toNat : Int) != 95) = true := bneq' e5
            go_wp2
            go_ret
            exact ⟨retb (HV.out _ (all_no' HX.out (not_true_b (fun h => by have := (nameC_iff _).1 h; omega)))).symm, hb⟩
        · have ed3 : decide ((x.toNat : Int) < 48) = false := decide_eq_false d3
          by_cases d4 : 57 < (x.toNat : Int)
          · have ed4 : decide (57 < (x.toNat : Int)) = true := decide_eq_true d4
            by_cases d5 : x.toNat = 95
            · have e5 : ((x.toNat : Int) == 95) = true := by rw [beq_iff_eq]; omega
              have e6 : ((x.toNat : Int) != 95) = false := bneq e5
              go_wp2
              go_round
              case rel => exact ⟨k + 1, by omega, by go_num, all_snoc' HK.out HX.out ((nameC_iff _).2 (by omega))⟩
              case measure => simp [intOf]; omega
            · have e5 : ((x.toNat : Int) == 95) = false := by rw [beq_eq_false_iff_ne]; omega
              have e6 : ((x.toNat : Int) != 95) = true := bneq' e5
              go_wp2
              go_ret
              exact ⟨retb (HV.out _ (all_no' HX.out (not_true_b (fun h => by have := (nameC_iff _).1 h; omega)))).symm, hb⟩
          · have ed4 : decide (57 < (x.toNat : Int)) = false := decide_eq_false d4
            go_wp2
            go_round
            case rel => exact ⟨k + 1, by omega, by go_num, all_snoc' HK.out HX.out ((nameC_iff _).2 (by omega))⟩
            case measure => simp [intOf]; omega
      · have ed1 : decide ((x.toNat : Int) < 97) = false := decide_eq_false d1
        by_cases d2 : 122 < (x.toNat : Int)
        · have ed2 : decide (122 < (x.toNat : Int)) = true := decide_eq_true d2
          have e3 : decide ((x.toNat : Int) < 48) = false := decide_eq_false (by omega)
          have d3 : ¬ (x.toNat : Int) < 48 := by omega
          have e4 : decide (57 < (x.toNat : Int)) = true := decide_eq_true (by omega)
          have d4 : 57 < (x.toNat : Int) := by omega
          have e5 : ((x.toNat : Int) == 95) = false := by rw [beq_eq_false_iff_ne]; omega
          have e6 : ((x.toNat : Int) != 95) = true := bneq' e5
          have d5 : ¬ x.toNat = 95 := by omega
          go_wp2
          go_ret
          exact ⟨retb (HV.out _ (all_no' HX.out (not_true_b (fun h => by have := (nameC_iff _).1 h; omega)))).symm, hb⟩
        · have ed2 : decide (122 < (x.toNat : Int)) = false := decide_eq_false d2
          go_wp2
          go_round
          case rel => exact ⟨k + 1, by omega, by go_num, all_snoc' HK.out HX.out ((nameC_iff _).2 (by omega))⟩
          case measure => simp [intOf]; omega
    · have HK' : Hid (l.all nameC = true) := by have := HK.out; rw [List.take_of_length_le (by omega)] at this; exact this
      clear HK
      go_wp2
      go_ret
      exact ⟨retb (HV.out _ HK'.out).symm, hb⟩
end Go.Proofs.YtmjglcgdcclinaaGreatDoor
