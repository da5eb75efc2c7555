/- Package decimal: isDigits, checkPlaces, shift, Scale, Text. -/
import Derived.Test.YtmmhimgkpfcokaaGreatDoorDa
import Derived.Test.YtmmhimgkpfcokaaGreatDoorBh
namespace Go.Proofs.YtmmhimgkpfcokaaGreatDoor
open Go.RowKit Num
theorem isDig_iff (c : UInt8) : isDig c = true ↔ 48 ≤ c.toNat ∧ c.toNat ≤ 57 := by simp [isDig]

set_option maxHeartbeats 1000000 in
set_option maxRecDepth 100000 in
theorem dDigits {l : List UInt8} (hl : l.length ≤ 1000000) : Ret 109 #[.string ⟨l.toArray⟩] (.bool (isD l)) := fun w hG => by
  have hb := Below.refl w.heap.size w
  have HN : Hid (l.all isDig = false → isD l = false) := by intro h; unfold isD; rw [h, Bool.and_false]
  go_enter Tryz.func109, Tryz.ntmps109
  go_wp2_with fail
  go_loop [6] (fun iv => ∃ k : Nat, k ≤ l.length ∧ iv = .int .i64 (k : Int) ∧ Hid ((l.take k).all isDig = true)) (fun iv => l.length - (intOf iv).toNat)
  case atStart => exact ⟨0, Nat.zero_le _, rfl, rfl⟩
  case round =>
    obtain ⟨k, hk, rfl, HK⟩ := hrel
    by_cases hlt : k < l.length
    · have hlt' : k < (⟨l.toArray⟩ : ByteArray).size := by show k < l.toArray.size; simpa using hlt
      obtain ⟨x, hx⟩ : ∃ x, x = (⟨l.toArray⟩ : ByteArray)[k] := ⟨_, rfl⟩
      have hxl : l[k]? = some x := by rw [hx]; simp [hlt]; rfl
      have HX := Lib.hid hxl
      clear hxl
      have hx2 : ∀ hp, (⟨l.toArray⟩ : ByteArray)[k]'hp = x := fun _ => hx.symm
      clear hx
      by_cases d1 : (x.toNat : Int) < 48
      · have ed1 : decide ((x.toNat : Int) < 48) = true := decide_eq_true d1
        go_wp2
        go_ret
        exact ⟨retb (HN.out (all_no' HX.out (not_true_b (fun h => by have := (isDig_iff _).1 h; omega)))).symm, hb⟩
      · have ed1 : decide ((x.toNat : Int) < 48) = false := decide_eq_false d1
        by_cases d2 : 57 < (x.toNat : Int)
        · have ed2 : decide (57 < (x.toNat : Int)) = true := decide_eq_true d2
          go_wp2
          go_ret
          exact ⟨retb (HN.out (all_no' HX.out (not_true_b (fun h => by have := (isDig_iff _).1 h; omega)))).symm, hb⟩
        · have ed2 : decide (57 < (x.toNat : Int)) = false := decide_eq_false d2
          go_wp2
          go_round
          case rel => exact ⟨k + 1, by omega, by go_num, all_snoc' HK.out HX.out ((isDig_iff _).2 (by omega))⟩
          case measure => simp [intOf]; omega
    · have HK' : Hid (l.all isDig = true) := by have := HK.out; rw [List.take_of_length_le (by omega)] at this; exact this
      clear HK
      by_cases h0 : l = []
      · have e0 : (l == []) = true := by rw [beq_iff_eq]; exact h0
        have e1 : l.isEmpty = true := by rw [List.isEmpty_iff]; exact h0
        have HV : Hid (isD l = false) := by show _ = _; rw [h0]; rfl
        clear h0
        go_wp2
        go_ret
        exact ⟨retb HV.out.symm, hb⟩
      · have e0 : (l == []) = false := by rw [beq_eq_false_iff_ne]; exact h0
        have e1 : l.isEmpty = false := by rw [List.isEmpty_eq_false_iff]; exact h0
        have HV := Lib.hid ((isD_iff l).2 ⟨h0, HK'.out⟩)
        clear h0
        go_wp2
        go_ret
        exact ⟨retb HV.out.symm, hb⟩
set_option maxHeartbeats 1000000 in
set_option maxRecDepth 100000 in
theorem eDigits {l : List UInt8} (hl : l.length ≤ 1000000) : Ret 111 #[.string ⟨l.toArray⟩] (.bool (isD l)) := fun w hG => by
  have hb := Below.refl w.heap.size w
  have HN : Hid (l.all isDig = false → isD l = false) := by intro h; unfold isD; rw [h, Bool.and_false]
  go_enter Tryz.func111, Tryz.ntmps111
  go_wp2_with fail
  go_loop [3] (fun iv => ∃ k : Nat, k ≤ l.length ∧ iv = .int .i64 (k : Int) ∧ Hid ((l.take k).all isDig = true)) (fun iv => l.length - (intOf iv).toNat)
  case atStart => exact ⟨0, Nat.zero_le _, rfl, rfl⟩
  case round =>
    obtain ⟨k, hk, rfl, HK⟩ := hrel
    by_cases hlt : k < l.length
    · have hlt' : k < (⟨l.toArray⟩ : ByteArray).size := by show k < l.toArray.size; simpa using hlt
      obtain ⟨x, hx⟩ : ∃ x, x = (⟨l.toArray⟩ : ByteArray)[k] := ⟨_, rfl⟩
      have hxl : l[k]? = some x := by rw [hx]; simp [hlt]; rfl
      have HX := Lib.hid hxl
      clear hxl
      have hx2 : ∀ hp, (⟨l.toArray⟩ : ByteArray)[k]'hp = x := fun _ => hx.symm
      clear hx
      by_cases d1 : (x.toNat : Int) < 48
      · have ed1 : decide ((x.toNat : Int) < 48) = true := decide_eq_true d1
        go_wp2
        go_ret
        exact ⟨retb (HN.out (all_no' HX.out (not_true_b (fun h => by have := (isDig_iff _).1 h; omega)))).symm, hb⟩
      · have ed1 : decide ((x.toNat : Int) < 48) = false := decide_eq_false d1
        by_cases d2 : 57 < (x.toNat : Int)
        · have ed2 : decide (57 < (x.toNat : Int)) = true := decide_eq_true d2
          go_wp2
          go_ret
          exact ⟨retb (HN.out (all_no' HX.out (not_true_b (fun h => by have := (isDig_iff _).1 h; omega)))).symm, hb⟩
        · have ed2 : decide (57 < (x.toNat : Int)) = false := decide_eq_false d2
          go_wp2
          go_round
          case rel => exact ⟨k + 1, by omega, by go_num, all_snoc' HK.out HX.out ((isDig_iff _).2 (by omega))⟩
          case measure => simp [intOf]; omega
    · have HK' : Hid (l.all isDig = true) := by have := HK.out; rw [List.take_of_length_le (by omega)] at this; exact this
      clear HK
      by_cases h0 : l = []
      · have e0 : decide (0 < l.length) = false := decide_eq_false (by rw [h0]; decide)
        have e1 : ¬ 0 < l.length := by rw [h0]; decide
        have HV : Hid (isD l = false) := by show _ = _; rw [h0]; rfl
        clear h0
        go_wp2
        go_ret
        exact ⟨by rw [HV.out]; first | rfl | simp_all, hb⟩
      · have e1 : 0 < l.length := List.length_pos_iff.2 h0
        have e0 : decide (0 < l.length) = true := decide_eq_true e1
        have HV := Lib.hid ((isD_iff l).2 ⟨h0, HK'.out⟩)
        clear h0
        go_wp2
        go_ret
        exact ⟨by rw [HV.out]; first | rfl | simp_all, hb⟩
set_option maxHeartbeats 1000000 in
set_option maxRecDepth 100000 in
theorem dPlaces {n : Int} (h0 : 0 ≤ n) (h12 : n ≤ 12) : Ret 94 #[.int .i64 n] (.int .i64 0) := fun w hG => by
  have hb := Below.refl w.heap.size w
  have e1 : decide (n < 0) = false := decide_eq_false (by omega)
  have e2 : decide (12 < n) = false := decide_eq_false (by omega)
  go_enter Tryz.func94, Tryz.ntmps94
  go_wp2
  go_ret
  exact ⟨rfl, hb⟩
set_option maxHeartbeats 1000000 in
set_option maxRecDepth 100000 in
theorem dPlacesBad {n : Int} (h : n < 0 ∨ 12 < n) : Ret 94 #[.int .i64 n] (.int .i64 2) := fun w hG => by
  have hb := Below.refl w.heap.size w
  by_cases h0 : n < 0
  · have e1 : decide (n < 0) = true := decide_eq_true h0
    go_enter Tryz.func94, Tryz.ntmps94
    go_wp2
    go_ret
    exact ⟨rfl, hb⟩
  · have e1 : decide (n < 0) = false := decide_eq_false h0
    have h2 : 12 < n := by omega
    have e2 : decide (12 < n) = true := decide_eq_true h2
    go_enter Tryz.func94, Tryz.ntmps94
    go_wp2
    go_ret
    exact ⟨rfl, hb⟩
theorem ten_val (p : Nat) : val [49, 48] ^ p = ((10 ^ p : Nat) : Int) := by
  have : val [49, 48] = ((10 : Nat) : Int) := by decide
  rw [this, ← Int.natCast_pow]
theorem tenQ_int (p : Nat) : tenQ p = (((10 ^ p : Nat) : Int) : Rat) := rfl
theorem bd_ten (p : Nat) : Bd (p + 1) (tenQ p) := bd_int (by rw [Int.natAbs_natCast]; exact Nat.pow_lt_pow_right (by decide) (by omega)) (by omega)
set_option maxHeartbeats 2000000 in
set_option maxRecDepth 100000 in
theorem dShift {l l' : List UInt8} {q : Rat} (h : IsQ l l' q) {p : Nat} (hp : p ≤ 12) {r : Rat} (e : q * tenQ p = r) : Ret 102 #[(Value.agg #[Value.string ⟨List.toArray l⟩, Value.string ⟨List.toArray l'⟩]), .int .i64 (p : Int)] (Value.agg #[Value.string ⟨List.toArray (fN r)⟩, Value.string ⟨List.toArray (fD r)⟩]) := fun w hG => by
  have c1 := riPower (l := [49, 48]) (by decide) (n := p) (by omega) (ten_val p)
  have hlen : ((10 ^ p : Nat) : Int).natAbs < 10 ^ (p + 1) := by rw [Int.natAbs_natCast]; exact Nat.pow_lt_pow_right (by decide) (by omega)
  have c2 := rOf (l := canon ((10 ^ p : Nat) : Int)) (canon_len_of hlen (by omega)) (val_canon _)
  rw [← tenQ_int] at c2
  have c3 := rMul h (isq_fr (bd_ten p) (by omega)) e
  generalize fN (tenQ p) = M at *
  generalize fD (tenQ p) = E at *
  generalize canon ((10 ^ p : Nat) : Int) = T at *
  generalize fN r = N at *
  generalize fD r = D at *
  have C1 := Lib.hid c1
  have C2 := Lib.hid c2
  have C3 := Lib.hid c3
  have x2 := (FBox.new w (.string ⟨l.toArray⟩) (.string ⟨l'.toArray⟩) 32)
  have hb0 := below_alloc w (.cells #[.string ⟨l.toArray⟩, .string ⟨l'.toArray⟩] 32)
  have hsz : (w.alloc (.cells #[.string ⟨l.toArray⟩, .string ⟨l'.toArray⟩] 32)).heap.size = w.heap.size + 1 := World.size_alloc _ _
  have hlt := x2.lt
  obtain ⟨w0, hw0⟩ : ∃ w0, w0 = w.alloc (.cells #[.string ⟨l.toArray⟩, .string ⟨l'.toArray⟩] 32) := ⟨_, rfl⟩
  rw [← hw0] at x2 hb0 hsz hlt
  have hb1 := below_alloc w0 (.cells #[.string ⟨#[]⟩, .string ⟨#[]⟩] 32)
  have hbx := heap_alloc_new w0 (.cells #[.string ⟨#[]⟩, .string ⟨#[]⟩] 32)
  have HW := Lib.hid hw0
  have hsz2 : w.heap.size + 1 = w0.heap.size := hsz.symm
  clear c1 c2 c3 e hlen hsz h hw0
  go_enter Tryz.func102, Tryz.ntmps102
  go_wp2_with fail
  rw [← HW.out]
  ((with_reducible refine (C1.out.of hG (bto hb0 hb1)).mono ?_); rintro e w1 ⟨rfl, hb2⟩)
  have hbr : w1.heap[w0.heap.size]? = some (.cells #[.string ⟨#[]⟩, .string ⟨#[]⟩] 32 (0, 0)) := (hb2.block _ (by rw [World.size_alloc]; omega)).trans hbx
  replace hb1 := bto hb1 hb2
  clear hb2 hbx
  go_wp2_with fail
  (try rw [hsz2])
  refine wp_region_kept_at 5 w0.heap.size 4 _ (by kernel_rfl) (by kernel_rfl) (by decide) hb1 (Nat.le_refl _) hbr rfl ?_
  simp only [Act.put, List.setIfInBounds_toArray, List.set_cons_zero, List.set_cons_succ]
  clear hbr hsz2
  refine kept_val _ (fun _ => rfl) (fun ρ w hw => by have q0 := (x2.below hw).c0; have q1 := (x2.below hw).c1; go_simp; first | done | with_reducible rfl) ?_
  simp only [Act.put, List.setIfInBounds_toArray, List.set_cons_zero, List.set_cons_succ, Nat.reduceAdd]
  refine kept_val _ (fun _ => rfl) (fun ρ w hw => by go_simp; first | done | with_reducible rfl) ?_
  simp only [Act.put, List.setIfInBounds_toArray, List.set_cons_zero, List.set_cons_succ, Nat.reduceAdd]
  refine kept_call _ _ _ (fun _ => rfl) (fun ρ w hw => by go_simp; first | done | with_reducible rfl) (fun w hw => C2.out.of hG (bto hb0 hw)) ?_
  simp only [Act.put, List.setIfInBounds_toArray, List.set_cons_zero, List.set_cons_succ, Nat.reduceAdd]
  refine kept_call _ _ _ (fun _ => rfl) (fun ρ w hw => by go_simp; first | done | with_reducible rfl) (fun w hw => C3.out.of hG (bto hb0 hw)) ?_
  simp only [Act.put, List.setIfInBounds_toArray, List.set_cons_zero, List.set_cons_succ, Nat.reduceAdd]
  refine kept_putK 5 _ _ _ _ _ rfl rfl (fun _ => rfl) (fun ρ w hw q0 q1 q2 q3 => by go_simp; first | done | with_reducible rfl) ?_
  simp only [Act.put, Nat.reduceAdd]
  refine kept_end (fun ρ w3 hF => ?_)
  have hb := bto hb0 hF.below
  have x4 := FBox.ofB (hF.box 5 _ _ rfl).2
  generalize ρ 5 = b4 at *
  clear hF
  have d0 := x4.c0
  have d1 := x4.c1
  go_wp2
  refine bodyPost_ret (v := .agg #[.string ⟨N.toArray⟩, .string ⟨D.toArray⟩]) (by simp [results, Tryz.results102, go_sem, d0, d1]) rfl ?_
  exact ⟨rfl, hb⟩
set_option maxHeartbeats 1000000 in
set_option maxRecDepth 100000 in
theorem dScale {l l' : List UInt8} {q : Rat} {k : Nat} (h : IsQ l l' q) (b : Bd k q) (hk : k ≤ 80000) {p : Nat} (hp : p ≤ 12) {m : Int} (h1 : 1 ≤ m) (h6 : m ≤ 6) {z : Int} (e : rnd (q * tenQ p) m = z) : Ret 56 #[(Value.agg #[Value.string ⟨List.toArray l⟩, Value.string ⟨List.toArray l'⟩]), .int .i64 (p : Int), .int .i64 m] (.tuple #[.string ⟨(canon z).toArray⟩, .int .i64 0]) := fun w hG => by
  have c1 := dPlaces (n := (p : Int)) (by omega) (by omega)
  have c2 := dShift h hp rfl
  have bs := bd_mul b (bd_ten p)
  have c3 := rRound (isq_fr bs (by omega)) bs (by omega) h1 h6 e
  generalize fN (q * tenQ p) = M at *
  generalize fD (q * tenQ p) = E at *
  generalize canon z = Z at *
  have C1 := Lib.hid c1
  have C2 := Lib.hid c2
  have C3 := Lib.hid c3
  have x3 := FBox.new w (.string ⟨l.toArray⟩) (.string ⟨l'.toArray⟩) 32
  have hb := below_alloc w (.cells #[.string ⟨l.toArray⟩, .string ⟨l'.toArray⟩] 32)
  clear c1 c2 c3 e bs h b
  go_enter Tryz.func56, Tryz.ntmps56
  go_wp2_with fail
  ((with_reducible refine (C1.out.of hG hb).mono ?_); rintro e w2 ⟨rfl, hb2⟩)
  replace x3 := x3.below hb2
  replace hb := bto hb hb2
  clear hb2
  have qx3_0 := x3.c0
  have qx3_1 := x3.c1
  go_wp2_with fail
  ((with_reducible refine (C2.out.of hG hb).mono ?_); rintro e w3 ⟨rfl, hb3⟩)
  clear qx3_0 qx3_1
  replace x3 := x3.below hb3
  replace hb := bto hb hb3
  clear hb3
  go_wp2_with fail
  ((with_reducible refine (C3.out.of hG hb).mono ?_); rintro e w4 ⟨rfl, hb4⟩)
  replace x3 := x3.below hb4
  replace hb := bto hb hb4
  clear hb4
  go_wp2
  go_ret2
  exact ⟨rfl, hb⟩
set_option maxHeartbeats 1000000 in
set_option maxRecDepth 100000 in
theorem dScaleBad {l l' : List UInt8} {q : Rat} {k : Nat} (h : IsQ l l' q) (b : Bd k q) (hk : k ≤ 80000) {p : Nat} (hp : p ≤ 12) {m : Int} (hm : m < 1 ∨ 6 < m) : Ret 56 #[(Value.agg #[Value.string ⟨List.toArray l⟩, Value.string ⟨List.toArray l'⟩]), .int .i64 (p : Int), .int .i64 m] (.tuple #[.string ⟨#[]⟩, .int .i64 7]) := fun w hG => by
  have c1 := dPlaces (n := (p : Int)) (by omega) (by omega)
  have c2 := dShift h hp rfl
  have bs := bd_mul b (bd_ten p)
  have c3 := rRoundBad (isq_fr bs (by omega)) bs (by omega) hm
  generalize fN (q * tenQ p) = M at *
  generalize fD (q * tenQ p) = E at *
  have C1 := Lib.hid c1
  have C2 := Lib.hid c2
  have C3 := Lib.hid c3
  have x3 := FBox.new w (.string ⟨l.toArray⟩) (.string ⟨l'.toArray⟩) 32
  have hb := below_alloc w (.cells #[.string ⟨l.toArray⟩, .string ⟨l'.toArray⟩] 32)
  clear c1 c2 c3 bs h b hm
  go_enter Tryz.func56, Tryz.ntmps56
  go_wp2_with fail
  ((with_reducible refine (C1.out.of hG hb).mono ?_); rintro e w2 ⟨rfl, hb2⟩)
  replace x3 := x3.below hb2
  replace hb := bto hb hb2
  clear hb2
  have qx3_0 := x3.c0
  have qx3_1 := x3.c1
  go_wp2_with fail
  ((with_reducible refine (C2.out.of hG hb).mono ?_); rintro e w3 ⟨rfl, hb3⟩)
  clear qx3_0 qx3_1
  replace x3 := x3.below hb3
  replace hb := bto hb hb3
  clear hb3
  go_wp2_with fail
  ((with_reducible refine (C3.out.of hG hb).mono ?_); rintro e w4 ⟨rfl, hb4⟩)
  replace x3 := x3.below hb4
  replace hb := bto hb hb4
  clear hb4
  go_wp2
  go_ret2
  exact ⟨rfl, hb⟩
set_option maxHeartbeats 1000000 in
set_option maxRecDepth 100000 in
theorem dScaleOut {l l' : List UInt8} {n : Int} (hn : n < 0 ∨ 12 < n) (m : Int) : Ret 56 #[(Value.agg #[Value.string ⟨List.toArray l⟩, Value.string ⟨List.toArray l'⟩]), .int .i64 n, .int .i64 m] (.tuple #[.string ⟨#[]⟩, .int .i64 2]) := fun w hG => by
  have c1 := dPlacesBad hn
  have C1 := Lib.hid c1
  have hb := below_alloc w (.cells #[.string ⟨l.toArray⟩, .string ⟨l'.toArray⟩] 32)
  clear c1
  go_enter Tryz.func56, Tryz.ntmps56
  go_wp2_with fail
  ((with_reducible refine (C1.out.of hG hb).mono ?_); rintro e w2 ⟨rfl, hb2⟩)
  go_wp2
  go_ret2
  exact ⟨rfl, bto hb hb2⟩
end Go.Proofs.YtmmhimgkpfcokaaGreatDoor
