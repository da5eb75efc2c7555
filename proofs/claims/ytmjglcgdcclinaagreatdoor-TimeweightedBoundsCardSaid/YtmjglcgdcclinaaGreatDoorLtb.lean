/- TimeweightedBounds. -/
import Derived.Test.YtmjglcgdcclinaaGreatDoorTj
namespace Go.Proofs.YtmjglcgdcclinaaGreatDoor
open Go.RowKit Num
theorem tenth (n : Nat) : (Rat.divInt 1 10) ^ n = Rat.divInt 1 ((10 ^ n : Nat) : Int) := by
  have hu : (0 : Int) < ((10 ^ n : Nat) : Int) := by have := Nat.pow_pos (a := 10) (n := n) (by decide); omega
  have h1 := pow_cancel (y := 1) (u := 10) (by decide) n
  have h2 := divInt_mul_den (y := 1) hu
  have e1 : ((10 : Int) ^ n) = ((10 ^ n : Nat) : Int) := by rw [Int.natCast_pow]; rfl
  rw [e1, Int.one_pow] at h1
  exact (mul_inj (intq_pos hu)).1 (h1.trans h2.symm)
theorem fD_int (z : Int) : fD ((z : Int) : Rat) = [] := if_pos rfl
theorem units (z : Int) {u : Int} (hu : 0 < u) : Rat.divInt z u / Rat.divInt 1 u = ((z : Int) : Rat) := by
  have h1 := divInt_mul_den (y := z) hu
  have h2 := divInt_mul_den (y := 1) hu
  have hp := intq_pos hu
  have o : ((1 : Int) : Rat) = 1 := rfl
  rw [o] at h2
  have h3 : Rat.divInt 1 u ≠ 0 := fun e => by rw [e, Rat.zero_mul] at h2; exact absurd h2 (by decide)
  have h4 : Rat.divInt z u = (z : Rat) * Rat.divInt 1 u := by
    refine (mul_inj hp).1 ?_
    rw [h1, Rat.mul_assoc, h2, Rat.mul_one]
  rw [h4, Rat.div_def, Rat.mul_assoc, Rat.mul_inv_cancel _ h3, Rat.mul_one]
theorem unit_diff (z : Int) {u : Int} (hu : 0 < u) : Rat.divInt (z + 1 - u) u - Rat.divInt (z - u) u = Rat.divInt 1 u := by
  have h := plus_unit (z - u) hu
  rw [show z - u + 1 = z + 1 - u by omega] at h
  rw [← h]; grind
set_option maxHeartbeats 16000000 in
set_option maxRecDepth 100000 in
theorem bounds_law (l l' : List UInt8) (yv pv : Int) (hy0 : 0 ≤ yv) (hy1 : yv ≤ 255) (hp0 : 0 ≤ pv) (hp1 : pv ≤ 255) (w : World) (hG : Glob w) :
    Calls Tryz.prog 8 #[(Value.agg #[Value.string ⟨List.toArray l⟩, Value.string ⟨List.toArray l'⟩]), .int .u8 yv, .int .u8 pv] w fun e w' => e = .returned (.bool true) ∧ Below w.heap.size w w' := by
  have CW := Lib.hid wAwake46
  obtain ⟨ky, hky, hky8⟩ : ∃ k : Nat, yv % 8 = (k : Int) ∧ k < 8 := ⟨(yv % 8).toNat, by omega, by omega⟩
  obtain ⟨kp, hkp, hkp13⟩ : ∃ k : Nat, pv % 13 = (k : Int) ∧ k < 13 := ⟨(pv % 13).toNat, by omega, by omega⟩
  obtain ⟨n, hn⟩ : ∃ n : Nat, n = 1 + ky := ⟨_, rfl⟩
  have HKy := Lib.hid hky
  have HKp := Lib.hid hkp
  have HNY : Hid (1 + (ky : Int) = (n : Int)) := by show _ = _; omega
  have HN := Lib.hid hn
  have HN8 : Hid (ky < 8 ∧ kp < 13) := ⟨hky8, hkp13⟩
  clear hky hkp hn hky8 hkp13
  have c0 := great_new (w.alloc (.cells #[.string ⟨l.toArray⟩, .string ⟨l'.toArray⟩] 32)) [l, l'] 1 1 32 rfl (by decide)
  simp only [World.size_alloc, List.map_cons, List.map_nil] at c0
  have C0 := Lib.hid c0
  clear c0
  have x3 := FBox.new w (.string ⟨l.toArray⟩) (.string ⟨l'.toArray⟩) 32
  have hb := below_alloc w (.cells #[.string ⟨l.toArray⟩, .string ⟨l'.toArray⟩] 32)
  go_enter Tryz.func8, Tryz.ntmps8
  go_wp2_with fail
  simp only [HKy.out, HKp.out, HNY.out]
  have hn := HN.out
  obtain ⟨hky8, hkp13⟩ := HN8.out
  clear hy0 hy1 hp0 hp1
  refine C0.out.mono ?_
  rintro e w1 ⟨hres, hb1⟩
  replace hb1 : Below (w.alloc (.cells #[.string ⟨l.toArray⟩, .string ⟨l'.toArray⟩] 32)).heap.size (w.alloc (.cells #[.string ⟨l.toArray⟩, .string ⟨l'.toArray⟩] 32)) w1 := by rw [World.size_alloc]; exact hb1
  replace x3 := x3.below hb1
  replace hb := bto hb hb1
  clear hb1 C0
  rcases hres with ⟨rfl, -⟩ | ⟨rfl, hall⟩
  · go_wp2_with fail
    ((with_reducible refine (CW.out.of hG hb).mono ?_); rintro e w99 ⟨rfl, hb99⟩)
    go_wp2
    go_ret
    exact ⟨rfl, bto hb hb99⟩
  have hl : l.length ≤ 60 := hall l (by simp)
  have hl' : l'.length ≤ 60 := hall l' (by simp)
  clear hall
  have q30 := x3.c0
  have q31 := x3.c1
  by_cases g : l = fN (fv l l') ∧ l' = fD (fv l l')
  rotate_left
  · have C1 := Lib.hid (sCheck (l := l) (l' := l') (by omega) (by omega) rfl (if_neg g))
    clear g
    go_wp2_with fail
    ((with_reducible refine (C1.out.of hG hb).mono ?_); rintro e w2 ⟨rfl, hb2⟩)
    replace hb := bto hb hb2
    clear hb2 C1 q30 q31
    go_wp2_with fail
    ((with_reducible refine (CW.out.of hG hb).mono ?_); rintro e w99 ⟨rfl, hb99⟩)
    go_wp2
    go_ret
    exact ⟨rfl, bto hb hb99⟩
  have C1 := Lib.hid (sCheck (l := l) (l' := l') (by omega) (by omega) rfl (if_pos g))
  have hcq : cmpQ (fv l l') 0 ≤ 0 ↔ fv l l' ≤ 0 := cmpQ_le0
  have C2 := Lib.hid (sSign (l := l) (l' := l') (by omega) (by omega) rfl)
  by_cases gs : fv l l' ≤ 0
  · have e1 : decide (cmpQ (fv l l') 0 ≤ 0) = true := decide_eq_true (hcq.2 gs)
    generalize cmpQ (fv l l') 0 = cc at *
    clear g gs hcq
    go_wp2_with fail
    ((with_reducible refine (C1.out.of hG hb).mono ?_); rintro e w2 ⟨rfl, hb2⟩)
    replace x3 := x3.below hb2
    replace hb := bto hb hb2
    clear hb2 C1
    replace q30 := x3.c0
    replace q31 := x3.c1
    go_wp2_with fail
    ((with_reducible refine (C2.out.of hG hb).mono ?_); rintro e w3 ⟨rfl, hb3⟩)
    replace x3 := x3.below hb3
    replace hb := bto hb hb3
    clear hb3 C2
    clear q30 q31
    go_wp2_with fail
    ((with_reducible refine (CW.out.of hG hb).mono ?_); rintro e w99 ⟨rfl, hb99⟩)
    go_wp2
    go_ret
    exact ⟨rfl, bto hb hb99⟩
  have e1 : decide (cmpQ (fv l l') 0 ≤ 0) = false := decide_eq_false (fun h => gs (hcq.1 h))
  generalize cmpQ (fv l l') 0 = cc at *
  have hf0 : 0 < fv l l' := by grind
  have hf60 : Bd 60 (fv l l') := bd_fv hl hl' (by decide)
  have hn8 : n ≤ 8 := by omega
  have hn0 : 0 < n := by omega
  have hu0 : 0 < ((10 ^ kp : Nat) : Int) := by have := Nat.pow_pos (a := 10) (n := kp) (by decide); omega
  obtain ⟨z, hz⟩ := rootA_is hf0 hn0 hu0
  have hz2 : RootA (fv l l') (n : Int).toNat ((10 ^ (kp : Int).toNat : Nat) : Int) z := by rw [Int.toNat_natCast, Int.toNat_natCast]; exact hz
  obtain ⟨r1, -, -⟩ := root_abs (p := (kp : Int)) hf60 (by omega) hz2
  have hnb : ¬ annBad (fv l l') (n : Int) (kp : Int) := by
    unfold annBad
    rintro (h | h | h | h | h)
    · exact gs h
    · omega
    · omega
    · omega
    · omega
  have hAV : annV l l' (n : Int) (kp : Int) z = .tuple #[(Value.agg #[Value.string ⟨List.toArray (fN (Rat.divInt (z - ((10 ^ kp : Nat) : Int)) ((10 ^ kp : Nat) : Int)))⟩, Value.string ⟨List.toArray (fD (Rat.divInt (z - ((10 ^ kp : Nat) : Int)) ((10 ^ kp : Nat) : Int)))⟩]), (Value.agg #[Value.string ⟨List.toArray (fN (Rat.divInt (topA (fv l l') n ((10 ^ kp : Nat) : Int) z - ((10 ^ kp : Nat) : Int)) ((10 ^ kp : Nat) : Int)))⟩, Value.string ⟨List.toArray (fD (Rat.divInt (topA (fv l l') n ((10 ^ kp : Nat) : Int) z - ((10 ^ kp : Nat) : Int)) ((10 ^ kp : Nat) : Int)))⟩]), .int .i64 0] := by
    unfold annV
    rw [if_neg (fun h => h g), if_neg hnb, Int.toNat_natCast, Int.toNat_natCast]
  have C3 : Hid (Ret 45 #[(Value.agg #[Value.string ⟨List.toArray l⟩, Value.string ⟨List.toArray l'⟩]), .int .i64 (n : Int), .int .i64 (kp : Int)] (.tuple #[(Value.agg #[Value.string ⟨List.toArray (fN (Rat.divInt (z - ((10 ^ kp : Nat) : Int)) ((10 ^ kp : Nat) : Int)))⟩, Value.string ⟨List.toArray (fD (Rat.divInt (z - ((10 ^ kp : Nat) : Int)) ((10 ^ kp : Nat) : Int)))⟩]), (Value.agg #[Value.string ⟨List.toArray (fN (Rat.divInt (topA (fv l l') n ((10 ^ kp : Nat) : Int) z - ((10 ^ kp : Nat) : Int)) ((10 ^ kp : Nat) : Int)))⟩, Value.string ⟨List.toArray (fD (Rat.divInt (topA (fv l l') n ((10 ^ kp : Nat) : Int) z - ((10 ^ kp : Nat) : Int)) ((10 ^ kp : Nat) : Int)))⟩]), .int .i64 0])) := fun w hG => by
    rw [← hAV]; exact twAnnual_ok l l' (n : Int) (kp : Int) z w hG hl hl' g hnb (by omega) hz2
  have hlow := hz.low hf0 hn0
  have hhigh := hz.high
  have hnext := hz.next
  have hzn := hz.nn
  have hT : topA (fv l l') n ((10 ^ kp : Nat) : Int) z = if (Rat.divInt z ((10 ^ kp : Nat) : Int)) ^ n = fv l l' then z else z + 1 := rfl
  have hua : (((10 ^ kp : Nat) : Int)).natAbs < 10 ^ 13 := by rw [Int.natAbs_natCast]; exact Nat.pow_lt_pow_right (by decide) (by omega)
  have htop : topA (fv l l') n ((10 ^ kp : Nat) : Int) z ≤ z + 1 ∧ z ≤ topA (fv l l') n ((10 ^ kp : Nat) : Int) z := by rw [hT]; split <;> omega
  have hten := tenth kp
  generalize topA (fv l l') n ((10 ^ kp : Nat) : Int) z = top at *
  obtain ⟨f, hf⟩ : ∃ f, f = fv l l' := ⟨_, rfl⟩
  rw [← hf] at hlow hhigh hnext hT
  generalize ((10 ^ kp : Nat) : Int) = u at *
  have hBz : Bd 80 (Rat.divInt z u) := bd_divInt (Nat.lt_of_lt_of_le r1 (by decide)) (Nat.lt_of_lt_of_le hua (by decide)) (by omega)
  have hBt : Bd 80 (Rat.divInt top u) := bd_divInt (Nat.lt_of_lt_of_le (show top.natAbs < 10 ^ 76 from (by have h4 : (10 : Nat) ^ 75 + 1 ≤ 10 ^ 76 := (by decide); omega)) (by decide)) (Nat.lt_of_lt_of_le hua (by decide)) (by omega)
  have hBa : Bd 100 (Rat.divInt (z - u) u) := by rw [less_one z hu0]; exact bd_mono (bd_sub hBz bd_one) (by decide)
  have hBb : Bd 100 (Rat.divInt (top - u) u) := by rw [less_one top hu0]; exact bd_mono (bd_sub hBt bd_one) (by decide)
  have hBu : Bd 13 (Rat.divInt 1 u) := bd_divInt (by decide) hua (by omega)
  have G1 := Lib.hid (twGrown (r := Rat.divInt z u) hBa (by decide) (by rw [less_one z hu0]; grind))
  have G2 := Lib.hid (twGrown (r := Rat.divInt top u) hBb (by decide) (by rw [less_one top hu0]; grind))
  have P1 := Lib.hid (rPow (l := fN (Rat.divInt z u)) (l' := fD (Rat.divInt z u)) (by have := (bd_len hBz).1; omega) (by have := (bd_len hBz).2; omega) (fv_frac _) (n : Int) (by omega) (by omega) (.inl (by omega)) (rat_pow_int _ n))
  have P2 := Lib.hid (rPow (l := fN (Rat.divInt top u)) (l' := fD (Rat.divInt top u)) (by have := (bd_len hBt).1; omega) (by have := (bd_len hBt).2; omega) (fv_frac _) (n : Int) (by omega) (by omega) (.inl (by omega)) (rat_pow_int _ n))
  have B1 := Lib.hid (twFrac (l := [49]) (l' := [49, 48]) (by decide) (by decide) (by decide) (show _ = Rat.divInt 1 10 by decide))
  have P3 := Lib.hid (rPow (l := fN (Rat.divInt 1 10)) (l' := fD (Rat.divInt 1 10)) (by decide +kernel) (by decide +kernel) (fv_frac _) (kp : Int) (by omega) (by omega) (.inl (by omega)) ((rat_pow_int _ kp).trans hten))
  have c0 : Ret 37 #[.string ⟨[45, 49].toArray⟩] (Value.agg #[Value.string ⟨List.toArray (fN ((-1 : Rat)))⟩, Value.string ⟨List.toArray (fD ((-1 : Rat)))⟩]) := by have h := rOf (l := [45, 49]) (by decide) (z := -1) (by decide); exact h
  have D1 := Lib.hid c0
  have D2 := Lib.hid (rCompare (isq_fr hBa (by decide)) (isq_fr (q := -1) (k := 1) ⟨by decide, by decide⟩ (by decide)) rfl)
  have D3 := Lib.hid (rCompare (isq_fr (bd_pow hBz n) (by omega)) (isq_raw (l := l) (l' := l') (k := 60) hl hl' (by decide)) rfl)
  have D4 := Lib.hid (rCompare (isq_fr (bd_pow hBt n) (by omega)) (isq_raw (l := l) (l' := l') (k := 60) hl hl' (by decide)) rfl)
  have hun0 : Rat.divInt 1 u ≠ 0 := fun e => by have := divInt_pos (y := 1) (u := u) (by decide) hu0; rw [e] at this; exact absurd this (by decide)
  have D5a := Lib.hid (rQuo (isq_fr hBa (by decide)) (isq_fr hBu (by decide)) hun0 rfl)
  have D5b := Lib.hid (rQuo (isq_fr hBb (by decide)) (isq_fr hBu (by decide)) hun0 rfl)
  have fa0 : fD (Rat.divInt (z - u) u / Rat.divInt 1 u) = [] := by rw [units _ hu0]; exact fD_int _
  have fb0 : fD (Rat.divInt (top - u) u / Rat.divInt 1 u) = [] := by rw [units _ hu0]; exact fD_int _
  rw [fa0] at D5a
  rw [fb0] at D5b
  have D6 := Lib.hid (rSub (isq_fr hBb (by decide)) (isq_fr hBa (by decide)) rfl)
  have HE1 : Hid ((Rat.divInt z u) ^ n = f → Rat.divInt (top - u) u = Rat.divInt (z - u) u) := fun h => by rw [hT, if_pos h]
  have HE2 : Hid (¬ (Rat.divInt z u) ^ n = f → Rat.divInt (top - u) u - Rat.divInt (z - u) u = Rat.divInt 1 u ∧ f < (Rat.divInt top u) ^ n) := fun h => by rw [hT, if_neg h]; exact ⟨unit_diff z hu0, hnext⟩
  rw [← hf] at D3 D4
  have k1 : decide (cmpQ (Rat.divInt (z - u) u) (-1) < 0) = false := decide_eq_false (fun h => by
    have h1 : 0 ≤ Rat.divInt z u := by
      by_cases h0 : z = 0
      · rw [h0, divInt_zero']; exact Rat.le_refl
      · exact Rat.le_of_lt (divInt_pos (by omega) hu0)
    rw [less_one z hu0, cmpQ_if] at h
    split at h
    · grind
    · split at h <;> omega)
  have k2 : decide (0 < cmpQ ((Rat.divInt z u) ^ n) f) = false := decide_eq_false (fun h => by have := cmpQ_le0.2 hlow; omega)
  have k3 : decide (cmpQ ((Rat.divInt top u) ^ n) f < 0) = false := decide_eq_false (fun h => by
    rw [cmpQ_if] at h
    split at h
    · grind
    · split at h <;> omega)
  have HC3 : Hid (cmpQ ((Rat.divInt z u) ^ n) f = 0 ↔ (Rat.divInt z u) ^ n = f) := cmpQ_eq _ _
  have HC4 : Hid (f < (Rat.divInt top u) ^ n → 0 < cmpQ ((Rat.divInt top u) ^ n) f) := fun h => by
    rw [cmpQ_if, if_neg (by grind), if_pos h]; decide
  generalize cmpQ (Rat.divInt (z - u) u) (-1) = c1 at *
  generalize cmpQ ((Rat.divInt z u) ^ n) f = c3 at *
  generalize cmpQ ((Rat.divInt top u) ^ n) f = c4 at *
  obtain ⟨qd, hqd⟩ : ∃ qd, qd = Rat.divInt (top - u) u - Rat.divInt (z - u) u := ⟨_, rfl⟩
  rw [← hqd] at D6 HE2
  generalize (Rat.divInt z u) ^ n = low at *
  generalize (Rat.divInt top u) ^ n = high at *
  generalize Rat.divInt z u = za at *
  generalize Rat.divInt top u = zt at *
  generalize Rat.divInt 1 10 = te at *
  obtain ⟨un, hun⟩ : ∃ un, un = Rat.divInt 1 u := ⟨_, rfl⟩
  rw [← hun] at P3 D5a D5b HE2
  obtain ⟨qa, hqa⟩ : ∃ qa, qa = Rat.divInt (z - u) u := ⟨_, rfl⟩
  rw [← hqa] at C3 G1 D2 D5a D6 HE1
  obtain ⟨qb, hqb⟩ : ∃ qb, qb = Rat.divInt (top - u) u := ⟨_, rfl⟩
  rw [← hqb] at C3 G2 D5b D6 HE1
  generalize (-1 : Rat) = mo at *
  clear g gs hcq hf0 hf60 hn hn0 hu0 hz hz2 r1 hnb hAV hlow hhigh hnext hzn hT hua htop hten hBz hBt hBa hBb hBu c0 hun0 fa0 fb0 hqd hun hqa hqb hl hl' hf hky8 hkp13
  go_wp2_with fail
  ((with_reducible refine (C1.out.of hG hb).mono ?_); rintro e w2 ⟨rfl, hb2⟩)
  replace x3 := x3.below hb2
  replace hb := bto hb hb2
  clear hb2 C1
  replace q30 := x3.c0
  replace q31 := x3.c1
  go_wp2_with fail
  ((with_reducible refine (C2.out.of hG hb).mono ?_); rintro e w3 ⟨rfl, hb3⟩)
  replace x3 := x3.below hb3
  replace hb := bto hb hb3
  clear hb3 C2
  replace q30 := x3.c0
  replace q31 := x3.c1
  go_wp2_with fail
  ((with_reducible refine (C3.out.of hG hb).mono ?_); rintro e w4 ⟨rfl, hb4⟩)
  replace x3 := x3.below hb4
  replace hb := bto hb hb4
  clear hb4 C3
  have hbA := below_alloc w4 (.cells #[.string ⟨(fN (qa)).toArray⟩, .string ⟨(fD (qa)).toArray⟩] 32)
  have x9 := FBox.new w4 (.string ⟨(fN (qa)).toArray⟩) (.string ⟨(fD (qa)).toArray⟩) 32
  replace x3 := x3.below hbA
  replace hb := bto hb hbA
  clear hbA
  have hbA := below_alloc (w4.alloc (.cells #[.string ⟨(fN (qa)).toArray⟩, .string ⟨(fD (qa)).toArray⟩] 32)) (.cells #[.string ⟨(fN (qb)).toArray⟩, .string ⟨(fD (qb)).toArray⟩] 32)
  have x10 := FBox.new (w4.alloc (.cells #[.string ⟨(fN (qa)).toArray⟩, .string ⟨(fD (qa)).toArray⟩] 32)) (.string ⟨(fN (qb)).toArray⟩) (.string ⟨(fD (qb)).toArray⟩) 32
  replace x3 := x3.below hbA
  replace x9 := x9.below hbA
  replace hb := bto hb hbA
  clear hbA
  simp only [World.size_alloc] at x10
  clear q30 q31
  have p0 := x9.c0
  have p1 := x9.c1
  go_wp2_with fail
  ((with_reducible refine (G1.out.of hG hb).mono ?_); rintro e w5 ⟨rfl, hb5⟩)
  replace x3 := x3.below hb5
  replace x9 := x9.below hb5
  replace x10 := x10.below hb5
  replace hb := bto hb hb5
  clear hb5 G1
  clear p0 p1
  go_wp2_with fail
  ((with_reducible refine (P1.out.of hG hb).mono ?_); rintro e w6 ⟨rfl, hb6⟩)
  replace x3 := x3.below hb6
  replace x9 := x9.below hb6
  replace x10 := x10.below hb6
  replace hb := bto hb hb6
  clear hb6 P1
  have hbA := below_alloc w6 (.cells #[.string ⟨(fN (low)).toArray⟩, .string ⟨(fD (low)).toArray⟩] 32)
  have x12 := FBox.new w6 (.string ⟨(fN (low)).toArray⟩) (.string ⟨(fD (low)).toArray⟩) 32
  replace x3 := x3.below hbA
  replace x9 := x9.below hbA
  replace x10 := x10.below hbA
  replace hb := bto hb hbA
  clear hbA
  have p0 := x10.c0
  have p1 := x10.c1
  go_wp2_with fail
  ((with_reducible refine (G2.out.of hG hb).mono ?_); rintro e w7 ⟨rfl, hb7⟩)
  replace x3 := x3.below hb7
  replace x9 := x9.below hb7
  replace x10 := x10.below hb7
  replace x12 := x12.below hb7
  replace hb := bto hb hb7
  clear hb7 G2
  clear p0 p1
  go_wp2_with fail
  ((with_reducible refine (P2.out.of hG hb).mono ?_); rintro e w8 ⟨rfl, hb8⟩)
  replace x3 := x3.below hb8
  replace x9 := x9.below hb8
  replace x10 := x10.below hb8
  replace x12 := x12.below hb8
  replace hb := bto hb hb8
  clear hb8 P2
  have hbA := below_alloc w8 (.cells #[.string ⟨(fN (high)).toArray⟩, .string ⟨(fD (high)).toArray⟩] 32)
  have x14 := FBox.new w8 (.string ⟨(fN (high)).toArray⟩) (.string ⟨(fD (high)).toArray⟩) 32
  replace x3 := x3.below hbA
  replace x9 := x9.below hbA
  replace x10 := x10.below hbA
  replace x12 := x12.below hbA
  replace hb := bto hb hbA
  clear hbA
  go_wp2_with fail
  ((with_reducible refine (B1.out.of hG hb).mono ?_); rintro e w9 ⟨rfl, hb9⟩)
  replace x3 := x3.below hb9
  replace x9 := x9.below hb9
  replace x10 := x10.below hb9
  replace x12 := x12.below hb9
  replace x14 := x14.below hb9
  replace hb := bto hb hb9
  clear hb9 B1
  go_wp2_with fail
  ((with_reducible refine (P3.out.of hG hb).mono ?_); rintro e w10 ⟨rfl, hb10⟩)
  replace x3 := x3.below hb10
  replace x9 := x9.below hb10
  replace x10 := x10.below hb10
  replace x12 := x12.below hb10
  replace x14 := x14.below hb10
  replace hb := bto hb hb10
  clear hb10 P3
  have hbA := below_alloc w10 (.cells #[.string ⟨(fN (un)).toArray⟩, .string ⟨(fD (un)).toArray⟩] 32)
  have x16 := FBox.new w10 (.string ⟨(fN (un)).toArray⟩) (.string ⟨(fD (un)).toArray⟩) 32
  replace x3 := x3.below hbA
  replace x9 := x9.below hbA
  replace x10 := x10.below hbA
  replace x12 := x12.below hbA
  replace x14 := x14.below hbA
  replace hb := bto hb hbA
  clear hbA
  go_wp2_with fail
  refine wp_region_kept (by kernel_rfl) (by kernel_rfl) ?_
  refine kept_val _ (fun _ => rfl) (fun ρ w hw => by go_simp; first | done | with_reducible rfl) ?_
  simp only [Act.put, List.setIfInBounds_toArray, List.set_cons_zero, List.set_cons_succ, Nat.reduceAdd]
  refine kept_val _ (fun _ => rfl) (fun ρ w hw => by go_simp; first | done | with_reducible rfl) ?_
  simp only [Act.put, List.setIfInBounds_toArray, List.set_cons_zero, List.set_cons_succ, Nat.reduceAdd]
  refine kept_val _ (fun _ => rfl) (fun ρ w hw => by go_simp; first | done | with_reducible rfl) ?_
  simp only [Act.put, List.setIfInBounds_toArray, List.set_cons_zero, List.set_cons_succ, Nat.reduceAdd]
  refine kept_val _ (fun _ => rfl) (fun ρ w hw => by go_simp; first | done | with_reducible rfl) ?_
  simp only [Act.put, List.setIfInBounds_toArray, List.set_cons_zero, List.set_cons_succ, Nat.reduceAdd]
  refine kept_val _ (fun _ => rfl) (fun ρ w hw => by go_simp; first | done | with_reducible rfl) ?_
  simp only [Act.put, List.setIfInBounds_toArray, List.set_cons_zero, List.set_cons_succ, Nat.reduceAdd]
  refine kept_val _ (fun _ => rfl) (fun ρ w hw => by go_simp; first | done | with_reducible rfl) ?_
  simp only [Act.put, List.setIfInBounds_toArray, List.set_cons_zero, List.set_cons_succ, Nat.reduceAdd]
  refine kept_val _ (fun _ => rfl) (fun ρ w hw => by go_simp; first | done | with_reducible rfl) ?_
  simp only [Act.put, List.setIfInBounds_toArray, List.set_cons_zero, List.set_cons_succ, Nat.reduceAdd]
  refine kept_val _ (fun _ => rfl) (fun ρ w hw => by go_simp; first | done | with_reducible rfl) ?_
  simp only [Act.put, List.setIfInBounds_toArray, List.set_cons_zero, List.set_cons_succ, Nat.reduceAdd]
  refine kept_val _ (fun _ => rfl) (fun ρ w hw => by go_simp; first | done | with_reducible rfl) ?_
  simp only [Act.put, List.setIfInBounds_toArray, List.set_cons_zero, List.set_cons_succ, Nat.reduceAdd]
  refine kept_val _ (fun _ => rfl) (fun ρ w hw => by go_simp; first | done | with_reducible rfl) ?_
  simp only [Act.put, List.setIfInBounds_toArray, List.set_cons_zero, List.set_cons_succ, Nat.reduceAdd]
  refine kept_val _ (fun _ => rfl) (fun ρ w hw => by go_simp; first | done | with_reducible rfl) ?_
  simp only [Act.put, List.setIfInBounds_toArray, List.set_cons_zero, List.set_cons_succ, Nat.reduceAdd]
  refine kept_val _ (fun _ => rfl) (fun ρ w hw => by have q0 := (x9.below hw).c0; have q1 := (x9.below hw).c1; go_simp; first | done | with_reducible rfl) ?_
  simp only [Act.put, List.setIfInBounds_toArray, List.set_cons_zero, List.set_cons_succ, Nat.reduceAdd]
  refine kept_call _ _ _ (fun _ => rfl) (fun ρ w hw => by go_simp; first | done | with_reducible rfl) (fun w hw => D1.out.of hG (bto hb hw)) ?_
  simp only [Act.put, List.setIfInBounds_toArray, List.set_cons_zero, List.set_cons_succ, Nat.reduceAdd]
  refine kept_call _ _ _ (fun _ => rfl) (fun ρ w hw => by go_simp; first | done | with_reducible rfl) (fun w hw => D2.out.of hG (bto hb hw)) ?_
  simp only [Act.put, List.setIfInBounds_toArray, List.set_cons_zero, List.set_cons_succ, Nat.reduceAdd]
  refine kept_val _ (fun _ => rfl) (fun ρ w hw => by go_simp; first | done | with_reducible rfl) ?_
  simp only [Act.put, List.setIfInBounds_toArray, List.set_cons_zero, List.set_cons_succ, Nat.reduceAdd]
  refine kept_val _ (fun _ => rfl) (fun ρ w hw => by go_simp; first | done | with_reducible rfl) ?_
  simp only [Act.put, List.setIfInBounds_toArray, List.set_cons_zero, List.set_cons_succ, Nat.reduceAdd]
  refine kept_val _ (fun _ => rfl) (fun ρ w hw => by go_simp; first | done | with_reducible rfl) ?_
  simp only [Act.put, List.setIfInBounds_toArray, List.set_cons_zero, List.set_cons_succ, Nat.reduceAdd]
  refine kept_val _ (fun _ => rfl) (fun ρ w hw => by have q0 := (x12.below hw).c0; have q1 := (x12.below hw).c1; go_simp; first | done | with_reducible rfl) ?_
  simp only [Act.put, List.setIfInBounds_toArray, List.set_cons_zero, List.set_cons_succ, Nat.reduceAdd]
  refine kept_val _ (fun _ => rfl) (fun ρ w hw => by have q0 := (x3.below hw).c0; have q1 := (x3.below hw).c1; go_simp; first | done | with_reducible rfl) ?_
  simp only [Act.put, List.setIfInBounds_toArray, List.set_cons_zero, List.set_cons_succ, Nat.reduceAdd]
  refine kept_call _ _ _ (fun _ => rfl) (fun ρ w hw => by go_simp; first | done | with_reducible rfl) (fun w hw => D3.out.of hG (bto hb hw)) ?_
  simp only [Act.put, List.setIfInBounds_toArray, List.set_cons_zero, List.set_cons_succ, Nat.reduceAdd]
  refine kept_val _ (fun _ => rfl) (fun ρ w hw => by go_simp; first | done | with_reducible rfl) ?_
  simp only [Act.put, List.setIfInBounds_toArray, List.set_cons_zero, List.set_cons_succ, Nat.reduceAdd]
  refine kept_val _ (fun _ => rfl) (fun ρ w hw => by go_simp; first | done | with_reducible rfl) ?_
  simp only [Act.put, List.setIfInBounds_toArray, List.set_cons_zero, List.set_cons_succ, Nat.reduceAdd]
  refine kept_val _ (fun _ => rfl) (fun ρ w hw => by go_simp; first | done | with_reducible rfl) ?_
  simp only [Act.put, List.setIfInBounds_toArray, List.set_cons_zero, List.set_cons_succ, Nat.reduceAdd]
  refine kept_val _ (fun _ => rfl) (fun ρ w hw => by have q0 := (x14.below hw).c0; have q1 := (x14.below hw).c1; go_simp; first | done | with_reducible rfl) ?_
  simp only [Act.put, List.setIfInBounds_toArray, List.set_cons_zero, List.set_cons_succ, Nat.reduceAdd]
  refine kept_val _ (fun _ => rfl) (fun ρ w hw => by have q0 := (x3.below hw).c0; have q1 := (x3.below hw).c1; go_simp; first | done | with_reducible rfl) ?_
  simp only [Act.put, List.setIfInBounds_toArray, List.set_cons_zero, List.set_cons_succ, Nat.reduceAdd]
  refine kept_call _ _ _ (fun _ => rfl) (fun ρ w hw => by go_simp; first | done | with_reducible rfl) (fun w hw => D4.out.of hG (bto hb hw)) ?_
  simp only [Act.put, List.setIfInBounds_toArray, List.set_cons_zero, List.set_cons_succ, Nat.reduceAdd]
  refine kept_val _ (fun _ => rfl) (fun ρ w hw => by go_simp; first | done | with_reducible rfl) ?_
  simp only [Act.put, List.setIfInBounds_toArray, List.set_cons_zero, List.set_cons_succ, Nat.reduceAdd]
  refine kept_val _ (fun _ => rfl) (fun ρ w hw => by go_simp; first | done | with_reducible rfl) ?_
  simp only [Act.put, List.setIfInBounds_toArray, List.set_cons_zero, List.set_cons_succ, Nat.reduceAdd]
  refine kept_end (fun ρ w11 hF => ?_)
  have hbF := hF.below
  (try dsimp only)
  replace x3 := x3.below hbF; replace x9 := x9.below hbF; replace x10 := x10.below hbF; replace x12 := x12.below hbF; replace x14 := x14.below hbF; replace x16 := x16.below hbF
  replace hb := bto hb hbF
  have D3' := D3
  clear hF hbF D1 D2 D3
  have x103 := Blk.new w11 #[.string ⟨(fN qa).toArray⟩, .string ⟨(fD qa).toArray⟩, .string ⟨(fN qb).toArray⟩, .string ⟨(fD qb).toArray⟩] 32
  have hbA := below_alloc w11 (.cells #[.string ⟨(fN qa).toArray⟩, .string ⟨(fD qa).toArray⟩, .string ⟨(fN qb).toArray⟩, .string ⟨(fD qb).toArray⟩] 32)
  have p0 := x9.c0
  have p1 := x9.c1
  have p2 := x10.c0
  have p3 := x10.c1
  replace x3 := x3.below hbA; replace x9 := x9.below hbA; replace x10 := x10.below hbA; replace x12 := x12.below hbA; replace x14 := x14.below hbA; replace x16 := x16.below hbA
  replace hb := bto hb hbA
  clear hbA
  go_wp2_with fail
  clear p0 p1 p2 p3
  obtain ⟨b103, hb103⟩ : ∃ b, b = w11.heap.size := ⟨_, rfl⟩
  rw [← hb103] at x103 ⊢
  obtain ⟨w12, hw12⟩ : ∃ w12, w12 = w11.alloc (.cells #[.string ⟨(fN qa).toArray⟩, .string ⟨(fD qa).toArray⟩, .string ⟨(fN qb).toArray⟩, .string ⟨(fD qb).toArray⟩] 32) := ⟨_, rfl⟩
  rw [← hw12] at x3 x9 x10 x12 x14 x16 hb x103 ⊢
  clear hw12 hb103
  go_loopw [105] (fun iv wr => ∃ k : Nat, k ≤ 2 ∧ iv = .int .i64 (k : Int) ∧ Blk wr b103 #[.string ⟨(fN qa).toArray⟩, .string ⟨(fD qa).toArray⟩, .string ⟨(fN qb).toArray⟩, .string ⟨(fD qb).toArray⟩] ∧ FBox wr w.heap.size (.string ⟨l.toArray⟩) (.string ⟨l'.toArray⟩) ∧ FBox wr w4.heap.size (.string ⟨(fN (qa)).toArray⟩) (.string ⟨(fD (qa)).toArray⟩) ∧ FBox wr (w4.heap.size + 1) (.string ⟨(fN (qb)).toArray⟩) (.string ⟨(fD (qb)).toArray⟩) ∧ FBox wr w6.heap.size (.string ⟨(fN (low)).toArray⟩) (.string ⟨(fD (low)).toArray⟩) ∧ FBox wr w8.heap.size (.string ⟨(fN (high)).toArray⟩) (.string ⟨(fD (high)).toArray⟩) ∧ FBox wr w10.heap.size (.string ⟨(fN (un)).toArray⟩) (.string ⟨(fD (un)).toArray⟩) ∧ Below w.heap.size w wr) (fun iv _ => 2 - (intOf iv).toNat)
  case atStart => exact ⟨0, Nat.zero_le _, rfl, x103, x3, x9, x10, x12, x14, x16, hb⟩
  case round =>
    clear hb x103 x3 x9 x10 x12 x14 x16
    obtain ⟨k, hk, rfl, x103, x3, x9, x10, x12, x14, x16, hb⟩ := hrel
    obtain rfl | rfl | rfl : k = 0 ∨ k = 1 ∨ k = 2 := by omega
    ·
      have x19 := FBox.new wr (.string ⟨(fN (qa)).toArray⟩) (.string ⟨(fD (qa)).toArray⟩) 32
      have hbA := below_alloc wr (.cells #[.string ⟨(fN (qa)).toArray⟩, .string ⟨(fD (qa)).toArray⟩] 32)
      have y103 := x103.below hbA
      have q0 : wr.cell? ⟨b103, 0, none⟩ = some (.string ⟨(fN qa).toArray⟩) := x103.c 0
      have q1 : wr.cell? ⟨b103, 1, none⟩ = some (.string ⟨(fD qa).toArray⟩) := x103.c 1
      replace x3 := x3.below hbA; replace x9 := x9.below hbA; replace x10 := x10.below hbA; replace x12 := x12.below hbA; replace x14 := x14.below hbA; replace x16 := x16.below hbA
      replace hb := bto hb hbA
      clear hbA
      have g0 := x19.c0
      have g1 := x19.c1
      have g2 := x16.c0
      have g3 := x16.c1
      go_wp2_with fail
      ((with_reducible refine (D5a.out.of hG hb).mono ?_); rintro e w15 ⟨rfl, hb15⟩)
      have hbA := below_alloc w15 (.cells #[.string ⟨(fN (qa / un)).toArray⟩, .string ⟨#[]⟩] 32)
      have x20 := FBox.new w15 (.string ⟨(fN (qa / un)).toArray⟩) (.string ⟨#[]⟩) 32
      have hbC := bto hb15 hbA
      replace x3 := x3.below hbC; replace x9 := x9.below hbC; replace x10 := x10.below hbC; replace x12 := x12.below hbC; replace x14 := x14.below hbC; replace x16 := x16.below hbC
      replace y103 := y103.below hbC
      replace hb := bto hb hbC
      have h0 := x20.c0
      have h1 := x20.c1
      clear hb15 hbA hbC g0 g1 g2 g3 q0 q1 x19
      go_wp2
      go_roundw
      case rel => exact ⟨1, by omega, by go_num, y103, x3, x9, x10, x12, x14, x16, hb⟩
      case measure => simp [intOf]
    ·
      have x19 := FBox.new wr (.string ⟨(fN (qb)).toArray⟩) (.string ⟨(fD (qb)).toArray⟩) 32
      have hbA := below_alloc wr (.cells #[.string ⟨(fN (qb)).toArray⟩, .string ⟨(fD (qb)).toArray⟩] 32)
      have y103 := x103.below hbA
      have q0 : wr.cell? ⟨b103, 2, none⟩ = some (.string ⟨(fN qb).toArray⟩) := x103.c 2
      have q1 : wr.cell? ⟨b103, 3, none⟩ = some (.string ⟨(fD qb).toArray⟩) := x103.c 3
      replace x3 := x3.below hbA; replace x9 := x9.below hbA; replace x10 := x10.below hbA; replace x12 := x12.below hbA; replace x14 := x14.below hbA; replace x16 := x16.below hbA
      replace hb := bto hb hbA
      clear hbA
      have g0 := x19.c0
      have g1 := x19.c1
      have g2 := x16.c0
      have g3 := x16.c1
      go_wp2_with fail
      ((with_reducible refine (D5b.out.of hG hb).mono ?_); rintro e w15 ⟨rfl, hb15⟩)
      have hbA := below_alloc w15 (.cells #[.string ⟨(fN (qb / un)).toArray⟩, .string ⟨#[]⟩] 32)
      have x20 := FBox.new w15 (.string ⟨(fN (qb / un)).toArray⟩) (.string ⟨#[]⟩) 32
      have hbC := bto hb15 hbA
      replace x3 := x3.below hbC; replace x9 := x9.below hbC; replace x10 := x10.below hbC; replace x12 := x12.below hbC; replace x14 := x14.below hbC; replace x16 := x16.below hbC
      replace y103 := y103.below hbC
      replace hb := bto hb hbC
      have h0 := x20.c0
      have h1 := x20.c1
      clear hb15 hbA hbC g0 g1 g2 g3 q0 q1 x19
      go_wp2
      go_roundw
      case rel => exact ⟨2, by omega, by go_num, y103, x3, x9, x10, x12, x14, x16, hb⟩
      case measure => simp [intOf]
    clear x103 D5a D5b
    have p0 := x12.c0
    have p1 := x12.c1
    have p2 := x3.c0
    have p3 := x3.c1
    have D3 := D3'
    go_wp2_with fail
    ((with_reducible refine (D3.out.of hG hb).mono ?_); rintro e w16 ⟨rfl, hb16⟩)
    replace x3 := x3.below hb16
    replace x9 := x9.below hb16
    replace x10 := x10.below hb16
    replace x12 := x12.below hb16
    replace x14 := x14.below hb16
    replace x16 := x16.below hb16
    replace hb := bto hb hb16
    clear hb16 D3
    clear p0 p1 p2 p3
    by_cases g0 : c3 = 0
    · have ee : (c3 == 0) = true := intbeq g0
      obtain rfl := HE1.out (HC3.out.1 g0)
      have p0 := x9.c0
      have p1 := x9.c1
      have p2 := x10.c0
      have p3 := x10.c1
      clear HE1 HE2 HC3 HC4 g0
      go_wp2_with fail
      ((with_reducible refine (CW.out.of hG hb).mono ?_); rintro e w99 ⟨rfl, hb99⟩)
      go_wp2
      go_ret
      exact ⟨rfl, bto hb hb99⟩
    have ee : (c3 == 0) = false := intbne g0
    obtain ⟨hd1, hd2⟩ := HE2.out (fun h => g0 (HC3.out.2 h))
    have k4 : decide (0 < c4) = true := decide_eq_true (HC4.out hd2)
    subst hd1
    clear HE1 HE2 HC3 HC4 g0 hd2
    go_wp2_with fail
    refine wp_region_kept (by kernel_rfl) (by kernel_rfl) ?_
    refine kept_val _ (fun _ => rfl) (fun ρ w hw => by have q0 := (x10.below hw).c0; have q1 := (x10.below hw).c1; go_simp; first | done | with_reducible rfl) ?_
    simp only [Act.put, List.setIfInBounds_toArray, List.set_cons_zero, List.set_cons_succ, Nat.reduceAdd]
    refine kept_val _ (fun _ => rfl) (fun ρ w hw => by have q0 := (x9.below hw).c0; have q1 := (x9.below hw).c1; go_simp; first | done | with_reducible rfl) ?_
    simp only [Act.put, List.setIfInBounds_toArray, List.set_cons_zero, List.set_cons_succ, Nat.reduceAdd]
    refine kept_call _ _ _ (fun _ => rfl) (fun ρ w hw => by go_simp; first | done | with_reducible rfl) (fun w hw => D6.out.of hG (bto hb hw)) ?_
    simp only [Act.put, List.setIfInBounds_toArray, List.set_cons_zero, List.set_cons_succ, Nat.reduceAdd]
    refine kept_val _ (fun _ => rfl) (fun ρ w hw => by have q0 := (x16.below hw).c0; have q1 := (x16.below hw).c1; go_simp; first | done | with_reducible rfl) ?_
    simp only [Act.put, List.setIfInBounds_toArray, List.set_cons_zero, List.set_cons_succ, Nat.reduceAdd]
    refine kept_val _ (fun _ => rfl) (fun ρ w hw => by go_simp; first | done | with_reducible rfl) ?_
    simp only [Act.put, List.setIfInBounds_toArray, List.set_cons_zero, List.set_cons_succ, Nat.reduceAdd]
    refine kept_val _ (fun _ => rfl) (fun ρ w hw => by go_simp; first | done | with_reducible rfl) ?_
    simp only [Act.put, List.setIfInBounds_toArray, List.set_cons_zero, List.set_cons_succ, Nat.reduceAdd]
    refine kept_val _ (fun _ => rfl) (fun ρ w hw => by have q0 := (x14.below hw).c0; have q1 := (x14.below hw).c1; go_simp; first | done | with_reducible rfl) ?_
    simp only [Act.put, List.setIfInBounds_toArray, List.set_cons_zero, List.set_cons_succ, Nat.reduceAdd]
    refine kept_val _ (fun _ => rfl) (fun ρ w hw => by have q0 := (x3.below hw).c0; have q1 := (x3.below hw).c1; go_simp; first | done | with_reducible rfl) ?_
    simp only [Act.put, List.setIfInBounds_toArray, List.set_cons_zero, List.set_cons_succ, Nat.reduceAdd]
    refine kept_call _ _ _ (fun _ => rfl) (fun ρ w hw => by go_simp; first | done | with_reducible rfl) (fun w hw => D4.out.of hG (bto hb hw)) ?_
    simp only [Act.put, List.setIfInBounds_toArray, List.set_cons_zero, List.set_cons_succ, Nat.reduceAdd]
    refine kept_val _ (fun _ => rfl) (fun ρ w hw => by go_simp; first | done | with_reducible rfl) ?_
    simp only [Act.put, List.setIfInBounds_toArray, List.set_cons_zero, List.set_cons_succ, Nat.reduceAdd]
    refine kept_val _ (fun _ => rfl) (fun ρ w hw => by go_simp; first | done | with_reducible rfl) ?_
    simp only [Act.put, List.setIfInBounds_toArray, List.set_cons_zero, List.set_cons_succ, Nat.reduceAdd]
    refine kept_val _ (fun _ => rfl) (fun ρ w hw => by go_simp; first | done | with_reducible rfl) ?_
    simp only [Act.put, List.setIfInBounds_toArray, List.set_cons_zero, List.set_cons_succ, Nat.reduceAdd]
    refine kept_call _ _ _ (fun _ => rfl) (fun ρ w hw => by go_simp; first | done | with_reducible rfl) (fun w hw => CW.out.of hG (bto hb hw)) ?_
    simp only [Act.put, List.setIfInBounds_toArray, List.set_cons_zero, List.set_cons_succ, Nat.reduceAdd]
    refine kept_val _ (fun _ => rfl) (fun ρ w hw => by go_simp; first | done | with_reducible rfl) ?_
    simp only [Act.put, List.setIfInBounds_toArray, List.set_cons_zero, List.set_cons_succ, Nat.reduceAdd]
    refine kept_val _ (fun _ => rfl) (fun ρ w hw => by go_simp; first | done | with_reducible rfl) ?_
    simp only [Act.put, List.setIfInBounds_toArray, List.set_cons_zero, List.set_cons_succ, Nat.reduceAdd]
    refine kept_end (fun ρ w17 hF => ?_)
    have hbF := hF.below
    replace hb := bto hb hbF
    clear hF hbF
    go_wp2
    go_ret
    exact ⟨rfl, hb⟩
end Go.Proofs.YtmjglcgdcclinaaGreatDoor
