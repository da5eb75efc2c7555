/- MoneyweightedTwo. -/
import Derived.Test.YtolbojchdlojnaaGreatDoorLmb
namespace Go.Proofs.YtolbojchdlojnaaGreatDoor
open Go.RowKit Num
theorem canon_fix (z : Int) : canon z = canon (val (canon z)) := by rw [val_canon]
theorem two_ok {x y t : Int} (ht1 : 1 ≤ t) (ht2 : t ≤ 12) : payE [⟨0, canon (-x)⟩, ⟨t, canon y⟩] = 0 := by
  unfold payE
  rw [if_neg (by simp), if_neg (by simp)]
  unfold payL
  rw [if_neg (by show ¬ ((0 : Int) < 0 ∨ 400 < (0 : Int)); omega), if_neg (by simp [lessO]), if_neg (by rw [Decidable.not_not]; exact canon_fix _)]
  unfold payL
  rw [if_neg (by show ¬ (t < 0 ∨ 400 < t); omega), if_neg (by simp [lessO]; omega), if_neg (by rw [Decidable.not_not]; exact canon_fix _)]
  rfl
theorem two_pz (x y t : Int) : pzs [⟨0, canon (-x)⟩, ⟨t, canon y⟩] = [(0, -x), (t, y)] := by
  unfold pzs
  simp [val_canon]
theorem two_good {x y t : Int} (hx : 0 < x) (hx9 : x ≤ 1000000000) (hy : 0 < y) (hy9 : y ≤ 1000000000) (ht1 : 1 ≤ t) (ht2 : t ≤ 12) : GoodP [⟨0, canon (-x)⟩, ⟨t, canon y⟩] 2 := by
  refine ⟨rfl, .inl (by decide), fun p hp => ?_, fun _ _ a z ha hz => ?_⟩
  · simp only [List.mem_cons, List.not_mem_nil, or_false] at hp
    rcases hp with rfl | rfl
    · exact Nat.le_trans (canon_len_le (-x) 10 (by omega)) (by decide)
    · exact Nat.le_trans (canon_len_le y 10 (by omega)) (by decide)
  · injection ha with ha
    injection hz with hz
    subst ha hz
    show t - 0 ≤ 12
    omega
theorem pow_bd {q : Rat} {K : Nat} {t : Int} (h : Bd K q) (h0 : 0 ≤ t) (h1 : t ≤ 12) : Bd (K * 12 + 1) (q ^ t.toNat) := bd_mono (bd_pow h t.toNat) (by have : K * t.toNat ≤ K * 12 := Nat.mul_le_mul_left K (by omega); omega)
theorem mod12 (m : Int) : 0 ≤ m % 12 ∧ m % 12 ≤ 11 := by omega
theorem mod6 (m : Int) : 0 ≤ m % 6 ∧ m % 6 ≤ 5 := by omega
theorem modG (m : Int) : 0 ≤ m % 1000000000 ∧ m % 1000000000 ≤ 999999999 := by omega
set_option maxHeartbeats 4000000 in
set_option maxRecDepth 100000 in
theorem mtwo_law (a b m p : Int) (ha0 : 0 ≤ a) (ha1 : a ≤ 4294967295) (hb0 : 0 ≤ b) (hb1 : b ≤ 4294967295) (hm0 : 0 ≤ m) (hm1 : m ≤ 255) (hp0 : 0 ≤ p) (hp1 : p ≤ 255) (w : World) (hG : Glob w) :
    Calls Tryz.prog 3 #[.int .u32 a, .int .u32 b, .int .u8 m, .int .u8 p] w fun e w' => e = .returned (.bool true) ∧ Below w.heap.size w w' := by
  have CW := Lib.hid wAwake47
  obtain ⟨m1, m2⟩ := mod12 m
  obtain ⟨p1, p2⟩ := mod6 p
  obtain ⟨a1, a2⟩ := modG a
  obtain ⟨b1, b2⟩ := modG b
  have hb := Below.refl w.heap.size w
  go_enter Tryz.func3, Tryz.ntmps3
  go_wp2_with fail
  have hx0 : 0 < 1 + a % 1000000000 := by omega
  have hx9 : 1 + a % 1000000000 ≤ 1000000000 := by omega
  have hy0 : 0 < 1 + b % 1000000000 := by omega
  have hy9 : 1 + b % 1000000000 ≤ 1000000000 := by omega
  have ht1 : 1 ≤ 1 + m % 12 := by omega
  have ht2 : 1 + m % 12 ≤ 12 := by omega
  have C1 := Lib.hid (riOf (1 + a % 1000000000) (by omega) (by omega))
  have C2 := Lib.hid (riOf (1 + b % 1000000000) (by omega) (by omega))
  ((with_reducible refine (C1.out.of hG hb).mono ?_); rintro e w1 ⟨rfl, hb1⟩)
  replace hb := bto hb hb1
  clear hb1 C1
  go_wp2_with fail
  ((with_reducible refine (C2.out.of hG hb).mono ?_); rintro e w2 ⟨rfl, hb2⟩)
  replace hb := bto hb hb2
  clear hb2 C2
  generalize 1 + a % 1000000000 = x at *
  generalize 1 + b % 1000000000 = y at *
  generalize 1 + m % 12 = t at *
  generalize p % 6 = pp at *
  generalize a % 1000000000 = a' at *
  generalize b % 1000000000 = b' at *
  generalize m % 12 = m' at *
  have hlx : (canon x).length ≤ 12 := Nat.le_trans (canon_len_le x 10 (by omega)) (by decide)
  have hly : (canon y).length ≤ 12 := Nat.le_trans (canon_len_le y 10 (by omega)) (by decide)
  have C3 := Lib.hid (niNeg (l := canon x) (by omega) (show _ = -x by rw [val_canon]))
  have hgood := two_good (x := x) (y := y) (t := t) hx0 hx9 hy0 hy9 ht1 ht2
  have hok := two_ok (x := x) (y := y) ht1 ht2
  have hpz := two_pz x y t
  have hch : chN (sumsL 0 (pzs [⟨0, canon (-x)⟩, ⟨t, canon y⟩])) = 1 := by rw [hpz, two_sums hx0 hy0 (by omega)]; exact (two_ch hx0 hy0).1
  obtain ⟨-, -, hu, -⟩ := payE_ok hok
  obtain ⟨z, hz⟩ := root_is (pzs [⟨0, canon (-x)⟩, ⟨t, canon y⟩]) 0 ((10 ^ pp.toNat : Nat) : Int) hu hch (u_pos pp)
  have hB := bnd_good hgood (by decide) hok p1 (by omega) hz
  have hbd := two_bounds hx0 hy0 (show 0 < t by omega) (u_pos pp) (hpz ▸ hz)
  rw [← hpz] at hbd
  have hV : Hid (bndV [⟨0, canon (-x)⟩, ⟨t, canon y⟩] pp z = .tuple #[(Value.agg #[Value.string ⟨List.toArray (fN (Rat.divInt z ((10 ^ pp.toNat : Nat) : Int)))⟩, Value.string ⟨List.toArray (fD (Rat.divInt z ((10 ^ pp.toNat : Nat) : Int)))⟩]), (Value.agg #[Value.string ⟨List.toArray (fN (Rat.divInt (topZ (pzs [⟨0, canon (-x)⟩, ⟨t, canon y⟩]) ((10 ^ pp.toNat : Nat) : Int) z) ((10 ^ pp.toNat : Nat) : Int)))⟩, Value.string ⟨List.toArray (fD (Rat.divInt (topZ (pzs [⟨0, canon (-x)⟩, ⟨t, canon y⟩]) ((10 ^ pp.toNat : Nat) : Int) z) ((10 ^ pp.toNat : Nat) : Int)))⟩]), .int .i64 0]) := by
    show _ = _; unfold bndV; rw [if_neg (fun h => h hok), if_neg (by omega), if_neg (fun h => h hch)]
  have CB : ∀ A c w, Glob w → PL w A [⟨0, canon (-x)⟩, ⟨t, canon y⟩] 2 → Calls Tryz.prog 14 #[.slice A 2 c, .int .i64 pp] w fun e w' => e = .returned (.tuple #[(Value.agg #[Value.string ⟨List.toArray (fN (Rat.divInt z ((10 ^ pp.toNat : Nat) : Int)))⟩, Value.string ⟨List.toArray (fD (Rat.divInt z ((10 ^ pp.toNat : Nat) : Int)))⟩]), (Value.agg #[Value.string ⟨List.toArray (fN (Rat.divInt (topZ (pzs [⟨0, canon (-x)⟩, ⟨t, canon y⟩]) ((10 ^ pp.toNat : Nat) : Int) z) ((10 ^ pp.toNat : Nat) : Int)))⟩, Value.string ⟨List.toArray (fD (Rat.divInt (topZ (pzs [⟨0, canon (-x)⟩, ⟨t, canon y⟩]) ((10 ^ pp.toNat : Nat) : Int) z) ((10 ^ pp.toNat : Nat) : Int)))⟩]), .int .i64 0]) ∧ Below w.heap.size w w' := fun A c w hG h => by
    have := mwBounds_ok A _ 2 c pp z 41 w hG h hok p1 (by omega) hch hB
    rwa [hV.out] at this
  have HCB := Lib.hid CB
  have htop : topZ (pzs [⟨0, canon (-x)⟩, ⟨t, canon y⟩]) ((10 ^ pp.toNat : Nat) : Int) z ≤ z + 1 ∧ 1 ≤ topZ (pzs [⟨0, canon (-x)⟩, ⟨t, canon y⟩]) ((10 ^ pp.toNat : Nat) : Int) z := ⟨by unfold topZ; split <;> omega, hz.top_pos⟩
  have hzn := hz.nn
  have hlen := hB.len
  have hu0 := u_pos pp
  have hu9 : (((10 ^ pp.toNat : Nat) : Int)).natAbs < 10 ^ 41 := by rw [Int.natAbs_natCast]; exact Nat.pow_lt_pow_right (by decide) (by omega)
  generalize topZ (pzs [⟨0, canon (-x)⟩, ⟨t, canon y⟩]) ((10 ^ pp.toNat : Nat) : Int) z = top at *
  generalize ((10 ^ pp.toNat : Nat) : Int) = u at *
  have B1 : Bd 41 (Rat.divInt z u) := bd_divInt (by omega) hu9 (by omega)
  have B2 : Bd 41 (Rat.divInt top u) := bd_divInt (by omega) hu9 (by omega)
  have B3 : Bd 20 (Rat.divInt y x) := bd_divInt (by omega) (by omega) (by omega)
  have C4 := Lib.hid (rNew (l := canon y) (l' := canon x) (by omega) (by omega) (by rw [val_canon]; omega) (show _ = Rat.divInt y x by rw [val_canon, val_canon]))
  have C5 := Lib.hid (rPow (l := fN (Rat.divInt z u)) (l' := fD (Rat.divInt z u)) (by have := (bd_len B1).1; omega) (by have := (bd_len B1).2; omega) (fv_frac _) t (by omega) (by omega) (.inl (by omega)) (zpow_nat' _ (by omega)))
  have C6 := Lib.hid (rPow (l := fN (Rat.divInt top u)) (l' := fD (Rat.divInt top u)) (by have := (bd_len B2).1; omega) (by have := (bd_len B2).2; omega) (fv_frac _) t (by omega) (by omega) (.inl (by omega)) (zpow_nat' _ (by omega)))
  have C7 := Lib.hid (rCompare (isq_fr (pow_bd B1 (by omega) ht2) (by decide)) (isq_fr B3 (by decide)) rfl)
  have C8 := Lib.hid (rCompare (isq_fr (pow_bd B2 (by omega) ht2) (by decide)) (isq_fr B3 (by decide)) rfl)
  have e7 : decide (cmpQ (Rat.divInt z u ^ t.toNat) (Rat.divInt y x) ≤ 0) = true := decide_eq_true ((cmpQ_le _ _).2 hbd.1)
  have e8 : decide (0 ≤ cmpQ (Rat.divInt top u ^ t.toNat) (Rat.divInt y x)) = true := decide_eq_true (by
    have h1 := cmpQ_swap (Rat.divInt y x) (Rat.divInt top u ^ t.toNat)
    have h2 := (cmpQ_le (Rat.divInt y x) (Rat.divInt top u ^ t.toNat)).2 hbd.2
    omega)
  generalize cmpQ (Rat.divInt z u ^ t.toNat) (Rat.divInt y x) = s1 at *
  generalize cmpQ (Rat.divInt top u ^ t.toNat) (Rat.divInt y x) = s2 at *
  generalize Rat.divInt z u ^ t.toNat = r1 at *
  generalize Rat.divInt top u ^ t.toNat = r2 at *
  generalize Rat.divInt z u = q1 at *
  generalize Rat.divInt top u = q2 at *
  generalize Rat.divInt y x = q3 at *
  have HGd := Lib.hid hgood
  clear hV CB hB hbd hok hch hz hu hpz htop hlen hu0 hu9 B1 B2 B3 hzn hx0 hx9 hy0 hy9 hgood m1 m2 p1 p2 a1 a2 b1 b2 ht1 ht2 ha0 ha1 hb0 hb1 hm0 hm1 hp0 hp1 hlx hly
  go_wp2_with fail
  ((with_reducible refine (C3.out.of hG hb).mono ?_); rintro e w3 ⟨rfl, hb3⟩)
  replace hb := bto hb hb3
  clear hb3 C3
  have hbA := below_alloc w3 (.cells #[.int .i64 0, .string ⟨(canon (-x)).toArray⟩, .int .i64 t, .string ⟨(canon y).toArray⟩] 27)
  have hA : PayAt (w3.alloc (.cells #[.int .i64 0, .string ⟨(canon (-x)).toArray⟩, .int .i64 t, .string ⟨(canon y).toArray⟩] 27)) (some ⟨w3.heap.size, 0, none⟩) [⟨0, canon (-x)⟩, ⟨t, canon y⟩] := payAt2 w3 ⟨0, canon (-x)⟩ ⟨t, canon y⟩ 27
  replace hb := bto hb hbA
  clear hbA
  go_wp2_with fail
  ((with_reducible refine (HCB.out (some ⟨w3.heap.size, 0, none⟩) 2 _ (hG.below hb) (HGd.out.pl hA)).mono ?_); rintro e w4 ⟨rfl, hb4⟩)
  replace hb := bto hb hb4
  clear hb4 hA HCB HGd
  have x14 := FBox.new w4 (.string ⟨(fN q1).toArray⟩) (.string ⟨(fD q1).toArray⟩) 30
  have hbA := below_alloc w4 (.cells #[.string ⟨(fN q1).toArray⟩, .string ⟨(fD q1).toArray⟩] 30)
  replace hb := bto hb hbA
  clear hbA
  have x15 := FBox.new (w4.alloc (.cells #[.string ⟨(fN q1).toArray⟩, .string ⟨(fD q1).toArray⟩] 30)) (.string ⟨(fN q2).toArray⟩) (.string ⟨(fD q2).toArray⟩) 30
  have hbA := below_alloc (w4.alloc (.cells #[.string ⟨(fN q1).toArray⟩, .string ⟨(fD q1).toArray⟩] 30)) (.cells #[.string ⟨(fN q2).toArray⟩, .string ⟨(fD q2).toArray⟩] 30)
  replace x14 := x14.below hbA
  replace hb := bto hb hbA
  clear hbA
  simp only [World.size_alloc] at x14 x15
  go_wp2_with fail
  ((with_reducible refine (C4.out.of hG hb).mono ?_); rintro e w5 ⟨rfl, hb5⟩)
  replace x14 := x14.below hb5
  replace x15 := x15.below hb5
  replace hb := bto hb hb5
  clear hb5
  replace x14 := x14.below (below_alloc w5 (.cells #[.string ⟨(fN q3).toArray⟩, .string ⟨(fD q3).toArray⟩] 30))
  replace x15 := x15.below (below_alloc w5 (.cells #[.string ⟨(fN q3).toArray⟩, .string ⟨(fD q3).toArray⟩] 30))
  have x17 := FBox.new w5 (.string ⟨(fN q3).toArray⟩) (.string ⟨(fD q3).toArray⟩) 30
  replace hb := bto hb (below_alloc w5 (.cells #[.string ⟨(fN q3).toArray⟩, .string ⟨(fD q3).toArray⟩] 30))
  have qx14_0 := x14.c0
  have qx14_1 := x14.c1
  go_wp2_with fail
  ((with_reducible refine (C5.out.of hG hb).mono ?_); rintro e w6 ⟨rfl, hb6⟩)
  clear qx14_0 qx14_1
  replace x14 := x14.below hb6
  replace x15 := x15.below hb6
  replace x17 := x17.below hb6
  replace hb := bto hb hb6
  clear hb6
  replace x14 := x14.below (below_alloc w6 (.cells #[.string ⟨(fN r1).toArray⟩, .string ⟨(fD r1).toArray⟩] 30))
  replace x15 := x15.below (below_alloc w6 (.cells #[.string ⟨(fN r1).toArray⟩, .string ⟨(fD r1).toArray⟩] 30))
  replace x17 := x17.below (below_alloc w6 (.cells #[.string ⟨(fN r1).toArray⟩, .string ⟨(fD r1).toArray⟩] 30))
  have x19 := FBox.new w6 (.string ⟨(fN r1).toArray⟩) (.string ⟨(fD r1).toArray⟩) 30
  replace hb := bto hb (below_alloc w6 (.cells #[.string ⟨(fN r1).toArray⟩, .string ⟨(fD r1).toArray⟩] 30))
  have qx15_0 := x15.c0
  have qx15_1 := x15.c1
  go_wp2_with fail
  ((with_reducible refine (C6.out.of hG hb).mono ?_); rintro e w7 ⟨rfl, hb7⟩)
  clear qx15_0 qx15_1
  replace x14 := x14.below hb7
  replace x15 := x15.below hb7
  replace x17 := x17.below hb7
  replace x19 := x19.below hb7
  replace hb := bto hb hb7
  clear hb7
  replace x14 := x14.below (below_alloc w7 (.cells #[.string ⟨(fN r2).toArray⟩, .string ⟨(fD r2).toArray⟩] 30))
  replace x15 := x15.below (below_alloc w7 (.cells #[.string ⟨(fN r2).toArray⟩, .string ⟨(fD r2).toArray⟩] 30))
  replace x17 := x17.below (below_alloc w7 (.cells #[.string ⟨(fN r2).toArray⟩, .string ⟨(fD r2).toArray⟩] 30))
  replace x19 := x19.below (below_alloc w7 (.cells #[.string ⟨(fN r2).toArray⟩, .string ⟨(fD r2).toArray⟩] 30))
  have x21 := FBox.new w7 (.string ⟨(fN r2).toArray⟩) (.string ⟨(fD r2).toArray⟩) 30
  replace hb := bto hb (below_alloc w7 (.cells #[.string ⟨(fN r2).toArray⟩, .string ⟨(fD r2).toArray⟩] 30))
  have qx19_0 := x19.c0
  have qx19_1 := x19.c1
  have qx17_0 := x17.c0
  have qx17_1 := x17.c1
  go_wp2_with fail
  ((with_reducible refine (C7.out.of hG hb).mono ?_); rintro e w8 ⟨rfl, hb8⟩)
  clear qx19_0 qx19_1 qx17_0 qx17_1
  replace x14 := x14.below hb8
  replace x15 := x15.below hb8
  replace x17 := x17.below hb8
  replace x19 := x19.below hb8
  replace x21 := x21.below hb8
  replace hb := bto hb hb8
  clear hb8
  have qx21_0 := x21.c0
  have qx21_1 := x21.c1
  have qx17_0 := x17.c0
  have qx17_1 := x17.c1
  go_wp2_with fail
  ((with_reducible refine (C8.out.of hG hb).mono ?_); rintro e w9 ⟨rfl, hb9⟩)
  clear qx21_0 qx21_1 qx17_0 qx17_1
  replace x14 := x14.below hb9
  replace x15 := x15.below hb9
  replace x17 := x17.below hb9
  replace x19 := x19.below hb9
  replace x21 := x21.below hb9
  replace hb := bto hb hb9
  clear hb9
  clear x14
  clear x15
  clear x17
  clear x19
  clear x21
  go_wp2_with fail
  ((with_reducible refine (CW.out.of hG hb).mono ?_); rintro e w10 ⟨rfl, hb10⟩)
  replace hb := bto hb hb10
  clear hb10
  go_wp2
  go_ret
  exact ⟨rfl, hb⟩
end Go.Proofs.YtolbojchdlojnaaGreatDoor
