/- Package fraction: Power. -/
import Derived.Test.YtjhafnnfkaejgaaGreatDoorFrach
namespace Go.Proofs.YtjhafnnfkaejgaaGreatDoor
open Go.RowKit Num

theorem pow_lt10 {a i : Nat} (h : a < 10 ^ i) (n : Nat) : a ^ n < 10 ^ (i * n + 1) := by
  induction n with
  | zero => simp
  | succ n ih =>
    rw [Nat.pow_succ, show i * (n + 1) + 1 = (i * n + 1) + i by rw [Nat.mul_add, Nat.mul_one]; omega]
    exact mul_lt10 ih h
theorem canon_pow_len {z : Int} {i : Nat} (h : z.natAbs < 10 ^ i) (n : Nat) : (canon (z ^ n)).length ≤ i * n + 2 :=
  canon_len_le _ _ (by rw [Int.natAbs_pow]; exact pow_lt10 h n)
theorem pow_frac (q : Rat) (n : Nat) : Rat.divInt (q.num ^ n) ((q.den : Int) ^ n) = q ^ n := by
  have := Rat.num_divInt_den (q ^ n)
  rwa [Rat.num_pow, Rat.den_pow, Int.natCast_pow] at this
theorem pow_inv (q : Rat) (n : Nat) : Rat.divInt ((q.den : Int) ^ n) (q.num ^ n) = (q ^ n)⁻¹ := by
  rw [← Rat.inv_divInt, pow_frac]

set_option maxHeartbeats 1000000 in
set_option maxRecDepth 100000 in
theorem Power_bad (l l' : List UInt8) (n : Int) (w : World) (h : n < -400 ∨ 400 < n) :
    Calls Tryz.prog 30 #[(Value.agg #[Value.string ⟨List.toArray l⟩, Value.string ⟨List.toArray l'⟩]), .int .i64 n] w fun e w' => e = .returned (.tuple #[.agg #[.string ⟨#[]⟩, .string ⟨#[]⟩], .int .i64 2]) ∧ Below w.heap.size w w' := by
  by_cases h1 : n < -400
  · have h2 : decide (n < -400) = true := by simp [h1]
    clear h h1
    have hb := bto (below_alloc w (.cells #[.string ⟨l.toArray⟩, .string ⟨l'.toArray⟩] 24)) (below_alloc _ (.cells #[.string ⟨#[]⟩, .string ⟨#[]⟩] 24))
    go_enter Tryz.func30, Tryz.ntmps30
    go_wp2_with fail
    refine bodyPost_ret (v := .tuple #[.agg #[.string ⟨#[]⟩, .string ⟨#[]⟩], .int .i64 2]) (by simp [results, Tryz.results30, go_sem]) rfl ?_
    exact ⟨rfl, hb⟩
  · have h2 : decide (n < -400) = false := by simp; omega
    have h3 : decide (400 < n) = true := by simp; omega
    clear h h1
    have hb := bto (below_alloc w (.cells #[.string ⟨l.toArray⟩, .string ⟨l'.toArray⟩] 24)) (below_alloc _ (.cells #[.string ⟨#[]⟩, .string ⟨#[]⟩] 24))
    go_enter Tryz.func30, Tryz.ntmps30
    go_wp2_with fail
    refine bodyPost_ret (v := .tuple #[.agg #[.string ⟨#[]⟩, .string ⟨#[]⟩], .int .i64 2]) (by simp [results, Tryz.results30, go_sem]) rfl ?_
    exact ⟨rfl, hb⟩

set_option maxHeartbeats 1000000 in
set_option maxRecDepth 100000 in
theorem Power_pos (l l' : List UInt8) (n : Nat) (w : World) (hl : l.length ≤ 1000) (hl' : l'.length ≤ 1000) (hn : n ≤ 400) (hG : Glob w) :
    Calls Tryz.prog 30 #[(Value.agg #[Value.string ⟨List.toArray l⟩, Value.string ⟨List.toArray l'⟩]), .int .i64 (n : Int)] w fun e w' => e = .returned (.tuple #[(Value.agg #[Value.string ⟨List.toArray (fN ((fv l l') ^ n))⟩, Value.string ⟨List.toArray (fD ((fv l l') ^ n))⟩]), .int .i64 0]) ∧ Below w.heap.size w w' := by
  have hp : ∀ w : World, Glob w → _ := fun w hG => Parts_any l l' w (Nat.le_trans hl (by decide)) (Nat.le_trans hl' (by decide)) hG
  have hlen := Parts_len hl hl' (by decide)
  have hbd := bd_fv hl hl' (by decide)
  obtain ⟨q, hq⟩ : ∃ q, q = fv l l' := ⟨_, rfl⟩
  simp only [← hq] at hp hlen hbd ⊢
  clear hq
  have hi1 : ∀ w : World, Glob w → _ := fun w hG => ipower_any (fN q) n w (Nat.le_trans hlen.1 (by decide)) hn hG
  have hi2 : ∀ w : World, Glob w → _ := fun w hG => ipower_any (canon (q.den : Int)) n w (Nat.le_trans hlen.2 (by decide)) hn hG
  have hbd2 : ((q.den : Int)).natAbs < 10 ^ 1000 := by rw [Int.natAbs_natCast]; exact hbd.2
  have hmul : 1000 * n ≤ 1000 * 400 := Nat.mul_le_mul_left _ hn
  have l1 : (canon (q.num ^ n)).length ≤ 1000000 := Nat.le_trans (canon_pow_len hbd.1 n) (by omega)
  have l2 : (canon ((q.den : Int) ^ n)).length ≤ 1000000 := Nat.le_trans (canon_pow_len hbd2 n) (by omega)
  have hm : ∀ w : World, Glob w → _ := fun w hG => made_any (canon (q.num ^ n)) (canon ((q.den : Int) ^ n)) w l1 l2 hG (by rw [val_canon]; exact Int.pow_ne_zero (by have := q.den_nz; omega))
  rw [val_fN] at hi1
  rw [val_canon] at hi2
  simp only [val_canon, pow_frac] at hm
  obtain ⟨r, hr⟩ : ∃ r, r = q ^ n := ⟨_, rfl⟩
  obtain ⟨N, hN⟩ : ∃ N, N = fN q := ⟨_, rfl⟩
  obtain ⟨D, hD⟩ : ∃ D, D = canon (q.den : Int) := ⟨_, rfl⟩
  obtain ⟨X, hX⟩ : ∃ X, X = canon (q.num ^ n) := ⟨_, rfl⟩
  obtain ⟨Y, hY⟩ : ∃ Y, Y = canon ((q.den : Int) ^ n) := ⟨_, rfl⟩
  simp only [← hX, ← hY, ← hr, ← hN, ← hD] at hp hm hi1 hi2 ⊢
  have k1 : decide ((n : Int) < -400) = false := decide_eq_false (by omega)
  have k2 : decide (400 < (n : Int)) = false := decide_eq_false (by omega)
  have k3 : decide ((n : Int) < 0) = false := decide_eq_false (by omega)
  have HP := Lib.hid hp
  have HM := Lib.hid hm
  have H1 := Lib.hid hi1
  have H2 := Lib.hid hi2
  clear hr hN hD hX hY hp hm hi1 hi2 l1 l2 hmul hbd2 hbd hlen
  have hx := (FBox.new (w.alloc (.cells #[.string ⟨l.toArray⟩, .string ⟨l'.toArray⟩] 24)) (.string ⟨#[]⟩) (.string ⟨#[]⟩) 24)
  have hb := bto (below_alloc w (.cells #[.string ⟨l.toArray⟩, .string ⟨l'.toArray⟩] 24)) (below_alloc _ (.cells #[.string ⟨#[]⟩, .string ⟨#[]⟩] 24))
  rw [World.size_alloc] at hx
  go_enter Tryz.func30, Tryz.ntmps30
  go_wp2_with fail
  ((with_reducible refine (HP.out _ (by exact hG.below hb)).mono ?_); rintro e w1 ⟨rfl, hb1⟩)
  have hx := hx.below hb1
  have hb := bto hb hb1
  go_wp2_with fail
  ((with_reducible refine (H1.out _ (by exact hG.below hb)).mono ?_); rintro e w2 ⟨rfl, hb2⟩)
  have hx := hx.below hb2
  have hb := bto hb hb2
  go_wp2_with fail
  ((with_reducible refine (H2.out _ (by exact hG.below hb)).mono ?_); rintro e w3 ⟨rfl, hb3⟩)
  have hx := hx.below hb3
  have hb := bto hb hb3
  go_wp2_with fail
  ((with_reducible refine (HM.out _ (by exact hG.below hb)).mono ?_); rintro e w4 ⟨rfl, hb4⟩)
  have hx := hx.below hb4
  have hb := bto hb hb4
  have c0 := hx.c0
  have c1 := hx.c1
  have f0 := hx.f0
  have f1 := hx.f1
  go_wp2_with fail
  have hy := hx.set (.string ⟨(fN r).toArray⟩) (.string ⟨(fD r).toArray⟩)
  have d0 := hy.c0
  have d1 := hy.c1
  refine bodyPost_ret (v := .tuple #[(Value.agg #[Value.string ⟨List.toArray (fN r)⟩, Value.string ⟨List.toArray (fD r)⟩]), .int .i64 0]) (by simp [results, Tryz.results30, go_sem, d0, d1]) rfl ?_
  exact ⟨rfl, below_set2 hb (Nat.le_add_right _ _) _ _⟩

set_option maxHeartbeats 1000000 in
set_option maxRecDepth 100000 in
theorem Power_neg (l l' : List UInt8) (n : Nat) (w : World) (hl : l.length ≤ 1000) (hl' : l'.length ≤ 1000) (hn : n ≤ 400) (hn0 : 0 < n) (h0 : (fv l l') ≠ 0) (hG : Glob w) :
    Calls Tryz.prog 30 #[(Value.agg #[Value.string ⟨List.toArray l⟩, Value.string ⟨List.toArray l'⟩]), .int .i64 (-(n : Int))] w fun e w' => e = .returned (.tuple #[(Value.agg #[Value.string ⟨List.toArray (fN (((fv l l') ^ n)⁻¹))⟩, Value.string ⟨List.toArray (fD (((fv l l') ^ n)⁻¹))⟩]), .int .i64 0]) ∧ Below w.heap.size w w' := by
  have hp : ∀ w : World, Glob w → _ := fun w hG => Parts_any l l' w (Nat.le_trans hl (by decide)) (Nat.le_trans hl' (by decide)) hG
  have hlen := Parts_len hl hl' (by decide)
  have hbd := bd_fv hl hl' (by decide)
  obtain ⟨q, hq⟩ : ∃ q, q = fv l l' := ⟨_, rfl⟩
  simp only [← hq] at hp hlen hbd h0 ⊢
  clear hq
  have hi1 : ∀ w : World, Glob w → _ := fun w hG => ipower_any (canon (q.den : Int)) n w (Nat.le_trans hlen.2 (by decide)) hn hG
  have hi2 : ∀ w : World, Glob w → _ := fun w hG => ipower_any (fN q) n w (Nat.le_trans hlen.1 (by decide)) hn hG
  have hbd2 : ((q.den : Int)).natAbs < 10 ^ 1000 := by rw [Int.natAbs_natCast]; exact hbd.2
  have hmul : 1000 * n ≤ 1000 * 400 := Nat.mul_le_mul_left _ hn
  have l1 : (canon ((q.den : Int) ^ n)).length ≤ 1000000 := Nat.le_trans (canon_pow_len hbd2 n) (by omega)
  have l2 : (canon (q.num ^ n)).length ≤ 1000000 := Nat.le_trans (canon_pow_len hbd.1 n) (by omega)
  have hm : ∀ w : World, Glob w → _ := fun w hG => made_any (canon ((q.den : Int) ^ n)) (canon (q.num ^ n)) w l1 l2 hG (by rw [val_canon]; exact Int.pow_ne_zero (fun e => h0 (Rat.num_eq_zero.1 e)))
  rw [val_canon] at hi1
  rw [val_fN] at hi2
  simp only [val_canon, pow_inv] at hm
  obtain ⟨r, hr⟩ : ∃ r, r = (q ^ n)⁻¹ := ⟨_, rfl⟩
  obtain ⟨N, hN⟩ : ∃ N, N = fN q := ⟨_, rfl⟩
  obtain ⟨D, hD⟩ : ∃ D, D = canon (q.den : Int) := ⟨_, rfl⟩
  obtain ⟨X, hX⟩ : ∃ X, X = canon ((q.den : Int) ^ n) := ⟨_, rfl⟩
  obtain ⟨Y, hY⟩ : ∃ Y, Y = canon (q.num ^ n) := ⟨_, rfl⟩
  simp only [← hX, ← hY, ← hr, ← hN, ← hD] at hp hm hi1 hi2 ⊢
  have hN0 : (N == []) = false := by
    rw [beq_eq_false_iff_ne, hN]
    exact fun e => h0 (Rat.num_eq_zero.1 ((canon_eq_nil _).1 e))
  have hN1 : ¬ N = [] := by simpa using hN0
  have hN2 : N.isEmpty = false := by simpa using hN1
  have k1 : decide (400 < (n : Int)) = false := decide_eq_false (by omega)
  have k3 : decide (0 < n) = true := decide_eq_true hn0
  have HP := Lib.hid hp
  have HM := Lib.hid hm
  have H1 := Lib.hid hi1
  have H2 := Lib.hid hi2
  clear hr hN hD hX hY hp hm hi1 hi2 l1 l2 hmul hbd2 hbd hlen h0 hn0
  have hx := (FBox.new (w.alloc (.cells #[.string ⟨l.toArray⟩, .string ⟨l'.toArray⟩] 24)) (.string ⟨#[]⟩) (.string ⟨#[]⟩) 24)
  have hb := bto (below_alloc w (.cells #[.string ⟨l.toArray⟩, .string ⟨l'.toArray⟩] 24)) (below_alloc _ (.cells #[.string ⟨#[]⟩, .string ⟨#[]⟩] 24))
  rw [World.size_alloc] at hx
  go_enter Tryz.func30, Tryz.ntmps30
  go_wp2_with fail
  ((with_reducible refine (HP.out _ (by exact hG.below hb)).mono ?_); rintro e w1 ⟨rfl, hb1⟩)
  have hx := hx.below hb1
  have hb := bto hb hb1
  go_wp2_with fail
  ((with_reducible refine (H1.out _ (by exact hG.below hb)).mono ?_); rintro e w2 ⟨rfl, hb2⟩)
  have hx := hx.below hb2
  have hb := bto hb hb2
  go_wp2_with fail
  ((with_reducible refine (H2.out _ (by exact hG.below hb)).mono ?_); rintro e w3 ⟨rfl, hb3⟩)
  have hx := hx.below hb3
  have hb := bto hb hb3
  go_wp2_with fail
  ((with_reducible refine (HM.out _ (by exact hG.below hb)).mono ?_); rintro e w4 ⟨rfl, hb4⟩)
  have hx := hx.below hb4
  have hb := bto hb hb4
  have c0 := hx.c0
  have c1 := hx.c1
  have f0 := hx.f0
  have f1 := hx.f1
  go_wp2_with fail
  have hy := hx.set (.string ⟨(fN r).toArray⟩) (.string ⟨(fD r).toArray⟩)
  have d0 := hy.c0
  have d1 := hy.c1
  refine bodyPost_ret (v := .tuple #[(Value.agg #[Value.string ⟨List.toArray (fN r)⟩, Value.string ⟨List.toArray (fD r)⟩]), .int .i64 0]) (by simp [results, Tryz.results30, go_sem, d0, d1]) rfl ?_
  exact ⟨rfl, below_set2 hb (Nat.le_add_right _ _) _ _⟩

set_option maxHeartbeats 1000000 in
set_option maxRecDepth 100000 in
theorem Power_zero (l l' : List UInt8) (n : Int) (w : World) (hl : l.length ≤ 1000) (hl' : l'.length ≤ 1000) (hn : -400 ≤ n) (hn0 : n < 0) (h0 : fv l l' = 0) (hG : Glob w) :
    Calls Tryz.prog 30 #[(Value.agg #[Value.string ⟨List.toArray l⟩, Value.string ⟨List.toArray l'⟩]), .int .i64 n] w fun e w' => e = .returned (.tuple #[.agg #[.string ⟨#[]⟩, .string ⟨#[]⟩], .int .i64 10]) ∧ Below w.heap.size w w' := by
  have hp : ∀ w : World, Glob w → _ := fun w hG => Parts_any l l' w (Nat.le_trans hl (by decide)) (Nat.le_trans hl' (by decide)) hG
  have hN : fN (fv l l') = [] := by rw [h0]; decide
  obtain ⟨D, hD⟩ : ∃ D, D = canon ((fv l l').den : Int) := ⟨_, rfl⟩
  simp only [hN, ← hD] at hp
  have k1 : decide (n < -400) = false := by simp; omega
  have k2 : decide (400 < n) = false := by simp; omega
  have k3 : decide (n < 0) = true := by simp; omega
  have HP := Lib.hid hp
  clear hp hN hD h0 hn hn0
  have hx := (FBox.new (w.alloc (.cells #[.string ⟨l.toArray⟩, .string ⟨l'.toArray⟩] 24)) (.string ⟨#[]⟩) (.string ⟨#[]⟩) 24)
  have hb := bto (below_alloc w (.cells #[.string ⟨l.toArray⟩, .string ⟨l'.toArray⟩] 24)) (below_alloc _ (.cells #[.string ⟨#[]⟩, .string ⟨#[]⟩] 24))
  rw [World.size_alloc] at hx
  go_enter Tryz.func30, Tryz.ntmps30
  go_wp2_with fail
  ((with_reducible refine (HP.out _ (by exact hG.below hb)).mono ?_); rintro e w1 ⟨rfl, hb1⟩)
  have hx := hx.below hb1
  have hb := bto hb hb1
  have c0 := hx.c0
  have c1 := hx.c1
  have f0 := hx.f0
  have f1 := hx.f1
  go_wp2_with fail
  have hy := hx.set (.string ⟨#[]⟩) (.string ⟨#[]⟩)
  have d0 := hy.c0
  have d1 := hy.c1
  refine bodyPost_ret (v := .tuple #[.agg #[.string ⟨#[]⟩, .string ⟨#[]⟩], .int .i64 10]) (by simp [results, Tryz.results30, go_sem, d0, d1]) rfl ?_
  exact ⟨rfl, below_set2 hb (Nat.le_add_right _ _) _ _⟩
end Go.Proofs.YtjhafnnfkaejgaaGreatDoor
