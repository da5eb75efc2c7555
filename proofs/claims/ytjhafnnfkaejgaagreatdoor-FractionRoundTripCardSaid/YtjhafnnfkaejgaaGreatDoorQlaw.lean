/- Plain: the order and the floor of rational numbers, as the code reckons them. -/
import Derived.Test.YtjhafnnfkaejgaaGreatDoorGreat
namespace Go.Proofs.YtjhafnnfkaejgaaGreatDoor
open Num

theorem floor_frac (q : Rat) : divZ q.num (q.den : Int) = q.floor := by
  have := q.den_nz
  unfold divZ
  rw [if_pos (by omega), Rat.floor_def]
theorem floor_pos (a b : Int) (hb : 0 < b) : a / b = (Rat.divInt a b).floor := by
  obtain ⟨h1, h2⟩ := red_pos a b hb
  have hg := red_g a b (by omega)
  have hgp : 0 < (Int.gcd a b : Int) := by omega
  rw [Rat.floor_def, ← h1, ← h2]
  unfold divZ
  rw [if_pos hgp, if_pos hgp]
  obtain ⟨x, hx⟩ := Int.gcd_dvd_left (a := a) (b := b)
  obtain ⟨y, hy⟩ := Int.gcd_dvd_right (a := a) (b := b)
  generalize (Int.gcd a b : Int) = g at *
  subst hx hy
  rw [Int.mul_ediv_cancel_left _ (by omega), Int.mul_ediv_cancel_left _ (by omega), Int.mul_ediv_mul_of_pos _ _ hgp]
theorem floor_divZ (a b : Int) (hb : b ≠ 0) : divZ a b = (Rat.divInt a b).floor := by
  unfold divZ
  split
  · exact floor_pos a b (by assumption)
  · rw [floor_pos (-a) (-b) (by omega), Rat.neg_divInt_neg]
theorem cmpQ_neg (p q : Rat) : cmpQ p q < 0 ↔ p < q := by
  have h : (p - q).num < 0 ↔ p < q := by
    rw [← Rat.not_le, Rat.le_iff_sub_nonneg, ← Rat.num_nonneg]; omega
  rw [← h]; unfold cmpQ cmpZ; split <;> (try split) <;> omega
theorem cmpQ_eq (p q : Rat) : cmpQ p q = 0 ↔ p = q := by
  have h : (p - q).num = 0 ↔ p = q := by
    rw [Rat.num_eq_zero]
    constructor
    · intro h
      have h1 : p - q + q = 0 + q := by rw [h]
      rwa [Rat.sub_add_cancel, Rat.zero_add] at h1
    · intro h; rw [h]; exact Rat.sub_self
  rw [← h]; unfold cmpQ cmpZ; split <;> (try split) <;> omega
theorem cmpQ_bound (p q : Rat) : cmpQ p q = -1 ∨ cmpQ p q = 0 ∨ cmpQ p q = 1 := by
  unfold cmpQ cmpZ; split <;> (try split) <;> omega
theorem cmpQ_swap (p q : Rat) : cmpQ p q = -cmpQ q p := by
  unfold cmpQ
  have h : (p - q).num = -(q - p).num := by rw [← Rat.neg_num, Rat.neg_sub]
  rw [h]; unfold cmpZ; split <;> split <;> (try split) <;> (try split) <;> omega
theorem cmpQ_le (p q : Rat) : cmpQ p q ≤ 0 ↔ p ≤ q := by
  have h1 := cmpQ_neg q p
  rw [← Rat.not_lt, ← h1, cmpQ_swap p q]; omega
end Go.Proofs.YtjhafnnfkaejgaaGreatDoor
