/- Plain: the yearly return. No program in sight. -/
import Derived.Test.YtmjglcgdcclinaaGreatDoorPw
namespace Go.Proofs.YtmjglcgdcclinaaGreatDoor
open Num
theorem divInt_mul_den {y u : Int} (hu : 0 < u) : Rat.divInt y u * (u : Rat) = (y : Rat) := by
  have h2 : (0 : Rat) < (u : Rat) := by simpa using (Rat.intCast_pos.2 hu)
  rw [Rat.divInt_eq_div, Rat.div_mul_cancel (by grind)]
theorem pow_cancel {y u : Int} (hu : 0 < u) : ∀ n : Nat, (Rat.divInt y u) ^ n * ((u ^ n : Int) : Rat) = ((y ^ n : Int) : Rat)
  | 0 => by rw [Rat.pow_zero, Int.pow_zero, Int.pow_zero, Rat.one_mul]
  | n + 1 => by
    have ih := pow_cancel (y := y) hu n
    have h1 := divInt_mul_den (y := y) hu
    rw [Rat.pow_succ, Int.pow_succ, Int.pow_succ, Rat.intCast_mul, Rat.intCast_mul, ← ih, ← h1]
    generalize Rat.divInt y u = q
    generalize ((u ^ n : Int) : Rat) = U
    grind
theorem intq_pos {u : Int} (hu : 0 < u) : (0 : Rat) < (u : Rat) := by simpa using (Rat.intCast_pos.2 hu)
theorem frac_self (f : Rat) : Rat.divInt f.num f.den = f := Rat.num_divInt_den f
theorem den_pos (f : Rat) : (0 : Int) < (f.den : Int) := by have := f.den_nz; omega
theorem num_den (f : Rat) : f * ((f.den : Int) : Rat) = (f.num : Rat) := by
  have := divInt_mul_den (y := f.num) (u := (f.den : Int)) (den_pos f)
  rwa [frac_self] at this
theorem mul_le_iff {a b c : Rat} (h : 0 < c) : a * c ≤ b * c ↔ a ≤ b := ⟨fun h1 => Rat.le_of_mul_le_mul_right h1 h, fun h1 => Rat.mul_le_mul_of_nonneg_right h1 (Rat.le_of_lt h)⟩
theorem mul_inj {a b c : Rat} (h : 0 < c) : a * c = b * c ↔ a = b := ⟨fun h1 => Rat.le_antisymm ((mul_le_iff h).1 (by rw [h1]; exact Rat.le_refl)) ((mul_le_iff h).1 (by rw [h1]; exact Rat.le_refl)), fun h1 => by rw [h1]⟩
/-- what the reference compares -/
theorem goal_iff (f : Rat) (n : Nat) {y u : Int} (hu : 0 < u) : (y ^ n * (f.den : Int) ≤ f.num * u ^ n ↔ (Rat.divInt y u) ^ n ≤ f) ∧ (y ^ n * (f.den : Int) = f.num * u ^ n ↔ (Rat.divInt y u) ^ n = f) := by
  have h1 := pow_cancel (y := y) hu n
  have h2 := num_den f
  have h3 := intq_pos (den_pos f)
  have h4 : (0 : Rat) < ((u ^ n : Int) : Rat) := intq_pos (Int.pow_pos hu)
  have e1 : ((y ^ n * (f.den : Int) : Int) : Rat) = (Rat.divInt y u) ^ n * ((f.den : Int) : Rat) * ((u ^ n : Int) : Rat) := by rw [Rat.intCast_mul, ← h1]; grind
  have e2 : ((f.num * u ^ n : Int) : Rat) = f * ((f.den : Int) : Rat) * ((u ^ n : Int) : Rat) := by rw [Rat.intCast_mul, ← h2]
  rw [← Rat.intCast_le_intCast, ← Rat.intCast_inj, e1, e2, mul_le_iff h4, mul_le_iff h3, mul_inj h4, mul_inj h3]
  exact ⟨Iff.rfl, Iff.rfl⟩
/-- the greatest number of units which, to the power n, is not greater than f -/
structure RootA (f : Rat) (n : Nat) (u z : Int) : Prop where
  nn : 0 ≤ z
  le : z ≤ (f.num + 1) * u
  iff : ∀ y, 1 ≤ y → ((Rat.divInt y u) ^ n ≤ f ↔ y ≤ z)
theorem le_num {f : Rat} (hf : 0 < f) : f ≤ (f.num : Rat) := by
  have h2 := num_den f
  have h3 : ((1 : Int) : Rat) ≤ ((f.den : Int) : Rat) := Rat.intCast_le_intCast.2 (by have := den_pos f; omega)
  rw [← h2]
  have : f * ((1 : Int) : Rat) ≤ f * ((f.den : Int) : Rat) := Rat.mul_le_mul_of_nonneg_left h3 (Rat.le_of_lt hf)
  have o : ((1 : Int) : Rat) = 1 := rfl
  rw [o, Rat.mul_one] at this
  exact this
theorem num_pos' {f : Rat} (hf : 0 < f) : 0 < f.num := by
  have h := le_num hf
  have : (0 : Rat) < (f.num : Rat) := by grind
  simpa using (Rat.intCast_pos.1 (by simpa using this))
theorem rootA_is {f : Rat} (hf : 0 < f) {n : Nat} (hn : 0 < n) {u : Int} (hu : 0 < u) : ∃ z, RootA f n u z := by
  have hnum := num_pos' hf
  have hm : 0 ≤ (f.num + 1) * u := Int.mul_nonneg (by omega) (by omega)
  obtain ⟨z0, h1, h2, h3⟩ := top_of (fun y => (Rat.divInt y u) ^ n ≤ f) (fun z z' hz hzz hq =>
    Rat.le_trans (pow_le' (divInt_pos hz hu) (divInt_le' hzz hu) n) hq) (((f.num + 1) * u).toNat) (fun z hz h1 hq => by
    have h4 := divInt_mul_den (y := z) hu
    have h5 : (((f.num + 1) * u : Int) : Rat) ≤ (z : Rat) := Rat.intCast_le_intCast.2 (by omega)
    rw [Rat.intCast_mul, Rat.intCast_add, ← h4] at h5
    have h6 := (mul_le_iff (intq_pos hu)).1 h5
    have h7 := le_num hf
    have o : ((1 : Int) : Rat) = 1 := rfl
    rw [o] at h6
    have h8 := pow_ge1 (x := Rat.divInt z u) (by grind) hn
    grind)
  exact ⟨z0, h1, by omega, h3⟩
def topA (f : Rat) (n : Nat) (u z : Int) : Int := if (Rat.divInt z u) ^ n = f then z else z + 1
theorem zero_powq {n : Nat} (hn : 0 < n) : (0 : Rat) ^ n = 0 := by
  obtain ⟨k, rfl⟩ : ∃ k, n = k + 1 := ⟨n - 1, by omega⟩
  rw [Rat.pow_succ, Rat.mul_zero]
theorem RootA.low {f : Rat} {n : Nat} {u z : Int} (h : RootA f n u z) (hf : 0 < f) (hn : 0 < n) : (Rat.divInt z u) ^ n ≤ f := by
  have := h.nn
  by_cases h0 : z = 0
  · rw [h0, divInt_zero', zero_powq hn]; exact Rat.le_of_lt hf
  · exact (h.iff z (by omega)).2 (Int.le_refl _)
theorem RootA.next {f : Rat} {n : Nat} {u z : Int} (h : RootA f n u z) : f < (Rat.divInt (z + 1) u) ^ n := by
  have := h.nn
  have h2 := h.iff (z + 1) (by omega)
  have h3 : ¬ (Rat.divInt (z + 1) u) ^ n ≤ f := fun h3 => by have := h2.1 h3; omega
  grind
theorem RootA.high {f : Rat} {n : Nat} {u z : Int} (h : RootA f n u z) : f ≤ (Rat.divInt (topA f n u z) u) ^ n := by
  unfold topA
  split
  · rename_i e; rw [e]; exact Rat.le_refl
  · exact Rat.le_of_lt h.next
theorem less_one (z : Int) {u : Int} (hu : 0 < u) : Rat.divInt (z - u) u = Rat.divInt z u - 1 := by
  have h := intq_pos hu
  refine (mul_inj h).1 ?_
  have h1 := divInt_mul_den (y := z) hu
  rw [divInt_mul_den hu, Rat.intCast_sub, ← h1]
  generalize Rat.divInt z u = q
  grind
theorem plus_unit (z : Int) {u : Int} (hu : 0 < u) : Rat.divInt z u + Rat.divInt 1 u = Rat.divInt (z + 1) u := by
  have h := intq_pos hu
  refine (mul_inj h).1 ?_
  have h1 := divInt_mul_den (y := z) hu
  have h2 := divInt_mul_den (y := 1) hu
  rw [divInt_mul_den hu, Rat.intCast_add, ← h1, ← h2]
  generalize Rat.divInt z u = q
  generalize Rat.divInt 1 u = r
  grind
end Go.Proofs.YtmjglcgdcclinaaGreatDoor
