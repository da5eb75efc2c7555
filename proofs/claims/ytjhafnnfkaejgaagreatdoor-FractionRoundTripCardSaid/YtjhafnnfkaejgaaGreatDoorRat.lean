/- Plain: fractions as rational numbers. -/
import Derived.Test.YtjhafnnfkaejgaaGreatDoorPow
namespace Go.Proofs.YtjhafnnfkaejgaaGreatDoor
open Go.RowKit Num

def den1 (d : Int) : Int := if d = 0 then 1 else d
theorem den1_ne (d : Int) : den1 d ≠ 0 := by unfold den1; split <;> omega
/-- the value of a fraction, whatever its strings -/
def fv (l l' : List UInt8) : Rat := Rat.divInt (val l) (den1 (val l'))
def fN (q : Rat) : List UInt8 := canon q.num
def fD (q : Rat) : List UInt8 := if q.den = 1 then [] else canon (q.den : Int)
theorem val_nil : val [] = 0 := rfl
theorem val_fN (q : Rat) : val (fN q) = q.num := val_canon _
theorem den1_fD (q : Rat) : den1 (val (fD q)) = (q.den : Int) := by
  unfold fD
  split
  · next h => rw [val_nil, h]; rfl
  · have := q.den_nz
    rw [val_canon, den1, if_neg (by omega)]
theorem fv_frac (q : Rat) : fv (fN q) (fD q) = q := by
  unfold fv; rw [val_fN, den1_fD, Rat.num_divInt_den]
theorem frac_inj {p q : Rat} (h1 : fN p = fN q) (h2 : fD p = fD q) : p = q := by rw [← fv_frac p, ← fv_frac q, h1, h2]
/-- reduced, as the code reckons it -/
theorem red_g (a b : Int) (hb : b ≠ 0) : Int.gcd a b ≠ 0 := by
  rw [ne_eq, Int.gcd_eq_zero_iff]; omega
theorem red_pos (a b : Int) (hb : 0 < b) : divZ a (Int.gcd a b) = (Rat.divInt a b).num ∧ divZ b (Int.gcd a b) = ((Rat.divInt a b).den : Int) := by
  have hg := red_g a b (by omega)
  have hg' : 0 < (Int.gcd a b : Int) := by omega
  rw [Rat.num_divInt, Rat.den_divInt, if_neg (by omega), Int.gcd_comm b a, Int.sign_eq_one_of_pos hb, Int.one_mul]
  unfold divZ
  rw [if_pos hg', if_pos hg']
  refine ⟨rfl, ?_⟩
  rw [Int.natCast_ediv]
  congr 1; omega
theorem red_neg (a b : Int) (hb : b < 0) : divZ (-a) (Int.gcd (-a) (-b)) = (Rat.divInt a b).num ∧ divZ (-b) (Int.gcd (-a) (-b)) = ((Rat.divInt a b).den : Int) := by
  have := red_pos (-a) (-b) (by omega)
  rwa [Rat.neg_divInt_neg] at this
theorem made_den (q : Rat) : (canon (q.den : Int) = [49] ↔ q.den = 1) := by
  constructor
  · intro h
    have h1 : canon (1 : Int) = [49] := by decide
    have := canon_inj (h.trans h1.symm)
    omega
  · intro h; rw [h]; decide

/-! Sizes. -/
def Bd (k : Nat) (q : Rat) : Prop := q.num.natAbs < 10 ^ k ∧ q.den < 10 ^ k
theorem bd_divInt {a b : Int} {k : Nat} (ha : a.natAbs < 10 ^ k) (hb : b.natAbs < 10 ^ k) (hk : b ≠ 0) : Bd k (Rat.divInt a b) := by
  constructor
  · rw [Rat.num_divInt]
    refine Nat.lt_of_le_of_lt ?_ ha
    refine Nat.le_trans (Int.natAbs_ediv_le_natAbs _ _) ?_
    rw [Int.natAbs_mul, Int.natAbs_sign_of_ne_zero hk, Nat.one_mul]; exact Nat.le_refl _
  · rw [Rat.den_divInt, if_neg hk]
    exact Nat.lt_of_le_of_lt (Nat.div_le_self _ _) hb
theorem bd_mono {j k : Nat} {q : Rat} (h : Bd j q) (hjk : j ≤ k) : Bd k q :=
  ⟨Nat.lt_of_lt_of_le h.1 (Nat.pow_le_pow_right (by decide) hjk), Nat.lt_of_lt_of_le h.2 (Nat.pow_le_pow_right (by decide) hjk)⟩
theorem bd_len {k : Nat} {q : Rat} (h : Bd k q) : (fN q).length ≤ k + 1 ∧ (fD q).length ≤ k + 1 := by
  refine ⟨canon_len_le _ _ h.1, ?_⟩
  unfold fD; split
  · simp
  · exact canon_len_le _ _ (by simpa using h.2)
theorem den1_lt {l : List UInt8} {k : Nat} (h : l.length ≤ k) (hk : 1 ≤ k) : (den1 (val l)).natAbs < 10 ^ k := by
  have h1 := val_lt l
  have h2 : 10 ^ l.length ≤ 10 ^ k := Nat.pow_le_pow_right (by decide) h
  have h3 : 10 ^ 1 ≤ 10 ^ k := Nat.pow_le_pow_right (by decide) hk
  unfold den1; split
  · simp at h3 ⊢; omega
  · omega
theorem val_lt_of {l : List UInt8} {k : Nat} (h : l.length ≤ k) : (val l).natAbs < 10 ^ k :=
  Nat.lt_of_lt_of_le (val_lt l) (Nat.pow_le_pow_right (by decide) h)
theorem bd_fv {l l' : List UInt8} {k : Nat} (h : l.length ≤ k) (h' : l'.length ≤ k) (hk : 1 ≤ k) : Bd k (fv l l') :=
  bd_divInt (val_lt_of h) (den1_lt h' hk) (den1_ne _)
theorem mul_lt10 {a b i j : Nat} (ha : a < 10 ^ i) (hb : b < 10 ^ j) : a * b < 10 ^ (i + j) := by
  rw [Nat.pow_add]
  exact Nat.mul_lt_mul'' ha hb
theorem bd_neg {k : Nat} {q : Rat} (h : Bd k q) : Bd k (-q) := by
  refine ⟨?_, ?_⟩
  · rw [Rat.neg_num, Int.natAbs_neg]; exact h.1
  · rw [Rat.neg_den]; exact h.2
theorem two_lt10 (k : Nat) : 10 ^ k + 10 ^ k ≤ 10 ^ (k + 1) := by rw [Nat.pow_succ]; omega
theorem bd_add {i j : Nat} {p q : Rat} (h : Bd i p) (k : Bd j q) : Bd (i + j + 1) (p + q) := by
  rw [Rat.add_def', ← Rat.divInt_ofNat]
  have h1 := mul_lt10 h.1 k.2
  have h2 := mul_lt10 k.1 h.2
  have h3 := mul_lt10 h.2 k.2
  have h4 := two_lt10 (i + j)
  rw [Nat.add_comm j i] at h2
  refine bd_divInt ?_ ?_ ?_
  · have := Int.natAbs_add_le (p.num * q.den) (q.num * p.den)
    rw [Int.natAbs_mul, Int.natAbs_mul, Int.natAbs_natCast, Int.natAbs_natCast] at this
    omega
  · rw [Int.natAbs_natCast]; omega
  · have := Nat.mul_ne_zero p.den_nz q.den_nz; omega
theorem bd_sub {i j : Nat} {p q : Rat} (h : Bd i p) (k : Bd j q) : Bd (i + j + 1) (p - q) := by
  rw [Rat.sub_eq_add_neg]; exact bd_add h (bd_neg k)
theorem bd_mul {i j : Nat} {p q : Rat} (h : Bd i p) (k : Bd j q) : Bd (i + j) (p * q) := by
  rw [Rat.mul_def', ← Rat.divInt_ofNat]
  refine bd_divInt ?_ ?_ ?_
  · rw [Int.natAbs_mul]; exact mul_lt10 h.1 k.1
  · rw [Int.natAbs_natCast]; exact mul_lt10 h.2 k.2
  · have := Nat.mul_ne_zero p.den_nz q.den_nz; omega
theorem bd_inv {k : Nat} {q : Rat} (h : Bd k q) (h0 : q ≠ 0) : Bd k q⁻¹ := by
  rw [Rat.inv_def]
  exact bd_divInt (by rw [Int.natAbs_natCast]; exact h.2) h.1 (fun e => h0 (Rat.num_eq_zero.1 e))
theorem bd_int {a : Int} {k : Nat} (h : a.natAbs < 10 ^ k) (hk : 1 ≤ k) : Bd k (a : Rat) := by
  refine ⟨h, ?_⟩
  have : 10 ^ 1 ≤ 10 ^ k := Nat.pow_le_pow_right (by decide) hk
  show 1 < 10 ^ k; omega
end Go.Proofs.YtjhafnnfkaejgaaGreatDoor
