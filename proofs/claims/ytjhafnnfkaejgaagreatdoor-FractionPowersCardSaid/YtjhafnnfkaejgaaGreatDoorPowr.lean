/- Power, for every exponent. -/
import Derived.Test.YtjhafnnfkaejgaaGreatDoorLong
import Derived.Test.YtjhafnnfkaejgaaGreatDoorQlawb
namespace Go.Proofs.YtjhafnnfkaejgaaGreatDoor
open Go.RowKit Num

theorem tmod9 (m : Int) : -8 ≤ m.tmod 9 ∧ m.tmod 9 ≤ 8 := by
  have h1 := Int.tmod_lt_of_pos m (b := 9) (by decide)
  have h2 := Int.lt_tmod_of_pos m (b := 9) (by decide)
  omega
theorem rPow {l l' : List UInt8} (h : l.length ≤ 1000) (h' : l'.length ≤ 1000) {q r : Rat} (hq : fv l l' = q) (n : Int) (h1 : -400 ≤ n) (h2 : n ≤ 400) (h0 : 0 ≤ n ∨ q ≠ 0) (e : q ^ n = r) :
    Ret 30 #[(Value.agg #[Value.string ⟨List.toArray l⟩, Value.string ⟨List.toArray l'⟩]), .int .i64 n] (.tuple #[(Value.agg #[Value.string ⟨List.toArray (fN r)⟩, Value.string ⟨List.toArray (fD r)⟩]), .int .i64 0]) := fun w hG => by
  subst hq e
  rcases Int.lt_or_le n 0 with hn | hn
  · obtain ⟨m, rfl⟩ : ∃ m : Nat, n = -(m : Int) := ⟨n.natAbs, by omega⟩
    have hq0 : fv l l' ≠ 0 := by
      rcases h0 with h0 | h0
      · omega
      · exact h0
    have := Power_neg l l' m w h h' (by omega) (by omega) hq0 hG
    rw [Rat.zpow_neg, Rat.zpow_natCast]
    exact this
  · obtain ⟨m, rfl⟩ : ∃ m : Nat, n = (m : Int) := ⟨n.natAbs, by omega⟩
    have := Power_pos l l' m w h h' (by omega) hG
    rw [Rat.zpow_natCast]
    exact this
theorem rPow0 {l l' : List UInt8} (h : l.length ≤ 1000) (h' : l'.length ≤ 1000) (hq : fv l l' = 0) (n : Int) (h1 : -400 ≤ n) (h2 : n < 0) :
    Ret 30 #[(Value.agg #[Value.string ⟨List.toArray l⟩, Value.string ⟨List.toArray l'⟩]), .int .i64 n] (.tuple #[.agg #[.string ⟨#[]⟩, .string ⟨#[]⟩], .int .i64 10]) := fun w hG => Power_zero l l' n w h h' h1 h2 hq hG
theorem zpow_add' (q : Rat) (i k : Int) (h : (0 ≤ i ∧ 0 ≤ k) ∨ q ≠ 0) : q ^ i * q ^ k = q ^ (i + k) := by
  rcases h with ⟨h1, h2⟩ | h
  · obtain ⟨a, rfl⟩ : ∃ a : Nat, i = (a : Int) := ⟨i.natAbs, by omega⟩
    obtain ⟨b, rfl⟩ : ∃ b : Nat, k = (b : Int) := ⟨k.natAbs, by omega⟩
    rw [← Int.natCast_add, Rat.zpow_natCast, Rat.zpow_natCast, Rat.zpow_natCast]
    induction b with
    | zero => rw [Rat.pow_zero, Rat.mul_one, Nat.add_zero]
    | succ b ih => rw [← Nat.add_assoc, Rat.pow_succ, Rat.pow_succ, ← Rat.mul_assoc, ih (by omega)]
  · exact (Rat.zpow_add h i k).symm
theorem bd_inv0 {k : Nat} {q : Rat} (h : Bd k q) (hk : 1 ≤ k) : Bd k q⁻¹ := by
  by_cases h0 : q = 0
  · subst h0; rw [Rat.inv_zero]; exact bd_mono bd_zero hk
  · exact bd_inv h h0
theorem bd_pow {k : Nat} {q : Rat} (h : Bd k q) (n : Nat) : Bd (k * n + 1) (q ^ n) := by
  induction n with
  | zero => rw [Rat.pow_zero]; exact bd_mono (show Bd 1 1 from ⟨by decide, by decide⟩) (by omega)
  | succ n ih => rw [Rat.pow_succ]; exact bd_mono (bd_mul ih h) (by rw [Nat.mul_add]; omega)
theorem bd_zpow {k m : Nat} {q : Rat} (h : Bd k q) (i : Int) (hi : i.natAbs ≤ m) : Bd (k * m + 1) (q ^ i) := by
  have hm : k * i.natAbs ≤ k * m := Nat.mul_le_mul_left k hi
  rcases Int.lt_or_le i 0 with hn | hn
  · obtain ⟨a, rfl⟩ : ∃ a : Nat, i = -(a : Int) := ⟨i.natAbs, by omega⟩
    rw [Rat.zpow_neg, Rat.zpow_natCast]
    exact bd_mono (bd_inv0 (bd_pow h a) (by omega)) (by simp at hm ⊢; exact hm)
  · obtain ⟨a, rfl⟩ : ∃ a : Nat, i = (a : Int) := ⟨i.natAbs, by omega⟩
    rw [Rat.zpow_natCast]
    exact bd_mono (bd_pow h a) (by simp at hm ⊢; exact hm)
end Go.Proofs.YtjhafnnfkaejgaaGreatDoor
