/- Plain: the order of rational numbers, more. -/
import Derived.Test.YtjhafnnfkaejgaaGreatDoorRet
namespace Go.Proofs.YtjhafnnfkaejgaaGreatDoor
open Num

theorem cmpQ_if (p q : Rat) : cmpQ p q = if p < q then -1 else if q < p then 1 else 0 := by
  have h1 := cmpQ_neg p q
  have h2 := cmpQ_neg q p
  have h3 := cmpQ_swap p q
  have h4 := cmpQ_bound p q
  split
  · have := h1.2 (by assumption); omega
  · split
    · have := h2.2 (by assumption); omega
    · have a := mt h1.1 (by assumption)
      have b := mt h2.1 (by assumption)
      omega
theorem cmpQ_congr {p q r s : Rat} (h1 : p < q ↔ r < s) (h2 : q < p ↔ s < r) : cmpQ p q = cmpQ r s := by
  rw [cmpQ_if, cmpQ_if]
  simp only [h1, h2]
theorem cmpQ_add (p q r : Rat) : cmpQ (p + r) (q + r) = cmpQ p q := cmpQ_congr Rat.add_lt_add_right Rat.add_lt_add_right
theorem cmpQ_mul {p q r : Rat} (h : 0 < r) : cmpQ (p * r) (q * r) = cmpQ p q := cmpQ_congr (Rat.mul_lt_mul_right h) (Rat.mul_lt_mul_right h)
theorem cmpQ_pos {p : Rat} : 0 < cmpQ p 0 ↔ 0 < p := by
  have := cmpQ_neg 0 p
  rw [← this, cmpQ_swap p 0]; omega
theorem cmpQ_trans {p q r : Rat} (h1 : cmpQ p q ≤ 0) (h2 : cmpQ q r ≤ 0) : cmpQ p r = min (cmpQ p q) (cmpQ q r) := by
  rw [cmpQ_le] at h1 h2
  have e1 := cmpQ_if p q
  have e2 := cmpQ_if q r
  have e3 := cmpQ_if p r
  have n1 : ¬ q < p := Rat.not_lt.2 h1
  have n2 : ¬ r < q := Rat.not_lt.2 h2
  have n3 : ¬ r < p := Rat.not_lt.2 (Rat.le_trans h1 h2)
  rw [if_neg n1] at e1
  rw [if_neg n2] at e2
  rw [if_neg n3] at e3
  by_cases a : p < q
  · have c : p < r := by
      rcases Rat.le_iff_lt_or_eq.1 (Rat.le_trans h1 h2) with c | c
      · exact c
      · subst c; exact absurd a n2
    rw [if_pos a] at e1; rw [if_pos c] at e3
    split at e2 <;> omega
  · have d : p = q := Rat.le_antisymm h1 (Rat.not_lt.1 a)
    subst d
    rw [if_neg a] at e1
    rw [e1, e2]
    split <;> omega
theorem cmpZ_zero (z : Int) : cmpZ z 0 = if z < 0 then -1 else if 0 < z then 1 else 0 := rfl
/-- the shape of a canonical text, and the sign -/
theorem canon_shape (z : Int) : (canon z = [] ∧ cmpZ z 0 = 0) ∨ (∃ c t, canon z = c :: t ∧ ((c.toNat : Int) == 45) = false ∧ cmpZ z 0 = 1) ∨ (∃ t, canon z = 45 :: t ∧ cmpZ z 0 = -1) := by
  rw [cmpZ_zero]
  rcases Int.lt_trichotomy z 0 with h | h | h
  · exact .inr (.inr ⟨dec z.natAbs, by unfold canon; rw [if_pos h], by rw [if_pos h]⟩)
  · subst h; exact .inl ⟨rfl, rfl⟩
  · refine .inr (.inl ?_)
    rw [if_neg (by omega), if_pos h]
    cases hc : canon z with
    | nil => have := (canon_eq_nil z).1 hc; omega
    | cons c t =>
      refine ⟨c, t, rfl, ?_, rfl⟩
      have hd : isDig c = true := by
        unfold canon at hc
        rw [if_neg (by omega)] at hc
        exact List.all_eq_true.1 (dec_digs z.natAbs) c (by rw [hc]; exact List.mem_cons_self)
      rw [beq_eq_false_iff_ne]
      intro e
      have e' : c.toNat = 45 := by omega
      simp [isDig, e'] at hd
end Go.Proofs.YtjhafnnfkaejgaaGreatDoor
