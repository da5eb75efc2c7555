/- Package integer: divide, add and the exported functions. -/
import Derived.Test.YtjhafnnfkaejgaaGreatDoorDivb
import Derived.Deep.RegionHeld3
namespace Go.Proofs.YtjhafnnfkaejgaaGreatDoor
open Go.RowKit Num

theorem divide_any (A A' : Option Addr) (n c n' c' : Nat) (x y : Nat) (w : World) (base base' : Nat) (h : w.ownsRow base 95 1 (.slice A n c) n (U (grp x))) (h' : w.ownsRow base' 95 1 (.slice A' n' c') n' (U (grp y)))
    (hy : y ≠ 0) (hn : n ≤ 100000000) : Calls Tryz.prog 85 #[.slice A n c, .slice A' n' c'] w (Divided w x y) := by
  rcases Nat.lt_or_ge x y with hlt | hge
  · exact divide_lt A A' n c n' c' x y w base base' h h' hlt
  · have hl := own_len h'
    have h0 : n' ≠ 0 := by intro e; rw [e] at hl; exact hy ((grp_eq_nil y).1 (List.eq_nil_of_length_eq_zero hl))
    by_cases h1 : n' = 1
    · subst h1
      exact divide_one A A' n c c' x y w base base' h h' hge (by omega)
    · exact divide_big A A' n c n' c' x y w base base' h h' hge hn (by omega)

theorem sgn_val (l : List UInt8) : sgn (negB l) (val l).natAbs = val l := by
  rw [negB_val]; unfold sgn
  by_cases h : val l < 0 <;> simp [h] <;> omega
theorem sgn_not (l : List UInt8) : sgn (!negB l) (val l).natAbs = -val l := by
  rw [negB_val]; unfold sgn
  by_cases h : val l < 0 <;> simp [h] <;> omega
theorem len_val (l : List UInt8) : (grp (val l).natAbs).length ≤ l.length := by
  refine grp_len_le _ _ (Nat.lt_of_lt_of_le (val_lt l) ?_)
  exact Nat.pow_le_pow_left (by decide) _
theorem grp_mul_len (x y : Nat) : (grp (x * y)).length ≤ (grp x).length + (grp y).length := by
  refine grp_len_le _ _ ?_
  rw [Nat.pow_add]
  exact Nat.mul_lt_mul'' (lt_grp_len x) (lt_grp_len y)
theorem grp_add_len (x y : Nat) : (grp (x + y)).length ≤ (grp x).length + (grp y).length + 1 := by
  refine grp_len_le _ _ ?_
  have h1 := lt_grp_len x
  have h2 := lt_grp_len y
  have e1 : BASE ^ (grp x).length ≤ BASE ^ ((grp x).length + (grp y).length) := Nat.pow_le_pow_right (by decide) (by omega)
  have e2 : BASE ^ (grp y).length ≤ BASE ^ ((grp x).length + (grp y).length) := Nat.pow_le_pow_right (by decide) (by omega)
  have e3 : BASE ^ ((grp x).length + (grp y).length) * 2 ≤ BASE ^ ((grp x).length + (grp y).length) * BASE := Nat.mul_le_mul_left _ (by decide)
  rw [Nat.pow_succ]
  omega
/-- the text of a magnitude that is at hand -/
theorem text_mag (neg : Bool) (A : Option Addr) (n c : Nat) (m : Nat) (w : World) (base : Nat) (h : w.ownsRow base 95 1 (.slice A n c) n (U (grp m))) (hG : Glob w) (hn : n ≤ 1000000000) :
    Calls Tryz.prog 69 #[.agg #[.bool neg, .slice A n c]] w fun e w' => e = .returned (.string ⟨(canon (sgn neg m)).toArray⟩) ∧ Below w.heap.size w w' := by
  have := text_any neg A n c (grp m) w base h (grp_small m) hG hn
  rwa [gv_grp] at this
/-- read, its slice written out -/
theorem read_var (l : List UInt8) (w : World) (hl : l.length ≤ 100000000) :
    Calls Tryz.prog 68 #[.string ⟨l.toArray⟩] w fun e w' => ∃ (A : Option Addr) (n c : Nat), e = .returned (.agg #[.bool (negB l), .slice A n c]) ∧ n ≤ 100000000 ∧ w'.ownsRow w.heap.size 95 1 (.slice A n c) n (U (grp (val l).natAbs)) ∧ Below w.heap.size w w' := by
  refine (read_any l w (by omega)).mono ?_
  rintro e w' ⟨v, rfl, hm, hb⟩
  obtain ⟨A, c, rfl⟩ := hm.form
  exact ⟨A, _, c, rfl, Nat.le_trans (len_val l) hl, hm, hb⟩
theorem bdr (w : World) : Below w.heap.size w w.drew := (Below.refl _ _).drew
theorem mul_sgn (l l' : List UInt8) : sgn (negB l != negB l') ((val l).natAbs * (val l').natAbs) = val l * val l' := by
  rw [negB_val, negB_val]; unfold sgn
  have e : ((val l).natAbs * (val l').natAbs : Nat) = (val l * val l').natAbs := (Int.natAbs_mul _ _).symm
  rw [e]
  by_cases h1 : val l < 0 <;> by_cases h2 : val l' < 0
  · have := Int.mul_pos_of_neg_of_neg h1 h2; simp [h1, h2]; omega
  · have : val l * val l' ≤ 0 := Int.mul_nonpos_of_nonpos_of_nonneg (by omega) (by omega)
    simp [h1, h2]; omega
  · have : val l * val l' ≤ 0 := Int.mul_nonpos_of_nonneg_of_nonpos (by omega) (by omega)
    simp [h1, h2]; omega
  · have : 0 ≤ val l * val l' := Int.mul_nonneg (by omega) (by omega)
    simp [h1, h2]; omega

set_option maxHeartbeats 2000000 in
set_option maxRecDepth 100000 in
theorem mul_any (l l' : List UInt8) (w : World) (hl : l.length ≤ 100000000) (hl' : l'.length ≤ 100000000) (hG : Glob w) :
    Calls Tryz.prog 90 #[.string ⟨l.toArray⟩, .string ⟨l'.toArray⟩] w fun e w' => e = .returned (.string ⟨(canon (val l * val l')).toArray⟩) ∧ Below w.heap.size w w' := by
  rw [← mul_sgn]
  go_enter Tryz.func90, Tryz.ntmps90
  go_wp2_with fail
  ((with_reducible refine (read_var l _ hl).mono ?_); rintro e w1 ⟨A, n, c, rfl, hn, ho1, hb1⟩)
  go_wp2_with fail
  ((with_reducible refine (read_var l' _ hl').mono ?_); rintro e w2 ⟨A', n', c', rfl, hn', ho2, hb2⟩)
  go_wp2_with fail
  have hbx := bto (below_alloc w2 (.cells #[.bool (negB l), .slice A n c] 70)) (below_alloc _ (.cells #[.bool (negB l'), .slice A' n' c'] 70))
  obtain ⟨W, hW⟩ : ∃ W, W = (w2.alloc (.cells #[.bool (negB l), .slice A n c] 70)).alloc (.cells #[.bool (negB l'), .slice A' n' c'] 70) := ⟨_, rfl⟩
  have hsz : W.heap.size = w2.heap.size + 2 := by rw [hW]; simp
  have k0 : W.cell? ⟨w2.heap.size, 0, none⟩ = some (.bool (negB l)) := by rw [hW]; simp [go_sem]
  have k1 : W.cell? ⟨w2.heap.size, 1, none⟩ = some (.slice A n c) := by rw [hW]; simp [go_sem]
  have k2 : W.cell? ⟨w2.heap.size + 1, 0, none⟩ = some (.bool (negB l')) := by rw [hW]; simp [go_sem]
  have k3 : W.cell? ⟨w2.heap.size + 1, 1, none⟩ = some (.slice A' n' c') := by rw [hW]; simp [go_sem]
  rw [← hW] at hbx ⊢
  have hbW : Below w.heap.size w W := bto hb1 (bto hb2 hbx)
  have HO1 := Lib.hid (own_below ho1 (bto hb2 hbx))
  have HO2 := Lib.hid (own_below ho2 hbx)
  have HSZ := Lib.hid hsz
  clear hW ho1 ho2 hsz
  go_region_held3 (fun w' => w'.cell? ⟨w2.heap.size, 0, none⟩ = some (.bool (negB l)) ∧ w'.cell? ⟨w2.heap.size, 1, none⟩ = some (.slice A n c) ∧ w'.cell? ⟨w2.heap.size + 1, 0, none⟩ = some (.bool (negB l')) ∧ w'.cell? ⟨w2.heap.size + 1, 1, none⟩ = some (.slice A' n' c'))
    (first
      | go_keep
      | (exact ⟨(hbc.cell (p := ⟨w2.heap.size, 0, none⟩) (by simp; rw [HSZ.out]; omega)).trans k0, (hbc.cell (p := ⟨w2.heap.size, 1, none⟩) (by simp; rw [HSZ.out]; omega)).trans k1, (hbc.cell (p := ⟨w2.heap.size + 1, 0, none⟩) (by simp; rw [HSZ.out]; omega)).trans k2, (hbc.cell (p := ⟨w2.heap.size + 1, 1, none⟩) (by simp; rw [HSZ.out]; omega)).trans k3⟩))
    (first
      | (go_at_call 96; refine (times_any A A' n c n' c' _ _ _ _ _ (by exact HO1.out) (by exact HO2.out) (by omega) (by omega)).mono ?_; rintro e w3 ⟨v, rfl, hm, hb3⟩; obtain ⟨A3, c3, rfl⟩ := hm.form; have hbc := bto (bdr W) hb3)
      | (go_at_call 69; refine (text_mag _ A3 _ c3 _ _ _ hm ((hG.below hbW).below hbc) (by have := grp_mul_len (val l).natAbs (val l').natAbs; have := len_val l; have := len_val l'; omega)).mono ?_; rintro e w4 ⟨rfl, hb4⟩; have hbc := bto hbc hb4))
  go_wp2
  go_ret
  exact ⟨rfl, bto hbW hbc⟩
end Go.Proofs.YtjhafnnfkaejgaaGreatDoor
