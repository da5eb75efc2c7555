/- Cb: refi refj refk refl refm refn refo -/
import Derived.Test.YtgnppdkeiihlfaaGreatDoorGCa
import Derived.Deep.RegionHeld3
/- trancheref01: add, Add, Sub, Mul. -/
namespace Go.Proofs.YtgnppdkeiihlfaaGreatDoor
open Go.RowKit Num
def sv (neg : Bool) (m : Nat) : Int := if neg then -(m : Int) else m
theorem grp_len_add (a b : Nat) : (grp (a + b)).length ≤ (grp a).length + (grp b).length + 1 := by
  refine grp_len_le _ _ ?_
  have h1 := gv_lt (grp a) (grp_small a)
  have h2 := gv_lt (grp b) (grp_small b)
  rw [gv_grp] at h1 h2
  have h3 : BASE ^ (grp a).length ≤ BASE ^ ((grp a).length + (grp b).length) := Nat.pow_le_pow_right (by decide) (by omega)
  have h4 : BASE ^ (grp b).length ≤ BASE ^ ((grp a).length + (grp b).length) := Nat.pow_le_pow_right (by decide) (by omega)
  rw [Nat.pow_succ]
  generalize BASE ^ ((grp a).length + (grp b).length) = X at *
  show a + b < X * 1000000000
  have e : BASE = 1000000000 := rfl
  omega
theorem grp_len_mul (a b : Nat) : (grp (a * b)).length ≤ (grp a).length + (grp b).length := by
  refine grp_len_le _ _ ?_
  have h1 := gv_lt (grp a) (grp_small a)
  have h2 := gv_lt (grp b) (grp_small b)
  rw [gv_grp] at h1 h2
  rw [Nat.pow_add]
  exact Nat.mul_lt_mul'' h1 h2
theorem rord_nonneg {a b : Nat} (h : b ≤ a) : 0 ≤ rord a b := by unfold rord; rw [if_neg (by omega)]; split <;> decide
theorem rord_neg {a b : Nat} (h : a < b) : rord a b < 0 := by rw [rord_lt h]; decide
theorem order_below {w w' : World} (h : ∃ k, w' = w.drewN k) : Below w.heap.size w w' := by obtain ⟨k, rfl⟩ := h; exact bdrewN (Below.refl _ _) k
set_option maxHeartbeats 4000000 in
set_option maxRecDepth 100000 in
theorem radd_any (n1 n2 : Bool) (v1 v2 : Value) (m1 m2 base1 base2 : Nat) (w : World) (h1 : JMag w base1 v1 m1) (h2 : JMag w base2 v2 m2) (b1 : (grp m1).length ≤ 10000) (b2 : (grp m2).length ≤ 10000) :
    Calls Tryz.prog 185 #[.agg #[.bool n1, v1], .agg #[.bool n2, v2]] w fun e w' => ∃ (neg : Bool) (v : Value) (m : Nat), e = .returned (.agg #[.bool neg, v]) ∧ JMag w' w.heap.size v m ∧ (sv neg m = sv n1 m1 + sv n2 m2 ∧ m ≤ m1 + m2) ∧ Below w.heap.size w w' := by
  obtain ⟨A1, c1, rfl⟩ := h1.form
  obtain ⟨A2, c2, rfl⟩ := h2.form
  obtain ⟨L1, hL1⟩ : ∃ L1, L1 = (grp m1).length := ⟨_, rfl⟩
  obtain ⟨L2, hL2⟩ : ∃ L2, L2 = (grp m2).length := ⟨_, rfl⟩
  unfold JMag at h1 h2
  rw [← hL1] at h1 b1 ⊢
  rw [← hL2] at h2 b2 ⊢
  have y2 := ((FBox.new w (.bool n1) (.slice A1 L1 c1) 182).below (below_alloc _ (.cells #[.bool n2, .slice A2 L2 c2] 182))).below (below_alloc _ (.cells #[.bool false, .slice none 0 0] 182))
  have y3 := (FBox.new (w.alloc (.cells #[.bool n1, .slice A1 L1 c1] 182)) (.bool n2) (.slice A2 L2 c2) 182).below (below_alloc _ (.cells #[.bool false, .slice none 0 0] 182))
  have y4 := FBox.new ((w.alloc (.cells #[.bool n1, .slice A1 L1 c1] 182)).alloc (.cells #[.bool n2, .slice A2 L2 c2] 182)) (.bool false) (.slice none 0 0) 182
  rw [World.size_alloc] at y3
  rw [World.size_alloc, World.size_alloc] at y4
  have hbW := bto (bto (below_alloc w (.cells #[.bool n1, .slice A1 L1 c1] 182)) (below_alloc _ (.cells #[.bool n2, .slice A2 L2 c2] 182))) (below_alloc _ (.cells #[.bool false, .slice none 0 0] 182))
  have hsz : (((w.alloc (.cells #[.bool n1, .slice A1 L1 c1] 182)).alloc (.cells #[.bool n2, .slice A2 L2 c2] 182)).alloc (.cells #[.bool false, .slice none 0 0] 182)).heap.size = w.heap.size + 1 + 1 + 1 := by simp
  obtain ⟨W, hW⟩ : ∃ W, W = ((w.alloc (.cells #[.bool n1, .slice A1 L1 c1] 182)).alloc (.cells #[.bool n2, .slice A2 L2 c2] 182)).alloc (.cells #[.bool false, .slice none 0 0] 182) := ⟨_, rfl⟩
  rw [← hW] at y2 y3 y4 hbW hsz
  have hsz2 : w.heap.size + 3 ≤ W.heap.size := by omega
  have HW := Lib.hid hW
  have HA1 := Lib.hid (fun (w' : World) (hb : Below W.heap.size W w') => own_below h1 (bto hbW hb))
  have HA2 := Lib.hid (fun (w' : World) (hb : Below W.heap.size W w') => own_below h2 (bto hbW hb))
  clear hW hL1 hL2 h1 h2 hsz
  have q0 := y2.c0
  have q1 := y2.c1
  have q2 := y3.c0
  have q3 := y3.c1
  by_cases hnn : n1 = n2
  · have hnq : (n1 == n2) = true := by rw [beq_iff_eq]; exact hnn
    have HNN := Lib.hid hnn
    clear hnn
    go_enter Tryz.func185, Tryz.ntmps185
    go_wp2_with fail
    rw [← HW.out]
    clear HW
    have ne1 : w.heap.size + 1 + 1 ≠ w.heap.size := by omega
    have ne2 : w.heap.size ≠ w.heap.size + 1 + 1 := by omega
    have q0 := y2.c0
    have q1 := y2.c1
    have q2 := y3.c0
    have q3 := y3.c1
    have hbc := bdr W
    have z2 := y2.below hbc
    have z3 := y3.below hbc
    have z4 := y4.below hbc
    have q0 := z2.c0
    have q1 := z2.c1
    have q2 := z3.c0
    have q3 := z3.c1
    have q4 := z4.f0
    have q5 := z4.f1
    have q6 := z4.c0
    have q7 := z4.c1
    go_region_held3 (fun w' => w'.cell? ⟨w.heap.size, 0, none⟩ = some (.bool n1) ∧ w'.cell? ⟨w.heap.size, 1, none⟩ = some (.slice A1 L1 c1) ∧ w'.cell? ⟨w.heap.size + 1, 0, none⟩ = some (.bool n2) ∧ w'.cell? ⟨w.heap.size + 1, 1, none⟩ = some (.slice A2 L2 c2))
      (first | (dsimp only; exact ⟨q0, q1, q2, q3⟩) | go_keep)
      (first | (go_at_call 224; (with_reducible refine Calls.mono (rplus_any A1 A2 L1 c1 L2 c2 m1 m2 base1 base2 _ (HA1.out _ hbc) (HA2.out _ hbc) b1 b2) ?_); rintro e w5 ⟨v5, rfl, hv5, hb5⟩; obtain ⟨A5, c5, rfl⟩ := hv5.form; have hbc := bto hbc hb5; have z2 := y2.below hbc; have z3 := y3.below hbc; have z4 := y4.below hbc; have q0 := z2.c0; have q1 := z2.c1; have q2 := z3.c0; have q3 := z3.c1; have q4 := z4.f0; have q5 := z4.f1; have q6 := z4.c0; have q7 := z4.c1))
    go_wp2
    have hy := z4.set (.bool n1) (.slice A5 (grp (m1 + m2)).length c5)
    have d0 := hy.c0
    have d1 := hy.c1
    refine bodyPost_ret (v := .agg #[.bool n1, .slice A5 (grp (m1 + m2)).length c5]) (by simp [results, Tryz.results185, go_sem, d0, d1]) rfl ?_
    refine ⟨n1, _, m1 + m2, rfl, ?_, ⟨by rw [← HNN.out]; unfold sv; cases n1 <;> simp <;> omega, Nat.le_refl _⟩, below_set2 (bto hbW hbc) (by omega) _ _⟩
    have hds : (World.drew W).heap.size = W.heap.size := rfl
    exact own_base (ownsRow_setCell_below (a := ⟨w.heap.size + 2, 1, none⟩) (ownsRow_setCell_below (a := ⟨w.heap.size + 2, 0, none⟩) hv5 (by have := hbc.size; show w.heap.size + 2 < _; omega) _) (by have := hbc.size; show w.heap.size + 2 < _; omega) _) (by have := hbc.size; omega)
  · have hne : (n1 == n2) = false := by rw [beq_eq_false_iff_ne]; exact hnn
    have hneg : n2 = !n1 := by cases n1 <;> cases n2 <;> simp_all
    have HNG := Lib.hid hneg
    have ho := order_ref A1 A2 L1 c1 L2 c2 m1 m2 W base1 base2 (HA1.out _ (Below.refl _ _)) (HA2.out _ (Below.refl _ _))
    by_cases hge : m2 ≤ m1
    · have r1 := rord_nonneg hge
      obtain ⟨r, hr⟩ : ∃ r, r = rord m1 m2 := ⟨_, rfl⟩
      rw [← hr] at ho r1
      have HO := Lib.hid ho
      clear hnn hneg ho hr
      go_enter Tryz.func185, Tryz.ntmps185
      go_wp2_with fail
      rw [← HW.out]
      clear HW
      ((with_reducible refine HO.out.mono ?_); rintro e w4 ⟨rfl, hdr⟩)
      have hb4 := order_below hdr
      clear hdr HO
      replace y2 := y2.below hb4
      replace y3 := y3.below hb4
      replace y4 := y4.below hb4
      replace hbW := bto hbW hb4
      have hsz3 := hb4.size
      have HB1 := Lib.hid (fun (w' : World) (hb : Below w4.heap.size w4 w') => HA1.out w' (bto hb4 hb))
      have HB2 := Lib.hid (fun (w' : World) (hb : Below w4.heap.size w4 w') => HA2.out w' (bto hb4 hb))
      clear q0 q1 q2 q3
      go_wp2_with fail
      have ne1 : w.heap.size + 1 + 1 ≠ w.heap.size := by omega
      have ne2 : w.heap.size ≠ w.heap.size + 1 + 1 := by omega
      have q0 := y2.c0
      have q1 := y2.c1
      have q2 := y3.c0
      have q3 := y3.c1
      have hbc := bdr w4
      have z2 := y2.below hbc
      have z3 := y3.below hbc
      have z4 := y4.below hbc
      have q0 := z2.c0
      have q1 := z2.c1
      have q2 := z3.c0
      have q3 := z3.c1
      have q4 := z4.f0
      have q5 := z4.f1
      have q6 := z4.c0
      have q7 := z4.c1
      go_region_held3 (fun w' => w'.cell? ⟨w.heap.size, 0, none⟩ = some (.bool n1) ∧ w'.cell? ⟨w.heap.size, 1, none⟩ = some (.slice A1 L1 c1) ∧ w'.cell? ⟨w.heap.size + 1, 0, none⟩ = some (.bool n2) ∧ w'.cell? ⟨w.heap.size + 1, 1, none⟩ = some (.slice A2 L2 c2))
        (first | (dsimp only; exact ⟨q0, q1, q2, q3⟩) | go_keep)
        (first | (go_at_call 226; (with_reducible refine Calls.mono (rminus_any A1 A2 L1 c1 L2 c2 m1 m2 base1 base2 _ (HB1.out _ hbc) (HB2.out _ hbc) b1 hge) ?_); rintro e w5 ⟨v5, rfl, hv5, hb5⟩; obtain ⟨A5, c5, rfl⟩ := hv5.form; have hbc := bto hbc hb5; have z2 := y2.below hbc; have z3 := y3.below hbc; have z4 := y4.below hbc; have q0 := z2.c0; have q1 := z2.c1; have q2 := z3.c0; have q3 := z3.c1; have q4 := z4.f0; have q5 := z4.f1; have q6 := z4.c0; have q7 := z4.c1))
      go_wp2
      have hy := z4.set (.bool n1) (.slice A5 (grp (m1 - m2)).length c5)
      have d0 := hy.c0
      have d1 := hy.c1
      refine bodyPost_ret (v := .agg #[.bool n1, .slice A5 (grp (m1 - m2)).length c5]) (by simp [results, Tryz.results185, go_sem, d0, d1]) rfl ?_
      refine ⟨n1, _, m1 - m2, rfl, ?_, ⟨by rw [HNG.out]; unfold sv; cases n1 <;> simp <;> omega, by omega⟩, below_set2 (bto hbW hbc) (by omega) _ _⟩
      have hds : (World.drew w4).heap.size = w4.heap.size := rfl
      exact own_base (ownsRow_setCell_below (a := ⟨w.heap.size + 2, 1, none⟩) (ownsRow_setCell_below (a := ⟨w.heap.size + 2, 0, none⟩) hv5 (by have := hbc.size; show w.heap.size + 2 < _; omega) _) (by have := hbc.size; show w.heap.size + 2 < _; omega) _) (by have := hbc.size; omega)
    · have r1 := rord_neg (Nat.not_le.1 hge)
      obtain ⟨r, hr⟩ : ∃ r, r = rord m1 m2 := ⟨_, rfl⟩
      rw [← hr] at ho r1
      have HO := Lib.hid ho
      clear hnn hneg ho hr
      go_enter Tryz.func185, Tryz.ntmps185
      go_wp2_with fail
      rw [← HW.out]
      clear HW
      ((with_reducible refine HO.out.mono ?_); rintro e w4 ⟨rfl, hdr⟩)
      have hb4 := order_below hdr
      clear hdr HO
      replace y2 := y2.below hb4
      replace y3 := y3.below hb4
      replace y4 := y4.below hb4
      replace hbW := bto hbW hb4
      have hsz3 := hb4.size
      have HB1 := Lib.hid (fun (w' : World) (hb : Below w4.heap.size w4 w') => HA1.out w' (bto hb4 hb))
      have HB2 := Lib.hid (fun (w' : World) (hb : Below w4.heap.size w4 w') => HA2.out w' (bto hb4 hb))
      clear q0 q1 q2 q3
      go_wp2_with fail
      have ne1 : w.heap.size + 1 + 1 ≠ w.heap.size := by omega
      have ne2 : w.heap.size ≠ w.heap.size + 1 + 1 := by omega
      have q0 := y2.c0
      have q1 := y2.c1
      have q2 := y3.c0
      have q3 := y3.c1
      have hbc := bdr w4
      have z2 := y2.below hbc
      have z3 := y3.below hbc
      have z4 := y4.below hbc
      have q0 := z2.c0
      have q1 := z2.c1
      have q2 := z3.c0
      have q3 := z3.c1
      have q4 := z4.f0
      have q5 := z4.f1
      have q6 := z4.c0
      have q7 := z4.c1
      go_region_held3 (fun w' => w'.cell? ⟨w.heap.size, 0, none⟩ = some (.bool n1) ∧ w'.cell? ⟨w.heap.size, 1, none⟩ = some (.slice A1 L1 c1) ∧ w'.cell? ⟨w.heap.size + 1, 0, none⟩ = some (.bool n2) ∧ w'.cell? ⟨w.heap.size + 1, 1, none⟩ = some (.slice A2 L2 c2))
        (first | (dsimp only; exact ⟨q0, q1, q2, q3⟩) | go_keep)
        (first | (go_at_call 226; (with_reducible refine Calls.mono (rminus_any A2 A1 L2 c2 L1 c1 m2 m1 base2 base1 _ (HB2.out _ hbc) (HB1.out _ hbc) b2 (by omega)) ?_); rintro e w5 ⟨v5, rfl, hv5, hb5⟩; obtain ⟨A5, c5, rfl⟩ := hv5.form; have hbc := bto hbc hb5; have z2 := y2.below hbc; have z3 := y3.below hbc; have z4 := y4.below hbc; have q0 := z2.c0; have q1 := z2.c1; have q2 := z3.c0; have q3 := z3.c1; have q4 := z4.f0; have q5 := z4.f1; have q6 := z4.c0; have q7 := z4.c1))
      go_wp2
      have hy := z4.set (.bool n2) (.slice A5 (grp (m2 - m1)).length c5)
      have d0 := hy.c0
      have d1 := hy.c1
      refine bodyPost_ret (v := .agg #[.bool n2, .slice A5 (grp (m2 - m1)).length c5]) (by simp [results, Tryz.results185, go_sem, d0, d1]) rfl ?_
      refine ⟨n2, _, m2 - m1, rfl, ?_, ⟨by rw [HNG.out]; unfold sv; cases n1 <;> simp <;> omega, by omega⟩, below_set2 (bto hbW hbc) (by omega) _ _⟩
      have hds : (World.drew w4).heap.size = w4.heap.size := rfl
      exact own_base (ownsRow_setCell_below (a := ⟨w.heap.size + 2, 1, none⟩) (ownsRow_setCell_below (a := ⟨w.heap.size + 2, 0, none⟩) hv5 (by have := hbc.size; show w.heap.size + 2 < _; omega) _) (by have := hbc.size; show w.heap.size + 2 < _; omega) _) (by have := hbc.size; omega)
end Go.Proofs.YtgnppdkeiihlfaaGreatDoor
/- trancheref01: Add, Sub, Mul. -/
namespace Go.Proofs.YtgnppdkeiihlfaaGreatDoor
open Go.RowKit Num
theorem sv_val (l : List UInt8) : sv (negB l) (val l).natAbs = val l := by
  have h := val_digs l
  have n1 : nat (digs l) = (val l).natAbs := by rw [digs_dec, nat_dec]
  unfold sv
  rw [n1] at h
  exact h.symm
theorem rwrite_sv (neg : Bool) (v : Value) (m base : Nat) (w : World) (h : JMag w base v m) (hm : (grp m).length ≤ 10000) :
    Calls Tryz.prog 184 #[.agg #[.bool neg, v]] w fun e w' => e = .returned (.string ⟨(canon (sv neg m)).toArray⟩) ∧ Below w.heap.size w w' := rwrite_any neg v m base w h hm
theorem val_grp_len {l : List UInt8} {k : Nat} (h : l.length ≤ k) : (grp (val l).natAbs).length ≤ k := by
  refine grp_len_le _ _ ?_
  refine Nat.lt_of_lt_of_le (val_lt_of h) ?_
  exact Nat.pow_le_pow_left (by decide) k
theorem short_bound {l : List UInt8} (h : (digs l).length ≤ 17) : -100000000000000000 < val l ∧ val l < 100000000000000000 := by
  have h1 := nat_lt (digs l) (digs_all l)
  have h2 : 10 ^ (digs l).length ≤ 10 ^ 17 := Nat.pow_le_pow_right (by decide) h
  have h3 := val_digs l
  have h4 : (10 : Nat) ^ 17 = 100000000000000000 := by decide
  split at h3 <;> omega
set_option maxHeartbeats 2000000 in
set_option maxRecDepth 100000 in
theorem raddp_short (l l' : List UInt8) (w : World) (hl : l.length ≤ 4000) (hl' : l'.length ≤ 4000) (h1 : (digs l).length ≤ 17) (h2 : (digs l').length ≤ 17) :
    Calls Tryz.prog 123 #[.string ⟨l.toArray⟩, .string ⟨l'.toArray⟩] w fun e w' => e = .returned (.string ⟨(canon (val l + val l')).toArray⟩) ∧ Below w.heap.size w w' := by
  have a1 := fun w => rshort_yes l w (Nat.le_trans hl (by decide)) h1
  have a2 := fun w => rshort_yes l' w (Nat.le_trans hl' (by decide)) h2
  obtain ⟨b1, b2⟩ := short_bound h1
  obtain ⟨b3, b4⟩ := short_bound h2
  have a3 := fun w => rof_any (val l + val l') w (by omega) (by omega)
  generalize val l = x at *
  generalize val l' = y at *
  have H1 := Lib.hid a1
  have H2 := Lib.hid a2
  have H3 := Lib.hid a3
  clear a1 a2 a3 h1 h2
  go_enter Tryz.func123, Tryz.ntmps123
  go_wp2_with fail
  ((with_reducible refine (H1.out _).mono ?_); rintro e w' ⟨rfl, rfl⟩)
  go_wp2_with fail
  ((with_reducible refine (H2.out _).mono ?_); rintro e w' ⟨rfl, rfl⟩)
  go_wp2_with fail
  ((with_reducible refine (H3.out _).mono ?_); rintro e w' ⟨rfl, rfl⟩)
  go_wp2
  go_ret
  exact ⟨rfl, Below.refl _ _⟩
def shortB (l : List UInt8) : Bool := decide ((digs l).length ≤ 17)
def shortZ (l : List UInt8) : Int := if (digs l).length ≤ 17 then val l else 0
theorem rshort_any (l : List UInt8) (w : World) (hl : l.length ≤ 1000000) :
    Calls Tryz.prog 182 #[.string ⟨l.toArray⟩] w fun e w' => e = .returned (.tuple #[.int .i64 (shortZ l), .bool (shortB l)]) ∧ w = w' := by
  unfold shortZ shortB
  by_cases h : (digs l).length ≤ 17
  · rw [if_pos h, decide_eq_true h]; exact rshort_yes l w hl h
  · rw [if_neg h, decide_eq_false h]; exact rshort_no l w hl h
set_option maxHeartbeats 2000000 in
set_option maxRecDepth 100000 in
theorem raddp_long (l l' : List UInt8) (w : World) (hl : l.length ≤ 4000) (hl' : l'.length ≤ 4000) (h : (shortB l && shortB l') = false) :
    Calls Tryz.prog 123 #[.string ⟨l.toArray⟩, .string ⟨l'.toArray⟩] w fun e w' => e = .returned (.string ⟨(canon (val l + val l')).toArray⟩) ∧ Below w.heap.size w w' := by
  have a1 := fun w => rshort_any l w (Nat.le_trans hl (by decide))
  have a2 := fun w => rshort_any l' w (Nat.le_trans hl' (by decide))
  have a3 := fun w => rread_any l w (Nat.le_trans hl (by decide))
  have a4 := fun w => rread_any l' w (Nat.le_trans hl' (by decide))
  have g1 := val_grp_len hl
  have g2 := val_grp_len hl'
  have s1 := sv_val l
  have s2 := sv_val l'
  rw [← s1, ← s2]
  generalize (val l).natAbs = m1 at *
  generalize (val l').natAbs = m2 at *
  generalize negB l = n1 at *
  generalize negB l' = n2 at *
  generalize shortB l = b1 at *
  generalize shortB l' = b2 at *
  generalize shortZ l = z1 at *
  generalize shortZ l' = z2 at *
  have H1 := Lib.hid a1
  have H2 := Lib.hid a2
  have H3 := Lib.hid a3
  have H4 := Lib.hid a4
  clear a1 a2 a3 a4 s1 s2
  cases b1 <;> cases b2
  case true.true => cases h
  all_goals
    clear h
    go_enter Tryz.func123, Tryz.ntmps123
    go_wp2_with fail
    ((with_reducible refine (H1.out _).mono ?_); rintro e w' ⟨rfl, rfl⟩)
    go_wp2_with fail
    ((with_reducible refine (H2.out _).mono ?_); rintro e w' ⟨rfl, rfl⟩)
    go_wp2_with fail
    ((with_reducible refine (H3.out _).mono ?_); rintro e w1 ⟨v1, rfl, j1, hb1⟩)
    go_wp2_with fail
    ((with_reducible refine (H4.out _).mono ?_); rintro e w2 ⟨v2, rfl, j2, hb2⟩)
    have hb12 := bto hb1 hb2
    go_wp2_with fail
    ((with_reducible refine (radd_any n1 n2 v1 v2 m1 m2 _ _ _ (j1.below hb2) j2 (by omega) (by omega)).mono ?_); rintro e w3 ⟨ng, v3, m3, rfl, j3, ⟨e3, l3⟩, hb3⟩)
    have hb13 := bto hb12 hb3
    have g3 : (grp m3).length ≤ 10000 := by
      have h5 := grp_len_mono _ _ l3
      have h6 := grp_len_add m1 m2
      omega
    have HE3 := Lib.hid e3
    clear e3 l3
    go_wp2_with fail
    ((with_reducible refine (rwrite_sv ng v3 m3 _ _ j3 g3).mono ?_); rintro e w4 ⟨rfl, hb4⟩)
    go_wp2
    go_ret
    exact ⟨by rw [← HE3.out]; rfl, bto hb13 hb4⟩
section
variable {l l' : List UInt8}
theorem qAdd (hl : l.length ≤ 4000) (hl' : l'.length ≤ 4000) {z : Int} (e : val l + val l' = z) : Ret 123 #[.string ⟨l.toArray⟩, .string ⟨l'.toArray⟩] (.string ⟨(canon z).toArray⟩) := fun w _ => by
  subst e
  by_cases h : (shortB l && shortB l') = true
  · rw [Bool.and_eq_true] at h
    exact raddp_short l l' w hl hl' (of_decide_eq_true h.1) (of_decide_eq_true h.2)
  · exact raddp_long l l' w hl hl' (by simpa using h)
theorem qNeg (hl : l.length ≤ 1000000) {z : Int} (e : -val l = z) : Ret 90 #[.string ⟨l.toArray⟩] (.string ⟨(canon z).toArray⟩) := fun w _ => by
  subst e; exact (rneg_any l w hl).mono fun e w' ⟨h, k⟩ => ⟨h, by subst k; exact Below.refl _ _⟩
end
end Go.Proofs.YtgnppdkeiihlfaaGreatDoor
/- trancheref01: Sub, Mul. -/
namespace Go.Proofs.YtgnppdkeiihlfaaGreatDoor
open Go.RowKit Num
set_option maxHeartbeats 2000000 in
set_option maxRecDepth 100000 in
theorem rmulp_short (l l' : List UInt8) (w : World) (hl : l.length ≤ 4000) (hl' : l'.length ≤ 4000) (h1 : (digs l).length ≤ 17) (h2 : (digs l').length ≤ 17) (b1 : val l < 1000000000) (b2 : -1000000000 < val l) (b3 : val l' < 1000000000) (b4 : -1000000000 < val l') :
    Calls Tryz.prog 149 #[.string ⟨l.toArray⟩, .string ⟨l'.toArray⟩] w fun e w' => e = .returned (.string ⟨(canon (val l * val l')).toArray⟩) ∧ Below w.heap.size w w' := by
  have a1 := fun w => rshort_yes l w (Nat.le_trans hl (by decide)) h1
  have a2 := fun w => rshort_yes l' w (Nat.le_trans hl' (by decide)) h2
  have hbd : (val l * val l').natAbs ≤ 999999999 * 999999999 := by rw [Int.natAbs_mul]; exact Nat.mul_le_mul (by omega) (by omega)
  have a3 := fun w => rof_any (val l * val l') w (by omega) (by omega)
  obtain ⟨p, hp⟩ : ∃ p, val l * val l' = p := ⟨_, rfl⟩
  rw [hp] at a3 hbd ⊢
  have hw : IntKind.i64.wrap p = p := IntWalk.i64_in p (by omega)
  generalize val l = x at *
  generalize val l' = y at *
  have H1 := Lib.hid a1
  have H2 := Lib.hid a2
  have H3 := Lib.hid a3
  have d1 : decide (x < 1000000000) = true := decide_eq_true b1
  have d2 : decide (-1000000000 < x) = true := decide_eq_true b2
  have d3 : decide (y < 1000000000) = true := decide_eq_true b3
  have d4 : decide (-1000000000 < y) = true := decide_eq_true b4
  clear a1 a2 a3 h1 h2 hbd
  go_enter Tryz.func149, Tryz.ntmps149
  go_wp2_with fail
  ((with_reducible refine (H1.out _).mono ?_); rintro e w' ⟨rfl, rfl⟩)
  go_wp2_with fail
  ((with_reducible refine (H2.out _).mono ?_); rintro e w' ⟨rfl, rfl⟩)
  go_wp2_with fail
  ((with_reducible refine (H3.out _).mono ?_); rintro e w' ⟨rfl, rfl⟩)
  go_wp2
  go_ret
  exact ⟨rfl, Below.refl _ _⟩
set_option maxHeartbeats 4000000 in
set_option maxRecDepth 100000 in
theorem rmulp_long (l l' : List UInt8) (w : World) (hl : l.length ≤ 4000) (hl' : l'.length ≤ 4000)
    (h : ¬ (shortB l = true ∧ shortB l' = true ∧ shortZ l < 1000000000 ∧ -1000000000 < shortZ l ∧ shortZ l' < 1000000000 ∧ -1000000000 < shortZ l')) :
    Calls Tryz.prog 149 #[.string ⟨l.toArray⟩, .string ⟨l'.toArray⟩] w fun e w' => e = .returned (.string ⟨(canon (val l * val l')).toArray⟩) ∧ Below w.heap.size w w' := by
  have a1 := fun w => rshort_any l w (Nat.le_trans hl (by decide))
  have a2 := fun w => rshort_any l' w (Nat.le_trans hl' (by decide))
  have a3 := fun w => rread_any l w (Nat.le_trans hl (by decide))
  have a4 := fun w => rread_any l' w (Nat.le_trans hl' (by decide))
  have g1 := val_grp_len hl
  have g2 := val_grp_len hl'
  have s1 := sv_val l
  have s2 := sv_val l'
  rw [← s1, ← s2]
  generalize (val l).natAbs = m1 at *
  generalize (val l').natAbs = m2 at *
  generalize negB l = n1 at *
  generalize negB l' = n2 at *
  generalize shortB l = b1 at *
  generalize shortB l' = b2 at *
  generalize shortZ l = z1 at *
  generalize shortZ l' = z2 at *
  have H1 := Lib.hid a1
  have H2 := Lib.hid a2
  have H3 := Lib.hid a3
  have H4 := Lib.hid a4
  have hmul : ∀ b : Bool, b = (n1 != n2) → sv b (m1 * m2) = sv n1 m1 * sv n2 m2 := fun b e => by
    subst e
    unfold sv
    cases n1 <;> cases n2 <;> simp [Int.natCast_mul, Int.neg_mul, Int.mul_neg]
  have HM := Lib.hid hmul
  have g3 := grp_len_mul m1 m2
  clear a1 a2 a3 a4 s1 s2 hmul
  have hcs : b1 = false ∨ (b1 = true ∧ b2 = false) ∨ (b1 = true ∧ b2 = true ∧ decide (z1 < 1000000000) = false) ∨ (b1 = true ∧ b2 = true ∧ decide (z1 < 1000000000) = true ∧ decide (-1000000000 < z1) = false) ∨ (b1 = true ∧ b2 = true ∧ decide (z1 < 1000000000) = true ∧ decide (-1000000000 < z1) = true ∧ decide (z2 < 1000000000) = false) ∨ (b1 = true ∧ b2 = true ∧ decide (z1 < 1000000000) = true ∧ decide (-1000000000 < z1) = true ∧ decide (z2 < 1000000000) = true ∧ decide (-1000000000 < z2) = false) := by
    cases b1 <;> cases b2 <;> simp_all
    omega
  clear h
  rcases hcs with rfl | ⟨rfl, rfl⟩ | ⟨rfl, rfl, d1⟩ | ⟨rfl, rfl, d1, d2⟩ | ⟨rfl, rfl, d1, d2, d3⟩ | ⟨rfl, rfl, d1, d2, d3, d4⟩
  all_goals
    go_enter Tryz.func149, Tryz.ntmps149
    go_wp2_with fail
    ((with_reducible refine (H1.out _).mono ?_); rintro e w' ⟨rfl, rfl⟩)
    go_wp2_with fail
    ((with_reducible refine (H2.out _).mono ?_); rintro e w' ⟨rfl, rfl⟩)
    go_wp2_with fail
    ((with_reducible refine (H3.out _).mono ?_); rintro e w1 ⟨v1, rfl, j1, hb1⟩)
    go_wp2_with fail
    ((with_reducible refine (H4.out _).mono ?_); rintro e w2 ⟨v2, rfl, j2, hb2⟩)
    obtain ⟨A1, c1, rfl⟩ := j1.form
    obtain ⟨A2, c2, rfl⟩ := j2.form
    obtain ⟨L1, hL1⟩ : ∃ L1, L1 = (grp m1).length := ⟨_, rfl⟩
    obtain ⟨L2, hL2⟩ : ∃ L2, L2 = (grp m2).length := ⟨_, rfl⟩
    unfold JMag at j1 j2
    rw [← hL1] at j1 g1 g3 ⊢
    rw [← hL2] at j2 g2 g3 ⊢
    have y9 := (FBox.new w2 (.bool n1) (.slice A1 L1 c1) 182).below (below_alloc _ (.cells #[.bool n2, .slice A2 L2 c2] 182))
    have y10 := FBox.new (w2.alloc (.cells #[.bool n1, .slice A1 L1 c1] 182)) (.bool n2) (.slice A2 L2 c2) 182
    rw [World.size_alloc] at y10
    have hbA := bto (below_alloc w2 (.cells #[.bool n1, .slice A1 L1 c1] 182)) (below_alloc _ (.cells #[.bool n2, .slice A2 L2 c2] 182))
    have k1 := own_below (own_below j1 hb2) hbA
    have k2 := own_below j2 hbA
    have hb := bto (bto hb1 hb2) hbA
    clear j1 j2 hb1 hb2 hbA hL1 hL2
    go_wp2_with fail
    obtain ⟨W, hW⟩ : ∃ W, W = (w2.alloc (.cells #[.bool n1, .slice A1 L1 c1] 182)).alloc (.cells #[.bool n2, .slice A2 L2 c2] 182) := ⟨_, rfl⟩
    rw [← hW] at y9 y10 k1 k2 hb ⊢
    clear hW
    have K1 := Lib.hid k1
    have K2 := Lib.hid k2
    clear k1 k2
    have hbc := bdr W
    have z9 := y9.below hbc
    have z10 := y10.below hbc
    have q0 := z9.c0
    have q1 := z9.c1
    have q2 := z10.c0
    have q3 := z10.c1
    go_region_held3 (fun w' => w'.cell? ⟨w2.heap.size, 0, none⟩ = some (.bool n1) ∧ w'.cell? ⟨w2.heap.size, 1, none⟩ = some (.slice A1 L1 c1) ∧ w'.cell? ⟨w2.heap.size + 1, 0, none⟩ = some (.bool n2) ∧ w'.cell? ⟨w2.heap.size + 1, 1, none⟩ = some (.slice A2 L2 c2))
      (first | (dsimp only; exact ⟨q0, q1, q2, q3⟩) | go_keep)
      (first
        | (go_at_call 210; (with_reducible refine Calls.mono (rtimes_any A1 A2 L1 c1 L2 c2 m1 m2 _ _ _ (own_below K1.out hbc) (own_below K2.out hbc) (by omega) (by omega)) ?_); rintro e w5 ⟨v5, rfl, hv5, hb5⟩; obtain ⟨A5, c5, rfl⟩ := hv5.form; have hbc := bto hbc hb5; have z9 := y9.below hbc; have z10 := y10.below hbc; have q0 := z9.c0; have q1 := z9.c1; have q2 := z10.c0; have q3 := z10.c1)
        | (go_at_call 184; (with_reducible refine Calls.mono (rwrite_sv _ _ (m1 * m2) _ _ hv5 (by omega)) ?_); rintro e w6 ⟨rfl, hb6⟩; have hbc := bto hbc hb6; have z9 := y9.below hbc; have z10 := y10.below hbc; have q0 := z9.c0; have q1 := z9.c1; have q2 := z10.c0; have q3 := z10.c1))
    go_wp2
    go_ret
    exact ⟨by rw [← HM.out _ rfl]; rfl, bto hb hbc⟩
section
variable {l l' : List UInt8}
theorem qMul (hl : l.length ≤ 4000) (hl' : l'.length ≤ 4000) {z : Int} (e : val l * val l' = z) : Ret 149 #[.string ⟨l.toArray⟩, .string ⟨l'.toArray⟩] (.string ⟨(canon z).toArray⟩) := fun w _ => by
  subst e
  by_cases h : shortB l = true ∧ shortB l' = true ∧ shortZ l < 1000000000 ∧ -1000000000 < shortZ l ∧ shortZ l' < 1000000000 ∧ -1000000000 < shortZ l'
  · obtain ⟨h1, h2, h3, h4, h5, h6⟩ := h
    have d1 := of_decide_eq_true h1
    have d2 := of_decide_eq_true h2
    unfold shortZ at h3 h4 h5 h6
    rw [if_pos d1] at h3 h4
    rw [if_pos d2] at h5 h6
    exact rmulp_short l l' w hl hl' d1 d2 h3 h4 h5 h6
  · exact rmulp_long l l' w hl hl' h
end
end Go.Proofs.YtgnppdkeiihlfaaGreatDoor
/- trancheref01: divide. -/
namespace Go.Proofs.YtgnppdkeiihlfaaGreatDoor
open Go.RowKit Num
def LongAt (l Q : List Nat) (k r b : Nat) : Prop := Q.length = l.length ∧ small Q ∧ r < b ∧ gv (l.drop k) = gv (Q.drop k) * b + r
theorem LongAt.step {l Q : List Nat} {i r b x : Nat} (h : LongAt l Q (i + 1) r b) (hx : l[i]? = some x) (hxb : x < BASE) :
    LongAt l (Q.set i ((x + BASE * r) / b)) i ((x + BASE * r) % b) b ∧ (x + BASE * r) / b < BASE := by
  obtain ⟨h1, h2, h3, h4⟩ := h
  obtain ⟨hi, rfl⟩ := List.getElem?_eq_some_iff.1 hx
  have hlt : (l[i] + BASE * r) / b < BASE := by
    apply Nat.div_lt_of_lt_mul
    have : BASE * (r + 1) ≤ BASE * b := Nat.mul_le_mul_left _ h3
    rw [Nat.mul_add, Nat.mul_one] at this
    rw [Nat.mul_comm b BASE]
    omega
  refine ⟨⟨by simp [h1], small_set h2 hlt, Nat.mod_lt _ (by omega), ?_⟩, hlt⟩
  have hq : i < (Q.set i ((l[i] + BASE * r) / b)).length := by simp; omega
  have e1 : (Q.set i ((l[i] + BASE * r) / b)).drop (i + 1) = Q.drop (i + 1) := List.drop_set_of_lt (by omega)
  rw [gv_drop l i hi, gv_drop _ i hq, h4, e1, List.getElem_set_self, Nat.add_mul]
  have h5 := Nat.div_add_mod (l[i] + BASE * r) b
  rw [Nat.mul_comm b] at h5
  rw [Nat.mul_add, ← Nat.mul_assoc]
  generalize (l[i] + BASE * r) / b = q at *
  omega
theorem LongAt.fin {l Q : List Nat} {r b a : Nat} (h : LongAt l Q 0 r b) (ha : gv l = a) : gv Q = a / b ∧ r = a % b := by
  obtain ⟨h1, h2, h3, h4⟩ := h
  rw [List.drop_zero, List.drop_zero, ha] at h4
  constructor
  · rw [h4, Nat.add_comm, Nat.add_mul_div_right _ _ (by omega), Nat.div_eq_of_lt h3, Nat.zero_add]
  · rw [h4, Nat.add_comm, Nat.add_mul_mod_self_right, Nat.mod_eq_of_lt h3]
theorem grp_one {m : Nat} (h : 0 < m) (h' : m < BASE) : grp m = [m] := by
  have := cutZ_eq [m] (fun x hx => by simp at hx; omega)
  rw [show gv [m] = m by simp [gv]] at this
  rw [← this]
  exact cutZ_snoc [] m (by omega)
theorem one_mag {w w' : World} {m : Nat} (hw : w' = w.alloc (.cells #[.int .i64 (m : Int)] 3)) (h : 0 < m) (h' : m < BASE) : w'.ownsRow w.heap.size 3 1 (.slice (some ⟨w.heap.size, 0, none⟩) 1 1) 1 (J (grp m)) := by
  subst hw
  have hr : JRow (w.alloc (.cells #[.int .i64 (m : Int)] 3)) w.heap.size [m] := heap_alloc_new w _
  have := hr.own (base := w.heap.size) (n := 1) (Nat.le_refl _) (by simp) (by simp [maxLen])
  rw [grp_one h h']
  exact this
theorem rord_le {x y : Nat} : rord x y ≤ 0 ↔ x ≤ y := by
  unfold rord; split
  · constructor <;> intro <;> omega
  · split
    · constructor <;> intro <;> omega
    · constructor <;> intro <;> omega
set_option maxHeartbeats 4000000 in
set_option maxRecDepth 100000 in
theorem rdivide_any (A A' : Option Addr) (n c n' c' a b base base' : Nat) (w : World) (h : w.ownsRow base 3 1 (.slice A n c) n (J (grp a))) (h' : w.ownsRow base' 3 1 (.slice A' n' c') n' (J (grp b)))
    (hb0 : b ≠ 0) (hn : n ≤ 4000) (hn' : n' ≤ 4000) :
    Calls Tryz.prog 280 #[.slice A n c, .slice A' n' c'] w fun e w' => ∃ v u, e = .returned (.tuple #[v, u]) ∧ JMag w' w.heap.size v (a / b) ∧ JMag w' w.heap.size u (a % b) ∧ Below w.heap.size w w' := by
  obtain ⟨i0, hi, hz0, hz1, hz2⟩ := info_parts jinfo_u64
  have hl := jown_len h
  have hl' := jown_len h'
  have hcap := jown_cap h
  have hsa := grp_small a
  have hva := gv_grp a
  obtain ⟨La, hLa⟩ : ∃ La, La = grp a := ⟨_, rfl⟩
  rw [← hLa] at h hl hsa hva
  have HL := Lib.hid hl
  have HLB := Lib.hid hl'
  have HSA := Lib.hid hsa
  have HVA := Lib.hid hva
  have HA := Lib.hid h
  have HB := Lib.hid h'
  obtain ⟨hc1, hc2⟩ := hcap
  unfold maxLen at hc2
  have hD0 : LongAt La (List.replicate n 0) n 0 b := ⟨by simp [hl], fun x hx => by have := List.eq_of_mem_replicate hx; subst this; decide, by omega, by rw [List.drop_of_length_le (by omega), List.drop_of_length_le (by simp)]; simp [gv]⟩
  have HD0 := Lib.hid hD0
  have hmk := fun W => jmake_u64 180 Tryz.underlying180 n n (n : Int) rfl (Nat.le_refl _) (by omega) W
  have HR0 := Lib.hid ((jzrow_row w n).alloc (.cells #[] 3))
  have hbq := bto (below_alloc w (jzrow n)) (below_alloc _ (.cells #[] 3))
  have hr0 : JRow ((w.alloc (jzrow n)).alloc (.cells #[] 3)) (w.heap.size + 1) [] := by
    have := heap_alloc_new (w.alloc (jzrow n)) (.cells #[] 3)
    rw [World.size_alloc] at this
    exact this
  have HO : Hid (JMag ((w.alloc (jzrow n)).alloc (.cells #[] 3)) (w.heap.size + 1) (.slice (some ⟨w.heap.size + 1, 0, none⟩) (grp 0).length 0) 0) := by
    have := hr0.own (base := w.heap.size + 1) (n := 0) (Nat.le_refl _) (Nat.zero_le _) (by simp [maxLen])
    exact this
  clear hl hl' hsa hva hLa h h' hD0 hr0
  go_enter Tryz.func280, Tryz.ntmps280
  go_wp2_with fail
  clear hmk
  go_loopw [7, 8] (fun rv iv wr => ∃ (k r g2 c2 L2 : Nat) (Q : List Nat), rv = .slice (some ⟨g2, 0, none⟩) L2 c2 ∧ iv = .int .i64 ((k : Int) - 1) ∧ k ≤ n ∧ Hid (L2 = (grp r).length) ∧ L2 ≤ 4000 ∧ JMag wr (w.heap.size + 1) (.slice (some ⟨g2, 0, none⟩) L2 c2) r ∧ JRow wr w.heap.size Q ∧ Hid (LongAt La Q k r b) ∧ Below w.heap.size w wr ∧ w.heap.size + 1 ≤ wr.heap.size) (fun _ iv _ => (intOf iv + 1).toNat)
  case atStart => exact ⟨n, 0, _, _, 0, _, rfl, rfl, Nat.le_refl _, rfl, by omega, HO, HR0.out, HD0, hbq, by simp⟩
  case round =>
    obtain ⟨k, r, g2, c2, L2, Q, rfl, rfl, hk, HL2, hL2, hrest, hrow, HD, hbw, hws⟩ := hrel
    clear HO HR0 HD0 hbq
    by_cases hk0 : k = 0
    · subst hk0
      have hf := HD.out.fin HVA.out
      have hrl : Q.length = n := by rw [HD.out.1, HL.out]
      have hown := hrow.own (base := w.heap.size) (n := Q.length) (Nat.le_refl _) (Nat.le_refl _) (by unfold maxLen; omega)
      rw [List.take_length] at hown
      have HF := Lib.hid (jmag_cut hown HD.out.2.1 hf.1)
      have ht := trim_ref _ _ _ Q wr w.heap.size hown
      rw [hrl] at ht HF
      have HT := Lib.hid ht
      have HU : Hid (JMag wr w.heap.size (.slice (some ⟨g2, 0, none⟩) L2 c2) (a % b)) := by rw [← hf.2]; exact hrest.base (by omega)
      clear hf hrl hown ht hrow hrest HL2
      go_wp2_with (go_at_call 257; refine HT.out.mono ?_; rintro e w' ⟨rfl, rfl⟩)
      go_ret2
      exact ⟨_, _, rfl, HF.out, HU.out, hbw⟩
    · obtain ⟨j, rfl⟩ : ∃ j, k = j + 1 := ⟨k - 1, by omega⟩
      obtain ⟨g, x, rfl, hx, hg, hgl, hcell, hfr⟩ := jown_at HA.out (k := j) (by omega)
      have hcell := (hbw.cell (p := ⟨g, j, none⟩) hgl).trans hcell
      have hxs := HSA.out x (List.mem_of_getElem? hx)
      have hst := HD.out.step hx hxs
      have hrb := HD.out.2.2.1
      have HX := Lib.hid hx
      have HST := Lib.hid hst
      have HRB := Lib.hid hrb
      have hgl2 := HL2.out
      have hrest' := hrest
      unfold JMag at hrest'
      rw [← hgl2] at hrest'
      have hrA := own_below hrest' (below_alloc wr (.cells #[.int .i64 (x : Int)] 3))
      have hnews : ∀ i u, (J (grp r))[i]? = some u → (wr.alloc (.cells #[.int .i64 (x : Int)] 3)).cell? ((⟨g2, 0, none⟩ : Addr).add i) = some u := fun i u hu => by
        have hi2 : i < L2 := by have := (List.getElem?_eq_some_iff.1 hu).1; simp at this; omega
        rw [Lib.add_plain, Nat.zero_add, hrA.cellAt i (by omega)]
        exact hu
      have hdst : (wr.alloc (.cells #[.int .i64 (x : Int)] 3)).ownsRow (w.heap.size + 1) 3 1 (.slice (some ⟨wr.heap.size, 0, none⟩) 1 1) 1 (J [x]) := by
        have hr : JRow (wr.alloc (.cells #[.int .i64 (x : Int)] 3)) wr.heap.size [x] := heap_alloc_new wr _
        exact hr.own (base := w.heap.size + 1) (n := 1) hws (by simp) (by simp [maxLen])
      have hJl : (J (grp r)).length = L2 * 1 := by simp; omega
      have HNW := Lib.hid hnews
      have HDS := Lib.hid hdst
      have HJL := Lib.hid hJl
      clear hx hst hrb hgl2 hrest' hrA hnews hdst hJl hg hfr
      go_wp2_with (at_builtin; refine wpList_append_own _ rfl _ _ 180 rfl (w.heap.size + 1) 3 i0 (.int .i64 0) 1 8 Tryz.underlying180 hi hz0 hz1 hz2 rfl (by decide) _ _ _ rfl HDS.out ⟨g2, 0, none⟩ L2 c2 (J (grp r)) rfl HJL.out HNW.out ?c2 ?c3 ?c4 ?c5 ?_)
      case c2 => exact JU_one _
      case c3 => unfold maxLen; omega
      case c4 => omega
      case c5 => first | omega | (simp; omega)
      intro v' w3 hown' hgrow hnil
      have hb3' : Below (w.heap.size + 1) wr w3 := ((Below.refl _ wr).alloc hws _).grown hgrow (by simp; omega) (own_block_ge HDS.out)
      have hb3 : Below w.heap.size w w3 := hbw.trans (hb3'.mono (by omega))
      have hrow3 : JRow w3 w.heap.size Q := (hb3'.block w.heap.size (by omega)).trans hrow
      have hs3 := hb3'.size
      obtain ⟨g4, c4, rfl⟩ := own_some hown' hnil
      obtain ⟨O, hO⟩ : ∃ O, O = x :: grp r := ⟨_, rfl⟩
      have hOl : O.length = 1 + L2 := by rw [hO, List.length_cons, ← HL2.out]; omega
      have hOs : small O := by
        rw [hO]
        intro y hy
        rcases List.mem_cons.1 hy with hy | hy
        · rw [hy]; exact hxs
        · exact grp_small r y hy
      obtain ⟨R, hR⟩ : ∃ R, R = x + BASE * r := ⟨_, rfl⟩
      have hOv : gv O = R := by rw [hO, hR]; simp only [gv]; rw [gv_grp]
      have hown4 : w3.ownsRow (w.heap.size + 1) 3 1 (.slice (some ⟨g4, 0, none⟩) O.length c4) O.length (J O) := by rw [hOl, hO]; exact hown'
      have ht := trim_ref _ _ _ O w3 (w.heap.size + 1) hown4
      have hj4 := jmag_cut hown4 hOs hOv
      have hcl : (cutZ O).length = (grp R).length := by rw [cutZ_eq O hOs, hOv]
      obtain ⟨L4, hL4⟩ : ∃ L4, L4 = (cutZ O).length := ⟨_, rfl⟩
      rw [← hL4] at ht hj4 hcl
      rw [hOl] at ht
      have hL4b : L4 ≤ 4001 := by rw [hL4, cutZ_take O, List.length_take]; omega
      have hst := HST.out
      rw [← hR] at hst
      obtain ⟨q, hq⟩ : ∃ q, q = R / b := ⟨_, rfl⟩
      rw [← hq] at hst
      obtain ⟨hst1, hst2⟩ := hst
      have hq9 : q ≤ 999999999 := by have e : BASE = 1000000000 := rfl; omega
      have HT := Lib.hid ht
      have HQ := Lib.hid hq
      have HJ4 := Lib.hid hj4
      have HCL := Lib.hid hcl
      have HS1 := Lib.hid hst1
      have HR3 := Lib.hid hrow3
      have hmod : R % b = R - b * q := by rw [hq]; have := Nat.div_add_mod R b; omega
      have HMOD := Lib.hid hmod
      have hbq : b * q ≤ R := by rw [hq]; exact Nat.mul_div_le R b
      clear ht hq hj4 hcl hst1 hst2 hrow3 hown4 hown' hgrow hnil hO hOl hOs hOv hL4 hR HST HDS HNW HJL hrest hrow HD hmod hcell hxs HX HL2 hb3' HRB
      go_wp2_with (go_at_call 257; refine HT.out.mono ?_; rintro e w' ⟨rfl, rfl⟩)
      go_loopw [9, 10] (fun lv hv wr => ∃ lo hi' : Nat, lv = .int .i64 (lo : Int) ∧ hv = .int .i64 (hi' : Int) ∧ lo ≤ q ∧ q ≤ hi' ∧ hi' ≤ 999999999 ∧ Below w3.heap.size w3 wr) (fun lv hv _ => (intOf hv - intOf lv).toNat)
      case atStart => exact ⟨0, 999999999, rfl, rfl, by omega, hq9, by omega, Below.refl _ _⟩
      case round =>
        obtain ⟨lo, hi', rfl, rfl, hlo, hhi, hhi9, hbi⟩ := hrel
        by_cases hlt : lo < hi'
        · obtain ⟨m, hm⟩ : ∃ m, m = (lo + hi' + 1) / 2 := ⟨_, rfl⟩
          have hm0 : 0 < m := by omega
          have hmB : m < BASE := by have e : BASE = 1000000000 := rfl; omega
          have hm1 : lo < m := by omega
          have hm2 : m ≤ hi' := by omega
          have hmi : ((lo : Int) + (hi' : Int) + 1) / 2 = (m : Int) := by omega
          have HMI := Lib.hid hmi
          have HMB := Lib.hid hmB
          have hle : b * m ≤ R ↔ m ≤ q := by rw [HQ.out, Nat.le_div_iff_mul_le (by omega), Nat.mul_comm]
          have HLE := Lib.hid hle
          clear hm hmi hmB hle
          go_wp2_with fail
          rw [HMI.out]
          have hbx := bto (bto hb3 hbi) (below_alloc wr (.cells #[.int .i64 (m : Int)] 3))
          ((with_reducible refine (rtimes_any A' _ n' c' 1 1 b m base' _ _ (own_below HB.out hbx) (one_mag rfl hm0 HMB.out) (by omega) (by omega)).mono ?_); rintro e w5 ⟨v5, rfl, j5, hb5⟩)
          obtain ⟨A5, c5, rfl⟩ := j5.form
          have hbi5 := bto (bto hbi (below_alloc wr (.cells #[.int .i64 (m : Int)] 3))) hb5
          have j4 := HJ4.out.below hbi5
          unfold JMag at j4 j5
          rw [← HCL.out] at j4
          have ho := order_ref A5 _ _ c5 L4 c4 (b * m) R w5 _ _ j5 j4
          have HO2 := Lib.hid ho
          clear ho j4 j5 hbx
          go_wp2_with fail
          ((with_reducible refine HO2.out.mono ?_); rintro e w6 ⟨rfl, hdr⟩)
          have hbi6 := bto hbi5 (order_below hdr)
          clear hdr HO2 hbi5 hb5 hbi
          by_cases hc : b * m ≤ R
          · have r1 : rord (b * m) R ≤ 0 := rord_le.2 hc
            have r2 := HLE.out.1 hc
            generalize rord (b * m) R = rr at *
            go_wp2
            go_roundw
            case rel => exact ⟨m, hi', rfl, rfl, r2, hhi, hhi9, hbi6⟩
            case measure => simp [intOf]; omega
          · have r1 : 0 < rord (b * m) R := Int.not_le.1 (fun e => hc (rord_le.1 e))
            have r2 : ¬ m ≤ q := fun e => hc (HLE.out.2 e)
            generalize rord (b * m) R = rr at *
            go_wp2
            go_roundw
            case rel => exact ⟨lo, m - 1, rfl, by first | rfl | (congr 1; omega), hlo, by omega, by omega, hbi6⟩
            case measure => simp [intOf]; omega
        · obtain rfl : q = lo := by omega
          have hrowi := HR3.out.below hbi
          have hfz := hrowi.frozen j
          have hQl : j < Q.length := by have := HS1.out.1; simp at this; rw [this, HL.out]; omega
          have hce := hrowi.cell (List.getElem?_eq_getElem hQl)
          have hset := hrowi.setI j q rfl
          have j4 := HJ4.out.below hbi
          unfold JMag at j4
          rw [← HCL.out] at j4
          have j4s := ownsRow_setCell_below (a := ⟨w.heap.size, j, none⟩) j4 (Nat.lt_succ_self _) (.int .i64 (q : Int))
          have hbs := below_set1 (bto hb3 hbi) (Nat.le_refl w.heap.size) j (.int .i64 (q : Int))
          have hsz : w.heap.size + 1 ≤ (wr.setCell ⟨w.heap.size, j, none⟩ (.int .i64 (q : Int))).heap.size := by have := hbi.size; rw [World.size_setCell]; omega
          have HSET := Lib.hid hset
          have HJ4S := Lib.hid j4s
          have hrl : (grp (R % b)).length ≤ 4000 := by
            have h1 := grp_len_mono (R % b) b (Nat.le_of_lt HS1.out.2.2.1)
            have h2 := HLB.out
            omega
          have HRL := Lib.hid hrl
          clear hrl hset j4 j4s hrowi HR3 HJ4 HQ
          by_cases hq0 : q = 0
          · subst hq0
            have hm0 : R % b = R := by rw [HMOD.out]; simp
            have HM0 := Lib.hid hm0
            clear hm0
            go_wp2
            go_roundw
            case rel => exact ⟨j, R, g4, c4, L4, _, rfl, rfl, by omega, HCL, by have := HRL.out; rw [HM0.out] at this; rw [HCL.out]; exact this, by have := HJ4S.out; rw [HCL.out] at this; rw [HCL.out]; exact this, HSET.out, by have := HS1; rw [HM0.out] at this; exact this, hbs, hsz⟩
            case measure => simp [intOf]
          · have hqi : (0 : Int) < (q : Int) := by omega
            have hqB : q < BASE := by have e : BASE = 1000000000 := rfl; omega
            have HQB := Lib.hid hqB
            clear hqB
            go_wp2_with fail
            have hom := one_mag (w := wr.setCell ⟨w.heap.size, j, none⟩ (.int .i64 (q : Int))) rfl (Nat.pos_of_ne_zero hq0) HQB.out
            rw [World.size_setCell] at hom
            have hal := below_alloc (wr.setCell ⟨w.heap.size, j, none⟩ (.int .i64 (q : Int))) (.cells #[.int .i64 (q : Int)] 3)
            have ht := rtimes_any A' _ n' c' 1 1 b q base' _ _ (own_below HB.out (bto hbs hal)) hom (by omega) (by omega)
            ((with_reducible refine ht.mono ?_); rintro e w5 ⟨v5, rfl, j5, hb5⟩)
            obtain ⟨A5, c5, rfl⟩ := j5.form
            have hal5 := bto hal hb5
            have HJ5 := Lib.hid (own_below HJ4S.out hal5)
            have HSET5 := Lib.hid (HSET.out.below hal5)
            have hbs5 := bto hbs hal5
            have hsz5 := hal5.size
            have HV5 := Lib.hid j5
            clear hom ht hal hb5 hal5 HSET HJ4S j5 hbs
            go_wp2_with fail
            have hmi := rminus_some _ A5 L4 c4 _ c5 R (b * q) _ _ w5 HJ5.out HV5.out (by omega) hbq
            rw [← HMOD.out] at hmi
            ((with_reducible refine hmi.mono ?_); rintro e w6 ⟨g6, c6, rfl, j6, hb6⟩)
            have hr6 := HSET5.out.below hb6
            have hs6 := hb6.size
            have hbw6 := bto hbs5 hb6
            have j6' := j6.base (base' := w.heap.size + 1) (by omega)
            have HJ6 := Lib.hid j6'
            have HR6 := Lib.hid hr6
            clear hmi hr6 hb6 hbs5 HJ5 HV5 HSET5 j6 j6'
            obtain ⟨L6, hL6⟩ : ∃ L6, L6 = (grp (R % b)).length := ⟨_, rfl⟩
            rw [← hL6] at HJ6 HRL
            have HL6 := Lib.hid hL6
            rw [← hL6]
            clear hL6
            go_wp2
            go_roundw
            case rel => exact ⟨j, R % b, g6, c6, L6, _, rfl, rfl, by omega, HL6, HRL.out, HJ6.out, HR6.out, HS1, hbw6, by omega⟩
            case measure => simp [intOf]
end Go.Proofs.YtgnppdkeiihlfaaGreatDoor
/- trancheref01: Div, the short road. -/
namespace Go.Proofs.YtgnppdkeiihlfaaGreatDoor
open Go.RowKit Num
theorem divZ_only {m n q r : Int} (hn : n ≠ 0) (e : n * q + r = m) (h1 : 0 < n → 0 ≤ r ∧ r < n) (h2 : n < 0 → n < r ∧ r ≤ 0) : divZ m n = q ∧ modZ m n = r := by
  unfold divZ modZ
  by_cases h : 0 < n
  · rw [if_pos h, if_pos h]
    obtain ⟨k1, k2⟩ := h1 h
    exact (Int.ediv_emod_unique h).2 ⟨by omega, k1, k2⟩
  · rw [if_neg h, if_neg h]
    obtain ⟨k1, k2⟩ := h2 (by omega)
    have := (Int.ediv_emod_unique (a := -m) (b := -n) (r := -r) (q := q) (by omega)).2 ⟨by rw [Int.neg_mul]; omega, by omega, by omega⟩
    rw [this.1, this.2, Int.neg_neg]
    exact ⟨rfl, rfl⟩
theorem short_div {m n : Int} (hn : n ≠ 0) : (m.tmod n ≠ 0 ∧ (decide (m.tmod n < 0) != decide (n < 0)) = true → divZ m n = m.tdiv n - 1 ∧ modZ m n = m.tmod n + n) ∧ (¬ (m.tmod n ≠ 0 ∧ (decide (m.tmod n < 0) != decide (n < 0)) = true) → divZ m n = m.tdiv n ∧ modZ m n = m.tmod n) := by
  have e := Int.mul_tdiv_add_tmod m n
  have b := Int.natAbs_tmod m n
  have b2 := Nat.mod_lt m.natAbs (show n.natAbs > 0 by omega)
  rw [← b] at b2
  generalize m.tdiv n = q at *
  generalize m.tmod n = r at *
  constructor
  · rintro ⟨h1, h2⟩
    have h3 : ¬ (r < 0 ↔ n < 0) := fun h => by simp [h] at h2
    refine divZ_only hn (by rw [Int.mul_sub]; omega) (fun h => by omega) (fun h => by omega)
  · intro h1
    have h3 : r = 0 ∨ (r < 0 ↔ n < 0) := by
      by_cases h0 : r = 0
      · exact .inl h0
      · refine .inr ?_
        by_cases k : (r < 0 ↔ n < 0)
        · exact k
        · exact absurd ⟨h0, by rw [bne_iff_ne]; exact fun h => k (decide_eq_decide.1 h)⟩ h1
    exact divZ_only hn e (fun h => by omega) (fun h => by omega)
set_option maxHeartbeats 2000000 in
set_option maxRecDepth 100000 in
theorem rdivp_short (l l' : List UInt8) (w : World) (hl : l.length ≤ 1000000) (hl' : l'.length ≤ 1000000) (h1 : (digs l).length ≤ 17) (h2 : (digs l').length ≤ 17) (h0 : val l' ≠ 0) :
    Calls Tryz.prog 258 #[.string ⟨l.toArray⟩, .string ⟨l'.toArray⟩] w (DivEnd w (divZ (val l) (val l')) (modZ (val l) (val l'))) := by
  have a1 := fun w => rshort_yes l w hl h1
  have a2 := fun w => rshort_yes l' w hl' h2
  obtain ⟨b1, b2⟩ := short_bound h1
  obtain ⟨b3, b4⟩ := short_bound h2
  generalize val l = x at *
  generalize val l' = y at *
  have sd := short_div (m := x) h0
  have c1 : (x.tdiv y).natAbs = x.natAbs / y.natAbs := Int.natAbs_tdiv x y
  have c2 : (x.tmod y).natAbs = x.natAbs % y.natAbs := Int.natAbs_tmod x y
  have c3 := Nat.div_le_self x.natAbs y.natAbs
  have c4 := Nat.mod_lt x.natAbs (show y.natAbs > 0 by omega)
  rw [← c1] at c3
  rw [← c2] at c4
  obtain ⟨q, hq⟩ : ∃ q, x.tdiv y = q := ⟨_, rfl⟩
  obtain ⟨r, hr⟩ : ∃ r, x.tmod y = r := ⟨_, rfl⟩
  rw [hq] at sd c3
  rw [hr] at sd c4
  clear c1 c2
  have wq : IntKind.i64.wrap q = q := IntWalk.i64_in q (by omega)
  have wr : IntKind.i64.wrap r = r := IntWalk.i64_in r (by omega)
  have H1 := Lib.hid a1
  have H2 := Lib.hid a2
  have SD := Lib.hid sd
  have d0 : (y == 0) = false := by rw [beq_eq_false_iff_ne]; exact h0
  clear a1 a2 h1 h2 sd
  go_enter Tryz.func258, Tryz.ntmps258
  go_wp2_with fail
  ((with_reducible refine (H1.out _).mono ?_); rintro e w' ⟨rfl, rfl⟩)
  go_wp2_with fail
  ((with_reducible refine (H2.out _).mono ?_); rintro e w' ⟨rfl, rfl⟩)
  go_wp2_with fail
  go_region
  have hc : (r = 0) ∨ (r < 0 ∧ y < 0) ∨ (0 < r ∧ 0 < y) ∨ (r < 0 ∧ 0 < y) ∨ (0 < r ∧ y < 0) := by omega
  rcases hc with hc | hc | hc | hc | hc
  · have e := SD.out.2 (fun h => h.1 hc)
    clear SD wq wr d0 hq hr
    have HE := Lib.hid e
    clear e
    subst hc
    go_wp2_with fail
    ((with_reducible refine (rof_any q _ (by omega) (by omega)).mono ?_); rintro e w' ⟨rfl, rfl⟩)
    go_wp2_with fail
    ((with_reducible refine (rof_any 0 _ (by omega) (by omega)).mono ?_); rintro e w' ⟨rfl, rfl⟩)
    go_wp2
    go_ret3
    exact ⟨by rw [HE.out.1, HE.out.2]; rfl, bdr w⟩
  · obtain ⟨k1, k2⟩ := hc
    have e := SD.out.2 (fun h => by have := h.2; rw [decide_eq_true k1, decide_eq_true k2] at this; cases this)
    have n0 : ¬ r = 0 := by omega
    clear SD wq wr d0 hq hr
    have HE := Lib.hid e
    clear e
    go_wp2_with fail
    ((with_reducible refine (rof_any q _ (by omega) (by omega)).mono ?_); rintro e w' ⟨rfl, rfl⟩)
    go_wp2_with fail
    ((with_reducible refine (rof_any r _ (by omega) (by omega)).mono ?_); rintro e w' ⟨rfl, rfl⟩)
    go_wp2
    go_ret3
    exact ⟨by rw [HE.out.1, HE.out.2]; rfl, bdr w⟩
  · obtain ⟨k1, k2⟩ := hc
    have e := SD.out.2 (fun h => by have := h.2; rw [decide_eq_false (show ¬ r < 0 by omega), decide_eq_false (show ¬ y < 0 by omega)] at this; cases this)
    have n0 : ¬ r = 0 := by omega
    have n1 : ¬ r < 0 := by omega
    have n2 : ¬ y < 0 := by omega
    clear SD wq wr d0 hq hr
    have HE := Lib.hid e
    clear e
    go_wp2_with fail
    ((with_reducible refine (rof_any q _ (by omega) (by omega)).mono ?_); rintro e w' ⟨rfl, rfl⟩)
    go_wp2_with fail
    ((with_reducible refine (rof_any r _ (by omega) (by omega)).mono ?_); rintro e w' ⟨rfl, rfl⟩)
    go_wp2
    go_ret3
    exact ⟨by rw [HE.out.1, HE.out.2]; rfl, bdr w⟩
  · obtain ⟨k1, k2⟩ := hc
    have n0 : ¬ r = 0 := by omega
    have n2 : ¬ y < 0 := by omega
    have e := SD.out.1 ⟨n0, by rw [decide_eq_true k1, decide_eq_false n2]; rfl⟩
    clear SD wq wr d0 hq hr
    have HE := Lib.hid e
    clear e
    go_wp2_with fail
    ((with_reducible refine (rof_any (q - 1) _ (by omega) (by omega)).mono ?_); rintro e w' ⟨rfl, rfl⟩)
    go_wp2_with fail
    ((with_reducible refine (rof_any (r + y) _ (by omega) (by omega)).mono ?_); rintro e w' ⟨rfl, rfl⟩)
    go_wp2
    go_ret3
    exact ⟨by rw [HE.out.1, HE.out.2]; rfl, bdr w⟩
  · obtain ⟨k1, k2⟩ := hc
    have n0 : ¬ r = 0 := by omega
    have n1 : ¬ r < 0 := by omega
    have e := SD.out.1 ⟨n0, by rw [decide_eq_false n1, decide_eq_true k2]; rfl⟩
    clear SD wq wr d0 hq hr
    have HE := Lib.hid e
    clear e
    go_wp2_with fail
    ((with_reducible refine (rof_any (q - 1) _ (by omega) (by omega)).mono ?_); rintro e w' ⟨rfl, rfl⟩)
    go_wp2_with fail
    ((with_reducible refine (rof_any (r + y) _ (by omega) (by omega)).mono ?_); rintro e w' ⟨rfl, rfl⟩)
    go_wp2
    go_ret3
    exact ⟨by rw [HE.out.1, HE.out.2]; rfl, bdr w⟩
end Go.Proofs.YtgnppdkeiihlfaaGreatDoor
/- trancheref01: Div, the long road. -/
namespace Go.Proofs.YtgnppdkeiihlfaaGreatDoor
open Go.RowKit Num
theorem FBox.set_ne {W : World} {b c : Nat} {u v : Value} (h : FBox W b u v) (hn : b ≠ c) (x y : Value) : FBox ((W.setCell ⟨c, 0, none⟩ x).setCell ⟨c, 1, none⟩ y) b u v := by
  have c0 := h.c0; have c1 := h.c1; have f0 := h.f0; have f1 := h.f1; have lt := h.lt
  refine ⟨by simp [go_sem, c0], by simp [go_sem, c1], by simp [go_sem, f0], by simp [go_sem, f1], by simp [lt]⟩
set_option maxHeartbeats 4000000 in
set_option maxRecDepth 100000 in
theorem rdivp_long (l l' : List UInt8) (w : World) (hl : l.length ≤ 4000) (hl' : l'.length ≤ 4000) (h : (shortB l && shortB l') = false) (h0 : val l' ≠ 0) :
    Calls Tryz.prog 258 #[.string ⟨l.toArray⟩, .string ⟨l'.toArray⟩] w (DivEnd w (divZ (val l) (val l')) (modZ (val l) (val l'))) := by
  have a1 := fun w => rshort_any l w (Nat.le_trans hl (by decide))
  have a2 := fun w => rshort_any l' w (Nat.le_trans hl' (by decide))
  have a3 := fun w => rread_any l w (Nat.le_trans hl (by decide))
  have a4 := fun w => rread_any l' w (Nat.le_trans hl' (by decide))
  have g1 := val_grp_len hl
  have g2 := val_grp_len hl'
  have s1 := sv_val l
  have s2 := sv_val l'
  have hz2 : shortB l' = true → shortZ l' ≠ 0 := fun h => by unfold shortZ; rw [if_pos (of_decide_eq_true h)]; exact h0
  have hm0 : (val l').natAbs ≠ 0 := by omega
  rw [← s1, ← s2]
  clear s1 s2 h0
  generalize (val l).natAbs = m1 at *
  generalize (val l').natAbs = m2 at *
  generalize negB l = n1 at *
  generalize negB l' = n2 at *
  generalize shortB l = b1 at *
  generalize shortB l' = b2 at *
  generalize shortZ l = z1 at *
  generalize shortZ l' = z2 at *
  have H1 := Lib.hid a1
  have H2 := Lib.hid a2
  have H3 := Lib.hid a3
  have H4 := Lib.hid a4
  clear a1 a2 a3 a4
  have hcs : (b1 = false ∧ b2 = true ∧ z2 ≠ 0) ∨ b2 = false := by
    cases b2
    · exact .inr rfl
    · cases b1
      · exact .inl ⟨rfl, rfl, hz2 rfl⟩
      · cases h
  clear h hz2
  rcases hcs with ⟨rfl, rfl, hz⟩ | rfl
  all_goals
    go_enter Tryz.func258, Tryz.ntmps258
    go_wp2_with fail
    ((with_reducible refine (H1.out _).mono ?_); rintro e w' ⟨rfl, rfl⟩)
    go_wp2_with fail
    ((with_reducible refine (H2.out _).mono ?_); rintro e w' ⟨rfl, rfl⟩)
    try cases b1
  all_goals
    go_wp2_with fail
    ((with_reducible refine (H3.out _).mono ?_); rintro e w1 ⟨v1, rfl, j1, hb1⟩)
    go_wp2_with fail
    ((with_reducible refine (H4.out _).mono ?_); rintro e w2 ⟨v2, rfl, j2, hb2⟩)
    obtain ⟨A1, c1, rfl⟩ := j1.form
    obtain ⟨A2, c2, rfl⟩ := j2.form
    obtain ⟨L1, hL1⟩ : ∃ L1, L1 = (grp m1).length := ⟨_, rfl⟩
    obtain ⟨L2, hL2⟩ : ∃ L2, L2 = (grp m2).length := ⟨_, rfl⟩
    unfold JMag at j1 j2
    rw [← hL1] at j1 g1 ⊢
    rw [← hL2] at j2 g2 ⊢
    have y13 := (FBox.new w2 (.bool n1) (.slice A1 L1 c1) 182).below (below_alloc _ (.cells #[.bool n2, .slice A2 L2 c2] 182))
    have y14 := FBox.new (w2.alloc (.cells #[.bool n1, .slice A1 L1 c1] 182)) (.bool n2) (.slice A2 L2 c2) 182
    rw [World.size_alloc] at y14
    have hbA := bto (below_alloc w2 (.cells #[.bool n1, .slice A1 L1 c1] 182)) (below_alloc _ (.cells #[.bool n2, .slice A2 L2 c2] 182))
    have k1 := own_below (own_below j1 hb2) hbA
    have k2 := own_below j2 hbA
    have hb := bto (bto hb1 hb2) hbA
    have HL2 := Lib.hid hL2
    have HL1 : Hid ((grp m1).length ≤ 4000) := by show _ ≤ _; rw [← hL1]; exact g1
    clear j1 j2 hb1 hb2 hbA hL1 hL2
    go_wp2_with fail
    obtain ⟨W, hW⟩ : ∃ W, W = (w2.alloc (.cells #[.bool n1, .slice A1 L1 c1] 182)).alloc (.cells #[.bool n2, .slice A2 L2 c2] 182) := ⟨_, rfl⟩
    rw [← hW] at y13 y14 k1 k2 hb ⊢
    clear hW
    ((with_reducible refine (rdivide_any A1 A2 L1 c1 L2 c2 m1 m2 _ _ W k1 k2 hm0 (by omega) (by omega)).mono ?_); rintro e w3 ⟨v3, u3, rfl, j3, j4, hb3⟩)
    obtain ⟨A3, c3, rfl⟩ := j3.form
    obtain ⟨A4, c4, rfl⟩ := j4.form
    have K2 := Lib.hid (own_below k2 hb3)
    have x13 := y13.below hb3
    have x14 := y14.below hb3
    have hbw3 := bto hb hb3
    obtain ⟨L3, hL3⟩ : ∃ L3, L3 = (grp (m1 / m2)).length := ⟨_, rfl⟩
    obtain ⟨L4, hL4⟩ : ∃ L4, L4 = (grp (m1 % m2)).length := ⟨_, rfl⟩
    unfold JMag at j3 j4
    rw [← hL3] at j3 ⊢
    rw [← hL4] at j4 ⊢
    have HL3 := Lib.hid hL3
    have HL4 := Lib.hid hL4
    have J3 := Lib.hid j3
    have J4 := Lib.hid j4
    have q0 := x13.c0
    have q1 := x14.c0
    clear hL3 hL4 j3 j4 k1 k2 y13 y14 hb hb3
    go_wp2_with fail
    refine wp_region_kept (by kernel_rfl) (by kernel_rfl) ?_
    refine kept_val _ (fun _ => rfl) (fun ρ w hw => by go_simp; first | done | with_reducible rfl) ?_
    simp only [Act.put, StT, StZ, StS, Nat.reduceAdd]
    refine kept_val _ (fun _ => rfl) (fun ρ w hw => by have q0 := (x13.below hw).c0; have q1 := (x13.below hw).c1; go_simp; first | done | with_reducible rfl) ?_
    simp only [Act.put, StT, StZ, StS, Nat.reduceAdd]
    refine kept_val _ (fun _ => rfl) (fun ρ w hw => by go_simp; first | done | with_reducible rfl) ?_
    simp only [Act.put, StT, StZ, StS, Nat.reduceAdd]
    refine kept_val _ (fun _ => rfl) (fun ρ w hw => by have q0 := (x14.below hw).c0; have q1 := (x14.below hw).c1; go_simp; first | done | with_reducible rfl) ?_
    iterate 4
      simp only [Act.put, StT, StZ, StS, Nat.reduceAdd]
      refine kept_val _ (fun _ => rfl) (fun ρ w hw => by go_simp; first | done | with_reducible rfl) ?_
    simp only [Act.put, StT, StZ, StS, Nat.reduceAdd]
    refine kept_val _ (fun _ => rfl) (fun ρ w hw => by have q0 := (x13.below hw).c0; have q1 := (x13.below hw).c1; go_simp; first | done | with_reducible rfl) ?_
    iterate 2
      simp only [Act.put, StT, StZ, StS, Nat.reduceAdd]
      refine kept_val _ (fun _ => rfl) (fun ρ w hw => by go_simp; first | done | with_reducible rfl) ?_
    iterate 2
      simp only [Act.put, StT, StZ, StS, Nat.reduceAdd]
      refine kept_box (fun b => .pointer (some ⟨b, 0, none⟩)) _ rfl (fun _ => rfl) (fun ρ w hw => by go_simp; first | done | with_reducible rfl) ?_
    simp only [Act.put, StT, StZ, StS, Nat.reduceAdd]
    refine kept_put2 11 _ 17 _ _ _ _ _ rfl rfl rfl (by decide) (fun _ => rfl) (fun ρ w hw q0 q1 q2 q3 => by go_simp; first | done | with_reducible rfl) ?_
    simp only [Act.put, Nat.reduceAdd]
    refine kept_put2 12 _ 18 _ _ _ _ _ rfl rfl rfl (by decide) (fun _ => rfl) (fun ρ w hw q0 q1 q2 q3 => by go_simp; first | done | with_reducible rfl) ?_
    simp only [Act.put, Nat.reduceAdd]
    refine kept_end (fun ρ w4 hF => ?_)
    have x17 := FBox.ofB (hF.box 11 _ _ rfl).2
    have x18 := FBox.ofB (hF.box 12 _ _ rfl).2
    have hg17 := (hF.box 11 _ _ rfl).1
    have hg18 := (hF.box 12 _ _ rfl).1
    have hne : ρ 11 ≠ ρ 12 := fun h => by have := hF.ne 11 12 (by simp) (by simp) h; omega
    have hb4 := hF.below
    obtain ⟨nq, hnq⟩ : ∃ nq, nq = (!n1 == n2) := ⟨_, rfl⟩
    rw [← hnq] at x17
    have HNQ := Lib.hid hnq
    clear hnq
    generalize ρ 11 = b17 at *
    generalize ρ 12 = b18 at *
    have y13 := x13.below hb4
    have y14 := x14.below hb4
    have q0 := y13.c0
    have q1 := y14.c0
    have hq3 : (grp (m1 / m2)).length ≤ 4000 := Nat.le_trans (grp_len_mono _ m1 (Nat.div_le_self _ _)) HL1.out
    have hq4 : (grp (m1 % m2)).length ≤ 4000 := Nat.le_trans (grp_len_mono _ m1 (Nat.mod_le _ _)) HL1.out
    have HQ3 := Lib.hid hq3
    have HQ4 := Lib.hid hq4
    have M3 : Hid (JMag w4 W.heap.size (.slice A3 L3 c3) (m1 / m2)) := by have := own_below J3.out hb4; show JMag _ _ _ _; unfold JMag; rw [← HL3.out]; exact this
    have M4 : Hid (JMag w4 W.heap.size (.slice A4 L4 c4) (m1 % m2)) := by have := own_below J4.out hb4; show JMag _ _ _ _; unfold JMag; rw [← HL4.out]; exact this
    clear hF hq3 hq4
    by_cases hC : L4 = 0 ∨ n1 = n2
    · have HV : Hid (divZ (sv n1 m1) (sv n2 m2) = sv nq (m1 / m2) ∧ modZ (sv n1 m1) (sv n2 m2) = sv n1 (m1 % m2)) := by
        show _ ∧ _
        rw [HNQ.out]
        by_cases hn : n1 = n2
        · have := div_same (X := m1) (Y := m2) hn (Nat.pos_of_ne_zero hm0)
          subst hn
          exact this
        · have hr : m1 % m2 = 0 := by
            have h1 := HL4.out
            rcases hC with hC | hC
            · rw [hC] at h1
              have h2 := gv_grp (m1 % m2)
              rw [List.eq_nil_of_length_eq_zero h1.symm] at h2
              exact h2.symm
            · exact absurd hC hn
          have := div_diff0 (X := m1) (Y := m2) hn (Nat.pos_of_ne_zero hm0) hr
          refine ⟨this.1, ?_⟩
          rw [hr] at this ⊢
          refine Eq.trans this.2 ?_
          unfold sgn sv; cases n1 <;> cases n2 <;> rfl
      have hcc : (L4 = 0) ∨ (0 < L4 ∧ (n1 == n2) = true) := by
        rcases Nat.eq_zero_or_pos L4 with h | h
        · exact .inl h
        · refine .inr ⟨h, ?_⟩
          rcases hC with hC | hC
          · omega
          · exact beq_iff_eq.2 hC
      clear hC
      rcases hcc with hc | ⟨hc, hd⟩
      all_goals
        have HC := Lib.hid hc
        try (have hci : (0 : Int) < (L4 : Int) := by omega)
        try (have hci : ¬ (0 : Int) < (L4 : Int) := by omega)
        clear hc
        go_wp2_with fail
        refine wp_region_kept (by kernel_rfl) (by kernel_rfl) ?_
        refine kept_val _ (fun _ => rfl) (fun ρ w hw => by have q0 := (x17.below hw).c0; have q1 := (x17.below hw).c1; go_simp; first | done | with_reducible rfl) ?_
        simp only [Act.put, StT, StZ, StS, Nat.reduceAdd]
        refine kept_call _ _ _ (fun _ => rfl) (fun ρ w hw => by go_simp; first | done | with_reducible rfl) (fun w hw => rwrite_sv _ _ _ _ _ (M3.out.below hw) (Nat.le_trans HQ3.out (by decide))) ?_
        simp only [Act.put, StT, StZ, StS, Nat.reduceAdd]
        refine kept_val _ (fun _ => rfl) (fun ρ w hw => by have q0 := (x18.below hw).c0; have q1 := (x18.below hw).c1; go_simp; first | done | with_reducible rfl) ?_
        simp only [Act.put, StT, StZ, StS, Nat.reduceAdd]
        refine kept_call _ _ _ (fun _ => rfl) (fun ρ w hw => by go_simp; first | done | with_reducible rfl) (fun w hw => rwrite_sv _ _ _ _ _ (M4.out.below hw) (Nat.le_trans HQ4.out (by decide))) ?_
        iterate 3
          simp only [Act.put, StT, StZ, StS, Nat.reduceAdd]
          refine kept_val _ (fun _ => rfl) (fun ρ w hw => by go_simp; first | done | with_reducible rfl) ?_
        simp only [Act.put, StT, StZ, StS, Nat.reduceAdd]
        refine kept_end (fun ρ w6 hF => ?_)
        have hb6 := bto (bto hbw3 hb4) hF.below
        clear hF
        go_wp2
        go_ret3
        exact ⟨by rw [HV.out.1, HV.out.2]; rfl, hb6⟩
    · have hpos : 0 < L4 := by omega
      have hn : ¬ n1 = n2 := fun h => hC (.inr h)
      have hd : (n1 == n2) = false := by rw [beq_eq_false_iff_ne]; exact hn
      have hr : m1 % m2 ≠ 0 := fun h => by
        have h1 := HL4.out
        rw [h] at h1
        have : L4 = 0 := h1
        omega
      have HV : Hid (divZ (sv n1 m1) (sv n2 m2) = sv nq (m1 / m2) + sv true 1 ∧ modZ (sv n1 m1) (sv n2 m2) = sv n1 (m1 % m2) + sv n2 m2) := by
        show _ ∧ _
        have := div_diff1 (X := m1) (Y := m2) hn (Nat.pos_of_ne_zero hm0) hr
        have hlt := Nat.mod_lt m1 (Nat.pos_of_ne_zero hm0)
        rw [HNQ.out]
        refine ⟨Eq.trans this.1 ?_, Eq.trans this.2 ?_⟩
        · unfold sgn sv; cases n1 <;> cases n2 <;> first | (exact absurd rfl hn) | (simp; omega)
        · unfold sgn sv; cases n1 <;> cases n2 <;> first | (exact absurd rfl hn) | (simp; omega)
      have hci : (0 : Int) < (L4 : Int) := by omega
      have q4 := x17.c0
      have q5 := x17.c1
      have hom := one_mag (w := w4) (w' := w4.alloc (.cells #[.int .i64 1] 3)) (m := 1) rfl (by decide) (by decide)
      have hal := below_alloc w4 (.cells #[.int .i64 1] 3)
      have HOM : Hid (JMag (w4.alloc (.cells #[.int .i64 1] 3)) w4.heap.size (.slice (some ⟨w4.heap.size, 0, none⟩) 1 1) 1) := hom
      clear hom hr hn hC hpos
      go_wp2_with fail
      ((with_reducible refine (radd_any nq true _ _ (m1 / m2) 1 _ _ _ (M3.out.below hal) HOM.out (Nat.le_trans HQ3.out (by decide)) (by rw [grp_one (by decide) (by decide)]; decide)).mono ?_); rintro e w5 ⟨ng, v5, m5, rfl, j5, ⟨e5, l5⟩, hb5⟩)
      obtain ⟨A5, c5, rfl⟩ := j5.form
      have hb45 := bto hal hb5
      have lt17 := x17.lt
      have lt18 := x18.lt
      have t17 := x17.below hb45
      have t18 := x18.below hb45
      have hg5 : (grp m5).length ≤ 10000 := by
        have h5 := grp_len_mono _ _ l5
        have h6 := grp_len_add (m1 / m2) 1
        have h7 : (grp 1).length = 1 := by rw [grp_one (by decide) (by decide)]; rfl
        have h8 := HQ3.out
        omega
      have HG5 := Lib.hid hg5
      have s17 := t17.set (.bool ng) (.slice A5 (grp m5).length c5)
      have s18 := t18.set_ne (c := b17) (Ne.symm hne) (.bool ng) (.slice A5 (grp m5).length c5)
      have hbd := below_set2 (bto hb4 hb45) hg17 (.bool ng) (.slice A5 (grp m5).length c5)
      have J5 : Hid (JMag ((w5.setCell ⟨b17, 0, none⟩ (.bool ng)).setCell ⟨b17, 1, none⟩ (.slice A5 (grp m5).length c5)) w4.heap.size (.slice A5 (grp m5).length c5) m5) := own_base (ownsRow_setCell_below (a := ⟨b17, 1, none⟩) (ownsRow_setCell_below (a := ⟨b17, 0, none⟩) j5 (by show b17 < _; rw [World.size_alloc]; omega) _) (by show b17 < _; rw [World.size_alloc]; omega) _) (by rw [World.size_alloc]; omega)
      have HE5 := Lib.hid e5
      have q4 := t17.c0
      have q5 := t17.c1
      have q6 := t17.f0
      have q7 := t17.f1
      have q8 := s18.c0
      have q9 := s18.c1
      have r14 := x14.below hbd
      have q10 := r14.c0
      have q11 := r14.c1
      clear e5 l5 j5 hb5 hg5 M3 M4 hb45 hal HOM
      go_wp2_with fail
      obtain ⟨W5, hW5⟩ : ∃ W5, W5 = (w5.setCell ⟨b17, 0, none⟩ (.bool ng)).setCell ⟨b17, 1, none⟩ (.slice A5 (grp m5).length c5) := ⟨_, rfl⟩
      rw [← hW5] at s17 s18 hbd J5 r14 ⊢
      clear hW5 q4 q5 q6 q7 q8 q9 q10 q11 q0 q1
      have k4 : JMag W5 W.heap.size (.slice A4 L4 c4) (m1 % m2) := by have := own_below J4.out hbd; unfold JMag; rw [← HL4.out]; exact this
      have k2 := own_below K2.out hbd
      ((with_reducible refine (radd_any n1 n2 _ _ (m1 % m2) m2 _ _ _ k4 (by unfold JMag; rw [← HL2.out]; exact k2) (Nat.le_trans HQ4.out (by decide)) (by rw [← HL2.out]; omega)).mono ?_); rintro e w6 ⟨nr, v6, m6, rfl, j6, ⟨e6, l6⟩, hb6⟩)
      obtain ⟨A6, c6, rfl⟩ := j6.form
      have t17 := s17.below hb6
      have t18 := s18.below hb6
      have hg6 : (grp m6).length ≤ 10000 := by
        have h5 := grp_len_mono _ _ l6
        have h6 := grp_len_add (m1 % m2) m2
        have h7 := HL2.out
        have h8 := HQ4.out
        omega
      have HG6 := Lib.hid hg6
      have x18 := t18.set (.bool nr) (.slice A6 (grp m6).length c6)
      have x17 := t17.set_ne (c := b18) hne (.bool nr) (.slice A6 (grp m6).length c6)
      have hl5 := s18.lt
      have hbe := below_set2 (bto hbd hb6) hg18 (.bool nr) (.slice A6 (grp m6).length c6)
      have M5 : Hid (JMag ((w6.setCell ⟨b18, 0, none⟩ (.bool nr)).setCell ⟨b18, 1, none⟩ (.slice A6 (grp m6).length c6)) w4.heap.size (.slice A5 (grp m5).length c5) m5) := ownsRow_setCell_below (a := ⟨b18, 1, none⟩) (ownsRow_setCell_below (a := ⟨b18, 0, none⟩) (own_below J5.out hb6) lt18 _) lt18 _
      have M6 : Hid (JMag ((w6.setCell ⟨b18, 0, none⟩ (.bool nr)).setCell ⟨b18, 1, none⟩ (.slice A6 (grp m6).length c6)) W5.heap.size (.slice A6 (grp m6).length c6) m6) := ownsRow_setCell_below (a := ⟨b18, 1, none⟩) (ownsRow_setCell_below (a := ⟨b18, 0, none⟩) j6 hl5 _) hl5 _
      have HE6 := Lib.hid e6
      have q6 := t18.f0
      have q7 := t18.f1
      have q4 := t18.c0
      have q5 := t18.c1
      clear e6 l6 j6 hb6 hg6 k4 k2 J5 r14
      go_wp2_with fail
      refine wp_region_kept (by kernel_rfl) (by kernel_rfl) ?_
      refine kept_val _ (fun _ => rfl) (fun ρ w hw => by have q0 := (x17.below hw).c0; have q1 := (x17.below hw).c1; go_simp; first | done | with_reducible rfl) ?_
      simp only [Act.put, StT, StZ, StS, Nat.reduceAdd]
      refine kept_call _ _ _ (fun _ => rfl) (fun ρ w hw => by go_simp; first | done | with_reducible rfl) (fun w hw => rwrite_sv _ _ _ _ _ (M5.out.below hw) HG5.out) ?_
      simp only [Act.put, StT, StZ, StS, Nat.reduceAdd]
      refine kept_val _ (fun _ => rfl) (fun ρ w hw => by have q0 := (x18.below hw).c0; have q1 := (x18.below hw).c1; go_simp; first | done | with_reducible rfl) ?_
      simp only [Act.put, StT, StZ, StS, Nat.reduceAdd]
      refine kept_call _ _ _ (fun _ => rfl) (fun ρ w hw => by go_simp; first | done | with_reducible rfl) (fun w hw => rwrite_sv _ _ _ _ _ (M6.out.below hw) HG6.out) ?_
      iterate 3
        simp only [Act.put, StT, StZ, StS, Nat.reduceAdd]
        refine kept_val _ (fun _ => rfl) (fun ρ w hw => by go_simp; first | done | with_reducible rfl) ?_
      simp only [Act.put, StT, StZ, StS, Nat.reduceAdd]
      refine kept_end (fun ρ w7 hF => ?_)
      have hb7 := bto (bto hbw3 hbe) hF.below
      clear hF
      go_wp2
      go_ret3
      exact ⟨by rw [HV.out.1, HV.out.2, ← HE5.out, ← HE6.out]; rfl, hb7⟩
end Go.Proofs.YtgnppdkeiihlfaaGreatDoor
/- trancheref01: Div as a whole, Gcd. -/
namespace Go.Proofs.YtgnppdkeiihlfaaGreatDoor
open Go.RowKit Num
section
variable {l l' : List UInt8}
theorem qDiv (hl : l.length ≤ 4000) (hl' : l'.length ≤ 4000) (h0 : val l' ≠ 0) {q r : Int} (e : divZ (val l) (val l') = q) (e' : modZ (val l) (val l') = r) :
    Ret 258 #[.string ⟨l.toArray⟩, .string ⟨l'.toArray⟩] (.tuple #[.string ⟨(canon q).toArray⟩, .string ⟨(canon r).toArray⟩, .int .i64 0]) := fun w _ => by
  subst e e'
  by_cases h : (shortB l && shortB l') = true
  · rw [Bool.and_eq_true] at h
    exact rdivp_short l l' w (Nat.le_trans hl (by decide)) (Nat.le_trans hl' (by decide)) (of_decide_eq_true h.1) (of_decide_eq_true h.2) h0
  · exact rdivp_long l l' w hl hl' (by simpa using h) h0
end
theorem canon_nat (n : Nat) : canon (n : Int) = dec n := by
  unfold canon; rw [if_neg (by omega)]; rfl
theorem val_dec (n : Nat) : val (dec n) = n := by rw [← canon_nat, val_canon]
theorem dec_nil_iff {n : Nat} (h : dec n = []) : n = 0 := by have := nat_dec n; rw [h] at this; exact this.symm
def natOf : Value → Nat
  | .string s => nat s.data.toList
  | _ => 0
theorem digs_len2 (l : List UInt8) : (digs l).length ≤ l.length := by
  rw [digs_dec]; exact Num.dec_len_le _ _ (val_lt l)
theorem qDivN {x y : Nat} (hx : (dec x).length ≤ 4000) (hy : (dec y).length ≤ 4000) (h0 : y ≠ 0) : Ret 258 #[.string ⟨(dec x).toArray⟩, .string ⟨(dec y).toArray⟩] (.tuple #[.string ⟨(dec (x / y)).toArray⟩, .string ⟨(dec (x % y)).toArray⟩, .int .i64 0]) := by
  rw [← canon_nat (x / y), ← canon_nat (x % y)]
  refine qDiv hx hy (by rw [val_dec]; omega) ?_ ?_
  · rw [val_dec, val_dec]; unfold divZ; rw [if_pos (by omega)]; exact (pos_div x y).1
  · rw [val_dec, val_dec]; unfold modZ; rw [if_pos (by omega)]; exact (pos_div x y).2
set_option maxHeartbeats 2000000 in
set_option maxRecDepth 100000 in
theorem rgcdp (l l' : List UInt8) (w : World) (hG : Glob w) (hl : l.length ≤ 4000) (hl' : l'.length ≤ 4000) :
    Calls Tryz.prog 211 #[.string ⟨l.toArray⟩, .string ⟨l'.toArray⟩] w fun e w' => e = .returned (.string ⟨(canon (Int.gcd (val l) (val l') : Int)).toArray⟩) ∧ Below w.heap.size w w' := by
  have a1 := fun w => rdigits_any l w (Nat.le_trans hl (by decide))
  have a2 := fun w => rdigits_any l' w (Nat.le_trans hl' (by decide))
  have b1 := Nat.le_trans (digs_len2 l) hl
  have b2 := Nat.le_trans (digs_len2 l') hl'
  rw [digs_dec] at b1 b2
  simp only [digs_dec] at a1 a2
  have eg : Int.gcd (val l) (val l') = Nat.gcd (val l).natAbs (val l').natAbs := rfl
  rw [canon_nat, eg]
  generalize (val l).natAbs = x0 at *
  generalize (val l').natAbs = y0 at *
  have H1 := Lib.hid a1
  have H2 := Lib.hid a2
  clear a1 a2 eg
  go_enter Tryz.func211, Tryz.ntmps211
  go_wp2_with fail
  ((with_reducible refine (H1.out _).mono ?_); rintro e w' ⟨rfl, rfl⟩)
  go_wp2_with fail
  ((with_reducible refine (H2.out _).mono ?_); rintro e w' ⟨rfl, rfl⟩)
  go_wp2_with fail
  go_loopw [9, 10] (fun xv yv wr => ∃ (x y : Nat), xv = .string ⟨(dec x).toArray⟩ ∧ yv = .string ⟨(dec y).toArray⟩ ∧ (dec x).length ≤ 4000 ∧ (dec y).length ≤ 4000 ∧ Hid (Nat.gcd x y = Nat.gcd x0 y0) ∧ Below w.heap.size w wr) (fun _ yv _ => natOf yv)
  case atStart => exact ⟨x0, y0, rfl, rfl, b1, b2, rfl, Below.refl _ _⟩
  case round =>
    obtain ⟨x, y, rfl, rfl, hx, hy, HG, hbw⟩ := hrel
    by_cases h0 : y = 0
    · subst h0
      have HX : Hid (x = Nat.gcd x0 y0) := by have := HG.out; rw [Nat.gcd_zero_right] at this; exact this
      have hd0 : dec 0 = [] := rfl
      go_wp2
      go_ret
      exact ⟨by rw [← HX.out]; rfl, hbw⟩
    · have hne : ¬ dec y = [] := fun h => h0 (dec_nil_iff h)
      have c := qDivN hx hy h0
      have h3 : (dec (x % y)).length ≤ 4000 := Nat.le_trans (Num.dec_len_mono _ _ (Nat.le_of_lt (Nat.mod_lt x (Nat.pos_of_ne_zero h0)))) hy
      have HG' : Hid (Nat.gcd y (x % y) = Nat.gcd x0 y0) := by show _ = _; rw [← HG.out, Nat.gcd_comm y, ← Nat.gcd_rec, Nat.gcd_comm]
      have hms : natOf (.string ⟨(dec (x % y)).toArray⟩) < natOf (.string ⟨(dec y).toArray⟩) := by
        show nat (dec (x % y)) < nat (dec y)
        rw [nat_dec, nat_dec]; exact Nat.mod_lt x (Nat.pos_of_ne_zero h0)
      have HC := Lib.hid c
      have HMS := Lib.hid hms
      have hb0 : (dec y).isEmpty = false := by rw [List.isEmpty_eq_false_iff]; exact hne
      clear c hms
      generalize x % y = r at *
      generalize x / y = q at *
      go_wp2_with fail
      ((with_reducible refine (HC.out.of hG hbw).mono ?_); rintro e w2 ⟨rfl, hb2⟩)
      have hbw2 := bto hbw hb2
      clear hb0 hne
      go_wp2
      go_roundw
      case rel => exact ⟨y, r, rfl, rfl, hy, h3, HG', hbw2⟩
      case measure => exact HMS.out
section
variable {l l' : List UInt8}
theorem qGcd (hl : l.length ≤ 4000) (hl' : l'.length ≤ 4000) {z : Int} (e : (Int.gcd (val l) (val l') : Int) = z) : Ret 211 #[.string ⟨l.toArray⟩, .string ⟨l'.toArray⟩] (.string ⟨(canon z).toArray⟩) := fun w hG => by
  subst e; exact rgcdp l l' w hG hl hl'
end
end Go.Proofs.YtgnppdkeiihlfaaGreatDoor
