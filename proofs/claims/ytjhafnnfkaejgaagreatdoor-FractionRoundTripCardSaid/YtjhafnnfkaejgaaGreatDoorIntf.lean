/- Package integer: Div. -/
import Derived.Test.YtjhafnnfkaejgaaGreatDoorInte
namespace Go.Proofs.YtjhafnnfkaejgaaGreatDoor
open Go.RowKit Num

/-- the quotient, rounded down, and its remainder -/
def divZ (a b : Int) : Int := if 0 < b then a / b else (-a) / (-b)
def modZ (a b : Int) : Int := if 0 < b then a % b else -((-a) % (-b))
theorem pos_div (X Y : Nat) : (X : Int) / Y = (X / Y : Nat) ∧ (X : Int) % Y = (X % Y : Nat) := ⟨by rw [Int.natCast_ediv], by rw [Int.natCast_emod]⟩
theorem neg_div0 (X Y : Nat) (hY : 0 < Y) (h : X % Y = 0) : -(X : Int) / Y = -((X / Y : Nat) : Int) ∧ -(X : Int) % Y = 0 := by
  apply (Int.ediv_emod_unique (by omega)).2
  refine ⟨?_, by omega, by omega⟩
  have := Nat.div_add_mod X Y
  rw [h] at this
  have e : (Y : Int) * ((X / Y : Nat) : Int) = X := by rw [← Int.natCast_mul]; omega
  rw [Int.mul_neg, e]; omega
theorem neg_div1 (X Y : Nat) (hY : 0 < Y) (h : X % Y ≠ 0) : -(X : Int) / Y = -((X / Y + 1 : Nat) : Int) ∧ -(X : Int) % Y = ((Y - X % Y : Nat) : Int) := by
  apply (Int.ediv_emod_unique (by omega)).2
  have h2 := Nat.mod_lt X hY
  refine ⟨?_, by omega, by omega⟩
  have := Nat.div_add_mod X Y
  have e : (Y : Int) * ((X / Y + 1 : Nat) : Int) = ((Y * (X / Y) + Y : Nat) : Int) := by rw [← Int.natCast_mul, Nat.mul_add, Nat.mul_one]
  rw [Int.mul_neg, e]; omega
theorem val_sgn (l : List UInt8) : val l = sgn (negB l) (val l).natAbs := (sgn_val l).symm
theorem div_same {nx ny : Bool} {X Y : Nat} (h : nx = ny) (hY : 0 < Y) : divZ (sgn nx X) (sgn ny Y) = sgn (nx != ny) (X / Y) ∧ modZ (sgn nx X) (sgn ny Y) = sgn ny (X % Y) := by
  subst h
  obtain ⟨h1, h2⟩ := pos_div X Y
  unfold divZ modZ sgn
  cases nx
  · simp only [Bool.false_eq_true, if_false, bne_self_eq_false]
    rw [if_pos (by omega), if_pos (by omega)]; exact ⟨h1, h2⟩
  · simp only [if_true, bne_self_eq_false, Bool.false_eq_true, if_false, Int.neg_neg]
    rw [if_neg (by omega), if_neg (by omega), h1, h2]; exact ⟨rfl, rfl⟩
theorem div_diff0 {nx ny : Bool} {X Y : Nat} (h : nx ≠ ny) (hY : 0 < Y) (h0 : X % Y = 0) : divZ (sgn nx X) (sgn ny Y) = sgn (nx != ny) (X / Y) ∧ modZ (sgn nx X) (sgn ny Y) = sgn ny (X % Y) := by
  obtain ⟨h1, h2⟩ := neg_div0 X Y hY h0
  unfold divZ modZ sgn
  cases nx <;> cases ny
  · exact absurd rfl h
  · simp only [if_true, Bool.false_eq_true, if_false, Int.neg_neg, Bool.false_bne]
    rw [if_neg (by omega), if_neg (by omega), h1, h2, h0]; exact ⟨rfl, rfl⟩
  · simp only [if_true, Bool.false_eq_true, if_false, Bool.true_bne, Bool.not_false]
    rw [if_pos (by omega), if_pos (by omega), h1, h2, h0]; exact ⟨rfl, rfl⟩
  · exact absurd rfl h
theorem div_diff1 {nx ny : Bool} {X Y : Nat} (h : nx ≠ ny) (hY : 0 < Y) (h0 : X % Y ≠ 0) : divZ (sgn nx X) (sgn ny Y) = sgn (nx != ny) (X / Y + 1) ∧ modZ (sgn nx X) (sgn ny Y) = sgn ny (Y - X % Y) := by
  obtain ⟨h1, h2⟩ := neg_div1 X Y hY h0
  unfold divZ modZ sgn
  cases nx <;> cases ny
  · exact absurd rfl h
  · simp only [if_true, Bool.false_eq_true, if_false, Int.neg_neg, Bool.false_bne]
    rw [if_neg (by omega), if_neg (by omega), h1, h2]; exact ⟨rfl, rfl⟩
  · simp only [if_true, Bool.false_eq_true, if_false, Bool.true_bne, Bool.not_false]
    rw [if_pos (by omega), if_pos (by omega), h1, h2]; exact ⟨rfl, rfl⟩
  · exact absurd rfl h

set_option maxHeartbeats 1000000 in
set_option maxRecDepth 100000 in
theorem idiv_zero (l l' : List UInt8) (w : World) (hl : l.length ≤ 100000000) (hl' : l'.length ≤ 100000000) (h0 : val l' = 0) :
    Calls Tryz.prog 57 #[.string ⟨l.toArray⟩, .string ⟨l'.toArray⟩] w fun e w' => e = .returned (.tuple #[.string ⟨#[]⟩, .string ⟨#[]⟩, .int .i64 10]) ∧ Below w.heap.size w w' := by
  have hg : grp (val l').natAbs = [] := by rw [h0]; rfl
  have HG0 := Lib.hid hg
  clear h0 hg
  go_enter Tryz.func57, Tryz.ntmps57
  go_wp2_with fail
  ((with_reducible refine (read_var l _ hl).mono ?_); rintro e w1 ⟨A, n, c, rfl, hn, ho1, hb1⟩)
  go_wp2_with fail
  ((with_reducible refine (read_var l' _ hl').mono ?_); rintro e w2 ⟨A', n', c', rfl, hn', ho2, hb2⟩)
  have hn0 : n' = 0 := by have := own_len ho2; rw [HG0.out] at this; simpa using this.symm
  subst hn0
  go_wp2_with fail
  go_ret3
  exact ⟨rfl, bto hb1 (bto hb2 (bto (below_alloc _ _) (below_alloc _ _)))⟩

/-- the last statement of Div: both texts -/
def DivEnd (w : World) (q r : Int) (e : Ending) (w' : World) : Prop := e = .returned (.tuple #[.string ⟨(canon q).toArray⟩, .string ⟨(canon r).toArray⟩, .int .i64 0]) ∧ Below w.heap.size w w'

set_option maxHeartbeats 2000000 in
set_option maxRecDepth 100000 in
theorem idiv_plain (l l' : List UInt8) (w : World) (hl : l.length ≤ 100000000) (hl' : l'.length ≤ 100000000) (hG : Glob w) (h0 : val l' ≠ 0) (hs : negB l = negB l' ∨ (val l).natAbs % (val l').natAbs = 0) :
    Calls Tryz.prog 57 #[.string ⟨l.toArray⟩, .string ⟨l'.toArray⟩] w (DivEnd w (divZ (val l) (val l')) (modZ (val l) (val l'))) := by
  have hY : 0 < (val l').natAbs := by omega
  have hq : divZ (val l) (val l') = sgn (negB l != negB l') ((val l).natAbs / (val l').natAbs) ∧ modZ (val l) (val l') = sgn (negB l') ((val l).natAbs % (val l').natAbs) := by
    by_cases hsame : negB l = negB l'
    · have := div_same (X := (val l).natAbs) hsame hY
      rwa [sgn_val, sgn_val] at this
    · have h1 : (val l).natAbs % (val l').natAbs = 0 := by rcases hs with h | h; exact absurd h hsame; exact h
      have := div_diff0 (X := (val l).natAbs) hsame hY h1
      rwa [sgn_val, sgn_val] at this
  rw [hq.1, hq.2]
  clear hq
  obtain ⟨nx, hnx⟩ : ∃ b, negB l = b := ⟨_, rfl⟩
  obtain ⟨ny, hny⟩ : ∃ b, negB l' = b := ⟨_, rfl⟩
  rw [hnx, hny] at hs ⊢
  have hlq : (grp ((val l).natAbs / (val l').natAbs)).length ≤ 100000000 := Nat.le_trans (grp_len_mono _ _ (Nat.div_le_self _ _)) (Nat.le_trans (len_val l) hl)
  have hlr : (grp ((val l).natAbs % (val l').natAbs)).length ≤ 100000000 := Nat.le_trans (grp_len_mono _ _ (Nat.mod_le _ _)) (Nat.le_trans (len_val l) hl)
  have hcond : (nx != ny) = true → (grp ((val l).natAbs % (val l').natAbs)).length = 0 := by
    intro h1
    rcases hs with h2 | h2
    · rw [h2] at h1; simp at h1
    · rw [h2]; rfl
  obtain ⟨rl, hrl⟩ : ∃ rl, rl = (grp ((val l).natAbs % (val l').natAbs)).length := ⟨_, rfl⟩
  rw [← hrl] at hcond hlr
  have HRL := Lib.hid hrl
  have HY := Lib.hid hY
  obtain ⟨nl, hnl⟩ : ∃ nl, nl = (grp (val l').natAbs).length := ⟨_, rfl⟩
  have hnl1 : ((nl : Int) == 0) = false := by
    have : nl ≠ 0 := by intro e; rw [e] at hnl; have := (grp_eq_nil _).1 (List.eq_nil_of_length_eq_zero hnl.symm); omega
    simp; omega
  have HNL := Lib.hid hnl
  have HNX := Lib.hid hnx
  have HNY := Lib.hid hny
  have h4 : (nx = ny) ∨ (nx = true ∧ ny = false ∧ rl = 0) ∨ (nx = false ∧ ny = true ∧ rl = 0) := by
    cases nx <;> cases ny <;> simp at hcond ⊢ <;> exact hcond
  clear hrl hY hs hnl hnx hny hcond
  go_enter Tryz.func57, Tryz.ntmps57
  go_wp2_with fail
  ((with_reducible refine (read_var l _ hl).mono ?_); rintro e w1 ⟨A, n, c, rfl, hn, ho1, hb1⟩)
  rw [HNX.out]
  go_wp2_with fail
  ((with_reducible refine (read_var l' _ hl').mono ?_); rintro e w2 ⟨A', n', c', rfl, hn', ho2, hb2⟩)
  rw [HNY.out]
  obtain rfl : nl = n' := by have := own_len ho2; rw [← HNL.out] at this; exact this
  go_wp2_with fail
  have hbx := bto (below_alloc w2 (.cells #[.bool nx, .slice A n c] 70)) (below_alloc _ (.cells #[.bool ny, .slice A' nl c'] 70))
  obtain ⟨W, hW⟩ : ∃ W, W = (w2.alloc (.cells #[.bool nx, .slice A n c] 70)).alloc (.cells #[.bool ny, .slice A' nl c'] 70) := ⟨_, rfl⟩
  obtain ⟨b0, hb0⟩ : ∃ b, b = w2.heap.size := ⟨_, rfl⟩
  obtain ⟨b1, hb1'⟩ : ∃ b, b = w2.heap.size + 1 := ⟨_, rfl⟩
  have k0 : W.cell? ⟨b0, 0, none⟩ = some (.bool nx) := by rw [hW, hb0]; simp [go_sem]
  have k2 : W.cell? ⟨b1, 0, none⟩ = some (.bool ny) := by rw [hW, hb1']; simp [go_sem]
  have l1 : b1 < W.heap.size := by rw [hW, hb1']; simp
  have l0 : b0 < W.heap.size := by omega
  rw [← hW] at hbx
  rw [← hW, ← hb1', ← hb0]
  have hbW : Below w.heap.size w W := bto hb1 (bto hb2 hbx)
  have HO1 := Lib.hid (own_below ho1 (bto hb2 hbx))
  have HO2 := Lib.hid (own_below ho2 hbx)
  clear hW ho1 ho2 hb0 hb1' hb1 hb2 hbx
  ((with_reducible refine (divide_any A A' n c nl c' _ _ _ _ _ (by exact HO1.out) (by exact HO2.out) (Nat.ne_of_gt HY.out) hn).mono ?_); rintro e w3 ⟨vq, vr, rfl, hmq, hmr, hb3⟩)
  obtain ⟨Aq, cq, rfl⟩ := hmq.form
  obtain ⟨Ar, cr, rfl⟩ := hmr.form
  rw [← HRL.out]
  have k0 : w3.cell? ⟨b0, 0, none⟩ = some (.bool nx) := (hb3.cell (p := ⟨b0, 0, none⟩) l0).trans k0
  have k2 : w3.cell? ⟨b1, 0, none⟩ = some (.bool ny) := (hb3.cell (p := ⟨b1, 0, none⟩) l1).trans k2
  have l0 : b0 < w3.heap.size := Nat.lt_of_lt_of_le l0 hb3.size
  have l1 : b1 < w3.heap.size := Nat.lt_of_lt_of_le l1 hb3.size
  have hbW := bto hbW hb3
  have HG3 := Lib.hid (hG.below hbW)
  clear hG
  have HMQ := Lib.hid (show w3.ownsRow 0 95 1 (.slice Aq _ cq) _ (U (grp ((val l).natAbs / (val l').natAbs))) from hmq)
  have HMR := Lib.hid (show w3.ownsRow 0 95 1 (.slice Ar rl cr) rl (U (grp ((val l).natAbs % (val l').natAbs))) from by rw [HRL.out]; exact hmr)
  have HLQ := Lib.hid hlq
  have HLR := Lib.hid hlr
  have hbc := bdr w3
  have q0 := (hbc.cell (p := ⟨b0, 0, none⟩) l0).trans k0
  have q2 := (hbc.cell (p := ⟨b1, 0, none⟩) l1).trans k2
  clear hlq hlr
  clear hmq hmr
  have HBW := Lib.hid hbW
  clear hbW hn hn' hl hl'
  rcases h4 with rfl | ⟨rfl, rfl, rfl⟩ | ⟨rfl, rfl, rfl⟩
  · have hnn : (nx != nx) = false := by cases nx <;> rfl
    go_wp2_with fail
    go_region_held3 (fun w' => w'.cell? ⟨b0, 0, none⟩ = some (.bool nx) ∧ w'.cell? ⟨b1, 0, none⟩ = some (.bool nx))
      (first
        | go_keep
        | (dsimp only; exact ⟨q0, q2⟩))
      (first
        | (go_at_call 69; with_reducible refine (text_mag _ Aq _ cq _ _ _ (by exact own_below HMQ.out hbc) (by exact HG3.out.below hbc) (Nat.le_trans HLQ.out (by decide))).mono ?_; rintro e w4 ⟨rfl, hb4⟩; have hbc := bto hbc hb4; have q0 := (hbc.cell (p := ⟨b0, 0, none⟩) l0).trans k0; have q2 := (hbc.cell (p := ⟨b1, 0, none⟩) l1).trans k2)
        | (go_at_call 69; with_reducible refine (text_mag _ Ar _ cr _ _ _ (by exact own_below HMR.out hbc) (by exact HG3.out.below hbc) (Nat.le_trans HLR.out (by decide))).mono ?_; rintro e w4 ⟨rfl, hb4⟩; have hbc := bto hbc hb4; have q0 := (hbc.cell (p := ⟨b0, 0, none⟩) l0).trans k0; have q2 := (hbc.cell (p := ⟨b1, 0, none⟩) l1).trans k2))
    all_goals (
      go_wp2
      go_ret3
      exact ⟨by rw [hnn]; rfl, bto HBW.out hbc⟩)
  · go_wp2_with fail
    go_region_held3 (fun w' => w'.cell? ⟨b0, 0, none⟩ = some (.bool true) ∧ w'.cell? ⟨b1, 0, none⟩ = some (.bool false))
      (first
        | go_keep
        | (dsimp only; exact ⟨q0, q2⟩))
      (first
        | (go_at_call 69; with_reducible refine (text_mag _ Aq _ cq _ _ _ (by exact own_below HMQ.out hbc) (by exact HG3.out.below hbc) (Nat.le_trans HLQ.out (by decide))).mono ?_; rintro e w4 ⟨rfl, hb4⟩; have hbc := bto hbc hb4; have q0 := (hbc.cell (p := ⟨b0, 0, none⟩) l0).trans k0; have q2 := (hbc.cell (p := ⟨b1, 0, none⟩) l1).trans k2)
        | (go_at_call 69; with_reducible refine (text_mag _ Ar _ cr _ _ _ (by exact own_below HMR.out hbc) (by exact HG3.out.below hbc) (Nat.le_trans HLR.out (by decide))).mono ?_; rintro e w4 ⟨rfl, hb4⟩; have hbc := bto hbc hb4; have q0 := (hbc.cell (p := ⟨b0, 0, none⟩) l0).trans k0; have q2 := (hbc.cell (p := ⟨b1, 0, none⟩) l1).trans k2))
    all_goals (
      go_wp2
      go_ret3
      exact ⟨rfl, bto HBW.out hbc⟩)
  · go_wp2_with fail
    go_region_held3 (fun w' => w'.cell? ⟨b0, 0, none⟩ = some (.bool false) ∧ w'.cell? ⟨b1, 0, none⟩ = some (.bool true))
      (first
        | go_keep
        | (dsimp only; exact ⟨q0, q2⟩))
      (first
        | (go_at_call 69; with_reducible refine (text_mag _ Aq _ cq _ _ _ (by exact own_below HMQ.out hbc) (by exact HG3.out.below hbc) (Nat.le_trans HLQ.out (by decide))).mono ?_; rintro e w4 ⟨rfl, hb4⟩; have hbc := bto hbc hb4; have q0 := (hbc.cell (p := ⟨b0, 0, none⟩) l0).trans k0; have q2 := (hbc.cell (p := ⟨b1, 0, none⟩) l1).trans k2)
        | (go_at_call 69; with_reducible refine (text_mag _ Ar _ cr _ _ _ (by exact own_below HMR.out hbc) (by exact HG3.out.below hbc) (Nat.le_trans HLR.out (by decide))).mono ?_; rintro e w4 ⟨rfl, hb4⟩; have hbc := bto hbc hb4; have q0 := (hbc.cell (p := ⟨b0, 0, none⟩) l0).trans k0; have q2 := (hbc.cell (p := ⟨b1, 0, none⟩) l1).trans k2))
    all_goals (
      go_wp2
      go_ret3
      exact ⟨rfl, bto HBW.out hbc⟩)

end Go.Proofs.YtjhafnnfkaejgaaGreatDoor
