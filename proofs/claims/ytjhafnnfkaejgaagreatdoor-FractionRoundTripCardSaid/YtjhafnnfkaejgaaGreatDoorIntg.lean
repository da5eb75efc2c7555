/- Package integer: Div, with a step down. -/
import Derived.Test.YtjhafnnfkaejgaaGreatDoorIntf
namespace Go.Proofs.YtjhafnnfkaejgaaGreatDoor
open Go.RowKit Num

theorem own1 (w : World) : (w.alloc (.cells #[.int .u64 1] 95)).ownsRow 0 95 1 (.slice (some ⟨w.heap.size, 0, none⟩) 1 1) 1 (U (grp 1)) := own_one w 1

set_option maxHeartbeats 4000000 in
set_option maxRecDepth 100000 in
theorem idiv_step (l l' : List UInt8) (w : World) (hl : l.length ≤ 100000000) (hl' : l'.length ≤ 100000000) (hG : Glob w) (h0 : val l' ≠ 0) (hs : negB l ≠ negB l') (hr : (val l).natAbs % (val l').natAbs ≠ 0) :
    Calls Tryz.prog 57 #[.string ⟨l.toArray⟩, .string ⟨l'.toArray⟩] w (DivEnd w (divZ (val l) (val l')) (modZ (val l) (val l'))) := by
  have hY : 0 < (val l').natAbs := by omega
  have hq : divZ (val l) (val l') = sgn (negB l != negB l') ((val l).natAbs / (val l').natAbs + 1) ∧ modZ (val l) (val l') = sgn (negB l') ((val l').natAbs - (val l).natAbs % (val l').natAbs) := by
    have := div_diff1 (X := (val l).natAbs) hs hY hr
    rwa [sgn_val, sgn_val] at this
  rw [hq.1, hq.2]
  clear hq
  obtain ⟨nx, hnx⟩ : ∃ b, negB l = b := ⟨_, rfl⟩
  obtain ⟨ny, hny⟩ : ∃ b, negB l' = b := ⟨_, rfl⟩
  rw [hnx, hny] at hs ⊢
  have hlq : (grp ((val l).natAbs / (val l').natAbs)).length ≤ 100000000 := Nat.le_trans (grp_len_mono _ _ (Nat.div_le_self _ _)) (Nat.le_trans (len_val l) hl)
  have hlr : (grp ((val l).natAbs % (val l').natAbs)).length ≤ 100000000 := Nat.le_trans (grp_len_mono _ _ (Nat.mod_le _ _)) (Nat.le_trans (len_val l) hl)
  have hlq1 : (grp ((val l).natAbs / (val l').natAbs + 1)).length ≤ 100000002 := by
    have := grp_add_len ((val l).natAbs / (val l').natAbs) 1
    have h1 : (grp 1).length = 1 := by decide
    omega
  have hlr1 : (grp ((val l').natAbs - (val l).natAbs % (val l').natAbs)).length ≤ 100000000 := Nat.le_trans (grp_len_mono _ _ (Nat.sub_le _ _)) (Nat.le_trans (len_val l') hl')
  have hrle : (val l).natAbs % (val l').natAbs ≤ (val l').natAbs := Nat.le_of_lt (Nat.mod_lt _ hY)
  obtain ⟨rl, hrl⟩ : ∃ rl, rl = (grp ((val l).natAbs % (val l').natAbs)).length := ⟨_, rfl⟩
  rw [← hrl] at hlr
  have hrl0 : decide (0 < rl) = true := by
    have : rl ≠ 0 := by intro e; rw [e] at hrl; have := (grp_eq_nil _).1 (List.eq_nil_of_length_eq_zero hrl.symm); omega
    simp; omega
  have HLQ1 := Lib.hid hlq1
  have HLR1 := Lib.hid hlr1
  have HRLE := Lib.hid hrle
  have HRL := Lib.hid hrl
  have HY := Lib.hid hY
  obtain ⟨nl, hnl⟩ : ∃ nl, nl = (grp (val l').natAbs).length := ⟨_, rfl⟩
  have hnl1 : ((nl : Int) == 0) = false := by
    have : nl ≠ 0 := by intro e; rw [e] at hnl; have := (grp_eq_nil _).1 (List.eq_nil_of_length_eq_zero hnl.symm); omega
    simp; omega
  have HNL := Lib.hid hnl
  have HNX := Lib.hid hnx
  have HNY := Lib.hid hny
  have h4 : (nx = true ∧ ny = false) ∨ (nx = false ∧ ny = true) := by
    cases nx <;> cases ny <;> simp at hs ⊢
  clear hrl hY hs hr hnl hnx hny hlq1 hlr1 hrle
  go_enter Tryz.func57, Tryz.ntmps57
  go_wp2_with fail
  ((with_reducible refine (read_var l _ hl).mono ?_); rintro e w1 ⟨A, n, c, rfl, hn, ho1, hb1⟩)
  rw [HNX.out]
  go_wp2_with fail
  ((with_reducible refine (read_var l' _ hl').mono ?_); rintro e w2 ⟨A', n', c', rfl, hn', ho2, hb2⟩)
  rw [HNY.out]
  obtain rfl : nl = n' := by have := own_len ho2; rw [← HNL.out] at this; exact this
  go_wp2_with fail
  have hbx := bto (below_alloc w2 (.cells #[.bool nx, .slice A n c] 70)) (below_alloc _ (.cells #[.bool ny, .slice A' nl c'] 70))
  obtain ⟨W, hW⟩ : ∃ W, W = (w2.alloc (.cells #[.bool nx, .slice A n c] 70)).alloc (.cells #[.bool ny, .slice A' nl c'] 70) := ⟨_, rfl⟩
  obtain ⟨b0, hb0⟩ : ∃ b, b = w2.heap.size := ⟨_, rfl⟩
  obtain ⟨b1, hb1'⟩ : ∃ b, b = w2.heap.size + 1 := ⟨_, rfl⟩
  have k0 : W.cell? ⟨b0, 0, none⟩ = some (.bool nx) := by rw [hW, hb0]; simp [go_sem]
  have k2 : W.cell? ⟨b1, 0, none⟩ = some (.bool ny) := by rw [hW, hb1']; simp [go_sem]
  have k3 : W.cell? ⟨b1, 1, none⟩ = some (.slice A' nl c') := by rw [hW, hb1']; simp [go_sem]
  have l1 : b1 < W.heap.size := by rw [hW, hb1']; simp
  have l0 : b0 < W.heap.size := by omega
  rw [← hW] at hbx
  rw [← hW, ← hb1', ← hb0]
  have hbW : Below w.heap.size w W := bto hb1 (bto hb2 hbx)
  have HO1 := Lib.hid (own_below ho1 (bto hb2 hbx))
  have HO2 := Lib.hid (own_below ho2 hbx)
  clear hW ho1 ho2 hb0 hb1' hb1 hb2 hbx
  ((with_reducible refine (divide_any A A' n c nl c' _ _ _ _ _ (by exact HO1.out) (by exact HO2.out) (Nat.ne_of_gt HY.out) hn).mono ?_); rintro e w3 ⟨vq, vr, rfl, hmq, hmr, hb3⟩)
  obtain ⟨Aq, cq, rfl⟩ := hmq.form
  obtain ⟨Ar, cr, rfl⟩ := hmr.form
  rw [← HRL.out]
  have k0 : w3.cell? ⟨b0, 0, none⟩ = some (.bool nx) := (hb3.cell (p := ⟨b0, 0, none⟩) l0).trans k0
  have k2 : w3.cell? ⟨b1, 0, none⟩ = some (.bool ny) := (hb3.cell (p := ⟨b1, 0, none⟩) l1).trans k2
  have k3 : w3.cell? ⟨b1, 1, none⟩ = some (.slice A' nl c') := (hb3.cell (p := ⟨b1, 1, none⟩) l1).trans k3
  have HO2 := Lib.hid (own_below HO2.out hb3)
  have l0 : b0 < w3.heap.size := Nat.lt_of_lt_of_le l0 hb3.size
  have l1 : b1 < w3.heap.size := Nat.lt_of_lt_of_le l1 hb3.size
  have hbW := bto hbW hb3
  have HG3 := Lib.hid (hG.below hbW)
  clear hG
  have HMQ := Lib.hid (show w3.ownsRow 0 95 1 (.slice Aq _ cq) _ (U (grp ((val l).natAbs / (val l').natAbs))) from hmq)
  have HMR := Lib.hid (show w3.ownsRow 0 95 1 (.slice Ar rl cr) rl (U (grp ((val l).natAbs % (val l').natAbs))) from by rw [HRL.out]; exact hmr)
  have HLQ := Lib.hid hlq
  have HLR := Lib.hid hlr
  have hbc := bdr w3
  have q0 := (hbc.cell (p := ⟨b0, 0, none⟩) l0).trans k0
  have q2 := (hbc.cell (p := ⟨b1, 0, none⟩) l1).trans k2
  have q3 := (hbc.cell (p := ⟨b1, 1, none⟩) l1).trans k3
  clear hlq hlr
  clear hmq hmr
  have HBW := Lib.hid hbW
  clear hbW hn hl hl'
  rcases h4 with ⟨rfl, rfl⟩ | ⟨rfl, rfl⟩
  · go_wp2_with fail
    go_region_held3 (fun w' => w'.cell? ⟨b0, 0, none⟩ = some (.bool true) ∧ w'.cell? ⟨b1, 0, none⟩ = some (.bool false) ∧ w'.cell? ⟨b1, 1, none⟩ = some (.slice A' nl c'))
      (first
        | go_keep
        | (dsimp only; exact ⟨q0, q2, q3⟩))
      (first
        | (go_at_call 87; with_reducible refine (minus_any A' Ar nl c' rl cr _ _ _ _ _ (by exact own_below HO2.out hbc) (by exact own_below HMR.out hbc) (by omega) HRLE.out).mono ?_; rintro e w5 ⟨v5, rfl, hm, hb5⟩; obtain ⟨A5, c5, rfl⟩ := hm.form; have hbc := bto hbc hb5; have hp := hp.below hb5; have q0 := (hbc.cell (p := ⟨b0, 0, none⟩) l0).trans k0; have q2 := (hbc.cell (p := ⟨b1, 0, none⟩) l1).trans k2; have q3 := (hbc.cell (p := ⟨b1, 1, none⟩) l1).trans k3)
        | (go_at_call 86; with_reducible refine (plus_any Aq _ _ cq 1 1 _ 1 _ _ _ (by exact own_below HMQ.out (bto (below_alloc w3 (.cells #[.int .u64 1] 95)) (bdr _))) (by exact own_below (own1 w3) (bdr _)) (Nat.le_trans HLQ.out (by decide)) (by decide)).mono ?_; rintro e w6 ⟨v6, rfl, hp, hb6⟩; obtain ⟨A6, c6, rfl⟩ := hp.form; have hbc := bto (bto (below_alloc w3 (.cells #[.int .u64 1] 95)) (bdr _)) hb6; have q0 := (hbc.cell (p := ⟨b0, 0, none⟩) l0).trans k0; have q2 := (hbc.cell (p := ⟨b1, 0, none⟩) l1).trans k2; have q3 := (hbc.cell (p := ⟨b1, 1, none⟩) l1).trans k3))
    have hbc := bto hbc (bdr _)
    have q0 := (hbc.cell (p := ⟨b0, 0, none⟩) l0).trans k0; have q2 := (hbc.cell (p := ⟨b1, 0, none⟩) l1).trans k2; have q3 := (hbc.cell (p := ⟨b1, 1, none⟩) l1).trans k3
    go_wp2_with fail
    go_region_held3 (fun w' => w'.cell? ⟨b0, 0, none⟩ = some (.bool true) ∧ w'.cell? ⟨b1, 0, none⟩ = some (.bool false) ∧ w'.cell? ⟨b1, 1, none⟩ = some (.slice A' nl c'))
        (first
          | go_keep
          | (dsimp only; exact ⟨q0, q2, q3⟩))
        (first
          | (go_at_call 69; have hzz := text_mag true A6 _ c6 _ _ _ (hp.below (bdr w5)) (HG3.out.below hbc) (Nat.le_trans HLQ1.out (by decide)); with_reducible refine hzz.mono ?_; rintro e w4 ⟨rfl, hb4⟩; have hbc := bto hbc hb4; have q0 := (hbc.cell (p := ⟨b0, 0, none⟩) l0).trans k0; have q2 := (hbc.cell (p := ⟨b1, 0, none⟩) l1).trans k2; have q3 := (hbc.cell (p := ⟨b1, 1, none⟩) l1).trans k3)
          | (go_at_call 69; have hzz := text_mag false A5 _ c5 _ _ _ (hm.below (bto (bdr w5) hb4)) (HG3.out.below hbc) (Nat.le_trans HLR1.out (by decide)); with_reducible refine hzz.mono ?_; rintro e w4 ⟨rfl, hb4⟩; have hbc := bto hbc hb4; have q0 := (hbc.cell (p := ⟨b0, 0, none⟩) l0).trans k0; have q2 := (hbc.cell (p := ⟨b1, 0, none⟩) l1).trans k2; have q3 := (hbc.cell (p := ⟨b1, 1, none⟩) l1).trans k3))
    go_wp2
    go_ret3
    exact ⟨rfl, bto HBW.out hbc⟩
  · go_wp2_with fail
    go_region_held3 (fun w' => w'.cell? ⟨b0, 0, none⟩ = some (.bool false) ∧ w'.cell? ⟨b1, 0, none⟩ = some (.bool true) ∧ w'.cell? ⟨b1, 1, none⟩ = some (.slice A' nl c'))
      (first
        | go_keep
        | (dsimp only; exact ⟨q0, q2, q3⟩))
      (first
        | (go_at_call 87; with_reducible refine (minus_any A' Ar nl c' rl cr _ _ _ _ _ (by exact own_below HO2.out hbc) (by exact own_below HMR.out hbc) (by omega) HRLE.out).mono ?_; rintro e w5 ⟨v5, rfl, hm, hb5⟩; obtain ⟨A5, c5, rfl⟩ := hm.form; have hbc := bto hbc hb5; have hp := hp.below hb5; have q0 := (hbc.cell (p := ⟨b0, 0, none⟩) l0).trans k0; have q2 := (hbc.cell (p := ⟨b1, 0, none⟩) l1).trans k2; have q3 := (hbc.cell (p := ⟨b1, 1, none⟩) l1).trans k3)
        | (go_at_call 86; with_reducible refine (plus_any Aq _ _ cq 1 1 _ 1 _ _ _ (by exact own_below HMQ.out (bto (below_alloc w3 (.cells #[.int .u64 1] 95)) (bdr _))) (by exact own_below (own1 w3) (bdr _)) (Nat.le_trans HLQ.out (by decide)) (by decide)).mono ?_; rintro e w6 ⟨v6, rfl, hp, hb6⟩; obtain ⟨A6, c6, rfl⟩ := hp.form; have hbc := bto (bto (below_alloc w3 (.cells #[.int .u64 1] 95)) (bdr _)) hb6; have q0 := (hbc.cell (p := ⟨b0, 0, none⟩) l0).trans k0; have q2 := (hbc.cell (p := ⟨b1, 0, none⟩) l1).trans k2; have q3 := (hbc.cell (p := ⟨b1, 1, none⟩) l1).trans k3))
    have hbc := bto hbc (bdr _)
    have q0 := (hbc.cell (p := ⟨b0, 0, none⟩) l0).trans k0; have q2 := (hbc.cell (p := ⟨b1, 0, none⟩) l1).trans k2; have q3 := (hbc.cell (p := ⟨b1, 1, none⟩) l1).trans k3
    go_wp2_with fail
    go_region_held3 (fun w' => w'.cell? ⟨b0, 0, none⟩ = some (.bool false) ∧ w'.cell? ⟨b1, 0, none⟩ = some (.bool true) ∧ w'.cell? ⟨b1, 1, none⟩ = some (.slice A' nl c'))
        (first
          | go_keep
          | (dsimp only; exact ⟨q0, q2, q3⟩))
        (first
          | (go_at_call 69; have hzz := text_mag true A6 _ c6 _ _ _ (hp.below (bdr w5)) (HG3.out.below hbc) (Nat.le_trans HLQ1.out (by decide)); with_reducible refine hzz.mono ?_; rintro e w4 ⟨rfl, hb4⟩; have hbc := bto hbc hb4; have q0 := (hbc.cell (p := ⟨b0, 0, none⟩) l0).trans k0; have q2 := (hbc.cell (p := ⟨b1, 0, none⟩) l1).trans k2; have q3 := (hbc.cell (p := ⟨b1, 1, none⟩) l1).trans k3)
          | (go_at_call 69; have hzz := text_mag true A5 _ c5 _ _ _ (hm.below (bto (bdr w5) hb4)) (HG3.out.below hbc) (Nat.le_trans HLR1.out (by decide)); with_reducible refine hzz.mono ?_; rintro e w4 ⟨rfl, hb4⟩; have hbc := bto hbc hb4; have q0 := (hbc.cell (p := ⟨b0, 0, none⟩) l0).trans k0; have q2 := (hbc.cell (p := ⟨b1, 0, none⟩) l1).trans k2; have q3 := (hbc.cell (p := ⟨b1, 1, none⟩) l1).trans k3))
    go_wp2
    go_ret3
    exact ⟨rfl, bto HBW.out hbc⟩

theorem idiv_any (l l' : List UInt8) (w : World) (hl : l.length ≤ 100000000) (hl' : l'.length ≤ 100000000) (hG : Glob w) (h0 : val l' ≠ 0) :
    Calls Tryz.prog 57 #[.string ⟨l.toArray⟩, .string ⟨l'.toArray⟩] w (DivEnd w (divZ (val l) (val l')) (modZ (val l) (val l'))) := by
  by_cases hs : negB l = negB l'
  · exact idiv_plain l l' w hl hl' hG h0 (.inl hs)
  · by_cases hr : (val l).natAbs % (val l').natAbs = 0
    · exact idiv_plain l l' w hl hl' hG h0 (.inr hr)
    · exact idiv_step l l' w hl hl' hG h0 hs hr
end Go.Proofs.YtjhafnnfkaejgaaGreatDoor
