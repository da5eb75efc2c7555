/- Package integer: Power. -/
import Derived.Test.YtjhafnnfkaejgaaGreatDoorGcdb
namespace Go.Proofs.YtjhafnnfkaejgaaGreatDoor
open Go.RowKit Num

theorem grp_pow_len (x j : Nat) : (grp (x ^ j)).length ≤ j * (grp x).length + 1 := by
  induction j with
  | zero => simp; decide
  | succ j ih =>
    have h1 := grp_mul_len (x ^ j) x
    rw [Nat.pow_succ, Nat.add_mul, Nat.one_mul]
    omega
theorem sq2 (a : Int) : a ^ 2 = a * a := by rw [Int.pow_succ, Int.pow_succ, Int.pow_zero, Int.one_mul]
theorem sgn_pow (l : List UInt8) (n : Nat) : sgn (negB l && n % 2 == 1) ((val l).natAbs ^ n) = val l ^ n := by
  conv => rhs; rw [← sgn_val l]
  generalize (val l).natAbs = X
  cases negB l
  · simp [sgn]
  · simp only [Bool.true_and, sgn, if_true]
    have h : n % 2 = 0 ∨ n % 2 = 1 := by omega
    rcases h with h | h
    · obtain ⟨k, rfl⟩ : ∃ k, n = 2 * k := ⟨n / 2, by omega⟩
      rw [h]; simp [Int.pow_mul, sq2, Int.neg_mul_neg]
    · obtain ⟨k, rfl⟩ : ∃ k, n = 2 * k + 1 := ⟨n / 2, by omega⟩
      rw [h]; simp [Int.pow_succ, Int.pow_mul, Int.mul_neg, Int.neg_mul]

set_option maxHeartbeats 1000000 in
set_option maxRecDepth 100000 in
theorem ipower_bad (l : List UInt8) (n : Int) (w : World) (h : n < 0 ∨ 400 < n) :
    Calls Tryz.prog 62 #[.string ⟨l.toArray⟩, .int .i64 n] w fun e w' => e = .returned (.tuple #[.string ⟨#[]⟩, .int .i64 2]) ∧ Below w.heap.size w w' := by
  rcases h with h | h
  · have h1 : decide (n < 0) = true := by simp [h]
    clear h
    go_enter Tryz.func62, Tryz.ntmps62
    go_wp2_with fail
    go_ret2
    exact ⟨rfl, Below.refl _ _⟩
  · have h1 : decide (n < 0) = false := by simp; omega
    have h2 : decide (400 < n) = true := by simp [h]
    clear h
    go_enter Tryz.func62, Tryz.ntmps62
    go_wp2_with fail
    go_ret2
    exact ⟨rfl, Below.refl _ _⟩

set_option maxHeartbeats 2000000 in
set_option maxRecDepth 100000 in
theorem ipower_any (l : List UInt8) (n : Nat) (w : World) (hl : l.length ≤ 100000) (hn : n ≤ 400) (hG : Glob w) :
    Calls Tryz.prog 62 #[.string ⟨l.toArray⟩, .int .i64 (n : Int)] w fun e w' => e = .returned (.tuple #[.string ⟨(canon (val l ^ n)).toArray⟩, .int .i64 0]) ∧ Below w.heap.size w w' := by
  rw [← sgn_pow]
  have hlen : (grp (val l).natAbs).length ≤ 100000 := Nat.le_trans (len_val l) hl
  obtain ⟨nx, hnx⟩ : ∃ b, negB l = b := ⟨_, rfl⟩
  rw [hnx]
  have HNX := Lib.hid hnx
  obtain ⟨X, hX⟩ : ∃ X, X = (val l).natAbs := ⟨_, rfl⟩
  rw [← hX] at hlen ⊢
  have HX := Lib.hid hX
  have HLEN := Lib.hid hlen
  clear hlen hX hnx
  have h1 : decide ((n : Int) < 0) = false := by simp
  have h2 : decide (400 < (n : Int)) = false := by simp; omega
  go_enter Tryz.func62, Tryz.ntmps62
  go_wp2_with fail
  ((with_reducible refine (read_var l _ (Nat.le_trans hl (by decide))).mono ?_); rintro e w1 ⟨A, m, c, rfl, hm, ho1, hb1⟩)
  rw [HNX.out]
  go_wp2_with fail
  obtain ⟨W, hW⟩ : ∃ W, W = w1.alloc (.cells #[.bool nx, .slice A m c] 70) := ⟨_, rfl⟩
  obtain ⟨b0, hb0⟩ : ∃ b, b = w1.heap.size := ⟨_, rfl⟩
  have k0 : W.cell? ⟨b0, 0, none⟩ = some (.bool nx) := by rw [hW, hb0]; simp [go_sem]
  have k1 : W.cell? ⟨b0, 1, none⟩ = some (.slice A m c) := by rw [hW, hb0]; simp [go_sem]
  have l0 : b0 < W.heap.size := by rw [hW, hb0]; simp
  have hbx : Below w1.heap.size w1 W := by rw [hW]; exact below_alloc _ _
  rw [← hW, ← hb0]
  have hbW : Below w.heap.size w W := bto hb1 hbx
  have HO1 := Lib.hid (own_below ho1 hbx)
  clear hW ho1 hb0 hb1 hbx
  go_region_held3 (fun w' => w'.cell? ⟨b0, 0, none⟩ = some (.bool nx) ∧ w'.cell? ⟨b0, 1, none⟩ = some (.slice A m c))
    (first
      | go_keep
      | (dsimp only; exact ⟨k0, k1⟩))
    (fail)
  have hst : Below W.heap.size W (W.alloc (.cells #[.int .u64 1] 95)).drew := bto (below_alloc _ _) (bdr _)
  have HST := Lib.hid hst
  have HS1 := Lib.hid (own_below (own1 W) (bdr _))
  have HS2 := Lib.hid (own_below HO1.out hst)
  clear hst
  go_wp2
  go_loopw [7, 8, 9] (fun ov sv kv wr => ∃ (a e k : Nat) (Ao : Option Addr) (no co : Nat) (As : Option Addr) (ns cs : Nat), ov = .slice Ao no co ∧ sv = .slice As ns cs ∧ kv = .int .i64 (k : Int) ∧ k ≤ n ∧ Hid (a + e * k = n) ∧
      Hid (wr.ownsRow 0 95 1 (.slice Ao no co) no (U (grp (X ^ a)))) ∧ Hid (wr.ownsRow 0 95 1 (.slice As ns cs) ns (U (grp (X ^ e)))) ∧ Hid (Below W.heap.size W wr)) (fun _ _ kv _ => (intOf kv).toNat)
  case atStart =>
    refine ⟨0, 1, n, _, _, _, _, _, _, rfl, rfl, rfl, Nat.le_refl _, ?_, ?_, ?_, ?_⟩
    · show _ = _; omega
    · show World.ownsRow _ _ _ _ _ _ _; rw [Nat.pow_zero]; exact HS1.out
    · show World.ownsRow _ _ _ _ _ _ _; rw [Nat.pow_one, HX.out]; exact own_base HS2.out (Nat.zero_le _)
    · exact HST.out
  case round =>
    obtain ⟨a, e, k, Ao, no, co, As, ns, cs, rfl, rfl, rfl, hkn, HA, HO, HS, HB⟩ := hrel
    have hno : no ≤ 1000000000 := by
      have h1 := own_len HO.out; have h2 := grp_pow_len X a; have h3 := HLEN.out; have h4 := HA.out
      have h5 : a * (grp X).length ≤ 400 * 100000 := Nat.mul_le_mul (by omega) h3
      omega
    by_cases hk0 : k = 0
    · subst hk0
      have ha : a = n := by have := HA.out; omega
      subst ha
      have q0 := (HB.out.cell (p := ⟨b0, 0, none⟩) l0).trans k0
      have HG3 := Lib.hid (hG.below (bto hbW HB.out))
      cases nx
      · go_wp2_with fail
        ((with_reducible refine (text_mag false Ao no co _ _ _ (by exact HO.out) (by exact HG3.out) hno).mono ?_); rintro e w5 ⟨rfl, hb5⟩)
        go_wp2
        go_ret2
        exact ⟨rfl, bto (bto hbW HB.out) hb5⟩
      · by_cases hodd : a % 2 = 1
        · have ho1 : ((a : Int) % 2 == 1) = true := by simp; omega
          have ho2 : (a % 2 == 1) = true := by simp [hodd]
          have HO2 := Lib.hid ho2
          clear ho2
          go_wp2_with fail
          ((with_reducible refine (text_mag true Ao no co _ _ _ (by exact HO.out) (by exact HG3.out) hno).mono ?_); rintro e w5 ⟨rfl, hb5⟩)
          go_wp2
          go_ret2
          exact ⟨by rw [HO2.out]; rfl, bto (bto hbW HB.out) hb5⟩
        · have ho1 : ((a : Int) % 2 == 1) = false := by simp; omega
          have ho2 : (a % 2 == 1) = false := by simp [hodd]
          have HO2 := Lib.hid ho2
          clear ho2
          go_wp2_with fail
          ((with_reducible refine (text_mag false Ao no co _ _ _ (by exact HO.out) (by exact HG3.out) hno).mono ?_); rintro e w5 ⟨rfl, hb5⟩)
          go_wp2
          go_ret2
          exact ⟨by rw [HO2.out]; rfl, bto (bto hbW HB.out) hb5⟩
    · have hns : ns ≤ 1000000000 := by
        have h1 := own_len HS.out; have h2 := grp_pow_len X e; have h3 := HLEN.out; have h4 := HA.out
        have h6 : e ≤ e * k := Nat.le_mul_of_pos_right _ (Nat.pos_of_ne_zero hk0)
        have h5 : e * (grp X).length ≤ 400 * 100000 := Nat.mul_le_mul (by omega) h3
        omega
      by_cases hk1 : k = 1
      · subst hk1
        go_wp2_with fail
        ((with_reducible refine (times_any Ao As no co ns cs _ _ _ _ _ (by exact HO.out) (by exact HS.out) hno hns).mono ?_); rintro e w3 ⟨v3, rfl, hm3, hb3⟩)
        obtain ⟨A3, c3, rfl⟩ := hm3.form
        go_wp2
        go_roundw
        case rel =>
          refine ⟨a + e, e, 0, A3, _, c3, As, ns, cs, rfl, rfl, rfl, Nat.zero_le _, ?_, ?_, own_below HS.out hb3, bto HB.out hb3⟩
          · show _ = _; have := HA.out; omega
          · show World.ownsRow _ _ _ _ _ _ _; rw [Nat.pow_add]; exact own_base hm3 (Nat.zero_le _)
        case measure => simp [intOf]
      · have hk2 : 2 ≤ k := by omega
        have hkn : k ≤ 400 := by omega
        have hk3 : decide (1 < (k : Int)) = true := by simp; omega
        have hk4 : decide (0 < k) = true := by simp; omega
        have hns2 : ∀ j, e * (2 * j) = (e + e) * j := fun j => by rw [← Nat.mul_assoc, Nat.mul_comm e 2, Nat.two_mul]
        have HN2 := Lib.hid hns2
        clear hk0 hk1 hns2
        by_cases hodd : k % 2 = 1
        · have ho1 : ((k : Int) % 2 == 1) = true := by simp; omega
          go_wp2_with fail
          ((with_reducible refine (times_any Ao As no co ns cs _ _ _ _ _ (by exact HO.out) (by exact HS.out) hno hns).mono ?_); rintro e w3 ⟨v3, rfl, hm3, hb3⟩)
          obtain ⟨A3, c3, rfl⟩ := hm3.form
          go_wp2_with fail
          ((with_reducible refine (times_any As As ns cs ns cs _ _ _ _ _ (by exact own_below HS.out hb3) (by exact own_below HS.out hb3) hns hns).mono ?_); rintro e w4 ⟨v4, rfl, hm4, hb4⟩)
          obtain ⟨A4, c4, rfl⟩ := hm4.form
          go_wp2
          go_roundw
          case rel =>
            refine ⟨a + e, e + e, k / 2, A3, _, c3, A4, _, c4, rfl, rfl, congrArg (Value.int .i64) (by omega), by omega, ?_, ?_, ?_, bto (bto HB.out hb3) hb4⟩
            · show _ = _
              have h1 := HA.out; have h2 := HN2.out (k / 2)
              have h3 : k = 2 * (k / 2) + 1 := by omega
              rw [h3, Nat.mul_add, Nat.mul_one] at h1
              omega
            · show World.ownsRow _ _ _ _ _ _ _; rw [Nat.pow_add]; exact own_below (own_base hm3 (Nat.zero_le _)) hb4
            · show World.ownsRow _ _ _ _ _ _ _; rw [Nat.pow_add]; exact own_base hm4 (Nat.zero_le _)
          case measure => simp [intOf]; omega
        · have ho1 : ((k : Int) % 2 == 1) = false := by simp; omega
          go_wp2_with fail
          ((with_reducible refine (times_any As As ns cs ns cs _ _ _ _ _ (by exact HS.out) (by exact HS.out) hns hns).mono ?_); rintro e w4 ⟨v4, rfl, hm4, hb4⟩)
          obtain ⟨A4, c4, rfl⟩ := hm4.form
          go_wp2
          go_roundw
          case rel =>
            refine ⟨a, e + e, k / 2, Ao, no, co, A4, _, c4, rfl, rfl, congrArg (Value.int .i64) (by omega), by omega, ?_, own_below HO.out hb4, ?_, bto HB.out hb4⟩
            · show _ = _
              have h1 := HA.out; have h2 := HN2.out (k / 2)
              have h3 : k = 2 * (k / 2) := by omega
              rw [h3] at h1
              omega
            · show World.ownsRow _ _ _ _ _ _ _; rw [Nat.pow_add]; exact own_base hm4 (Nat.zero_le _)
          case measure => simp [intOf]; omega
end Go.Proofs.YtjhafnnfkaejgaaGreatDoor
