/- trancheref46: Annual. -/
import Derived.Test.YtmjglcgdcclinaaGreatDoorTt
namespace Go.Proofs.YtmjglcgdcclinaaGreatDoor
open Go.RowKit Num
theorem pow_abs {y : Int} {K : Nat} (h : y.natAbs < 10 ^ K) (k : Nat) : (y ^ k).natAbs < 10 ^ (K * k + 1) := by
  rw [Int.natAbs_pow]
  have h1 : y.natAbs ^ k ≤ (10 ^ K) ^ k := Nat.pow_le_pow_left (Nat.le_of_lt h) k
  rw [← Nat.pow_mul] at h1
  exact Nat.lt_of_le_of_lt h1 (Nat.pow_lt_pow_right (by decide) (by omega))
theorem pow_len {y : Int} {K k : Nat} (h : y.natAbs < 10 ^ K) (hK : K ≤ 90) (hk : k ≤ 12) : (canon (y ^ k)).length ≤ 1100 := by
  have h2 : K * k ≤ 90 * 12 := Nat.mul_le_mul hK hk
  exact Nat.le_trans (canon_len_le _ _ (pow_abs h k)) (by omega)
set_option maxHeartbeats 2000000 in
set_option maxRecDepth 100000 in
theorem rwPower {y : Int} {K n : Nat} (h : y.natAbs < 10 ^ K) (hK : K ≤ 90) (hn : n ≤ 12) : Ret 117 #[.string ⟨(canon y).toArray⟩, .int .i64 (n : Int)] (.string ⟨(canon (y ^ n)).toArray⟩) := fun w hG => by
  have C1 := Lib.hid (qOf1 1 (by decide) (by decide))
  have hly := canon_len_le y K h
  have HM : Hid (∀ k, k ≤ n → Ret 120 #[.string ⟨(canon (y ^ k)).toArray⟩, .string ⟨(canon y).toArray⟩] (.string ⟨(canon (y ^ (k + 1))).toArray⟩)) := fun k hk => qMul (by have := pow_len h hK (show k ≤ 12 by omega); omega) (by omega) (by rw [val_canon, val_canon, Int.pow_succ])
  have hb := Below.refl w.heap.size w
  clear h hly
  generalize hY : canon y = Y at *
  clear hY
  obtain ⟨pw, hpw⟩ : ∃ pw : Nat → List UInt8, pw = fun k => canon (y ^ k) := ⟨_, rfl⟩
  have HM2 : Hid (∀ k, k ≤ n → Ret 120 #[.string ⟨(pw k).toArray⟩, .string ⟨Y.toArray⟩] (.string ⟨(pw (k + 1)).toArray⟩)) := fun k hk => by rw [hpw]; exact HM.out k hk
  have h0 : canon 1 = pw 0 := by rw [hpw]; show _ = canon (y ^ 0); rw [Int.pow_zero]
  rw [h0] at C1
  have HN : Hid (canon (y ^ n) = pw n) := by show _ = _; rw [hpw]
  rw [HN.out]
  clear HM h0 hpw HN
  go_enter Tryz.func117, Tryz.ntmps117
  go_wp2_with fail
  ((with_reducible refine (C1.out.of hG hb).mono ?_); rintro e w2 ⟨rfl, hb2⟩)
  replace hb := bto hb hb2
  clear hb2 C1
  go_wp2_with fail
  go_loopw [5, 6] (fun pv iv wr => ∃ k : Nat, k ≤ n ∧ iv = .int .i64 (k : Int) ∧ pv = .string ⟨(pw k).toArray⟩ ∧ Below w.heap.size w wr) (fun _ iv _ => n - (intOf iv).toNat)
  case atStart => exact ⟨0, Nat.zero_le _, rfl, rfl, hb⟩
  case round =>
    clear hb
    obtain ⟨k, hk, rfl, rfl, hb⟩ := hrel
    by_cases hlt : k < n
    · have C2 := Lib.hid (HM2.out k (by omega))
      go_wp2_with fail
      ((with_reducible refine (C2.out.of hG hb).mono ?_); rintro e w3 ⟨rfl, hb3⟩)
      replace hb := bto hb hb3
      clear hb3 C2
      go_wp2
      go_roundw
      case rel => exact ⟨k + 1, by omega, by go_num, rfl, hb⟩
      case measure => simp [intOf]; omega
    · obtain rfl : k = n := by omega
      go_wp2
      go_ret
      exact ⟨rfl, hb⟩
set_option maxHeartbeats 4000000 in
set_option maxRecDepth 100000 in
theorem rwAnnual_bad (l l' : List UInt8) (y p z : Int) (w : World) (hG : Glob w) (hl : l.length ≤ 60) (hl' : l'.length ≤ 60) (hbad : ¬ (l = fN (fv l l') ∧ l' = fD (fv l l')) ∨ annBad (fv l l') y p) :
    Calls Tryz.prog 52 #[(Value.agg #[Value.string ⟨List.toArray l⟩, Value.string ⟨List.toArray l'⟩]), .int .i64 y, .int .i64 p] w fun e w' => e = .returned (annV l l' y p z) ∧ Below w.heap.size w w' := by
  obtain ⟨W, hW⟩ : ∃ W, W = (((w.alloc (.cells #[.string ⟨l.toArray⟩, .string ⟨l'.toArray⟩] 32)).alloc (.cells #[.string ⟨#[]⟩, .string ⟨#[]⟩] 32)).alloc (.cells #[.string ⟨#[]⟩, .string ⟨#[]⟩] 32)) := ⟨_, rfl⟩
  have x3 : Blk W w.heap.size #[.string ⟨l.toArray⟩, .string ⟨l'.toArray⟩] := by rw [hW]; exact ((Blk.new w _ 32).below (below_alloc _ _)).below (below_alloc _ _)
  have z6 : W.heap[w.heap.size + 1]? = some (.cells #[.string ⟨#[]⟩, .string ⟨#[]⟩] 32) := by
    rw [hW]
    have h2 := World.alloc_heap_new (w.alloc (.cells #[.string ⟨l.toArray⟩, .string ⟨l'.toArray⟩] 32)) (.cells #[.string ⟨#[]⟩, .string ⟨#[]⟩] 32)
    have h1 := (below_alloc ((w.alloc (.cells #[.string ⟨l.toArray⟩, .string ⟨l'.toArray⟩] 32)).alloc (.cells #[.string ⟨#[]⟩, .string ⟨#[]⟩] 32)) (.cells #[.string ⟨#[]⟩, .string ⟨#[]⟩] 32)).block (w.heap.size + 1) (by simp only [World.size_alloc]; omega)
    simp only [World.size_alloc] at h2
    exact h1.trans h2
  have z7 : W.heap[w.heap.size + 1 + 1]? = some (.cells #[.string ⟨#[]⟩, .string ⟨#[]⟩] 32) := by
    rw [hW]
    have h2 := World.alloc_heap_new ((w.alloc (.cells #[.string ⟨l.toArray⟩, .string ⟨l'.toArray⟩] 32)).alloc (.cells #[.string ⟨#[]⟩, .string ⟨#[]⟩] 32)) (.cells #[.string ⟨#[]⟩, .string ⟨#[]⟩] 32)
    simp only [World.size_alloc] at h2
    exact h2
  have hb : Below w.heap.size w W := by rw [hW]; exact bto (below_alloc _ _) (bto (below_alloc _ _) (below_alloc _ _))
  have hsW : W.heap.size = w.heap.size + 3 := by rw [hW]; simp only [World.size_alloc]
  have HW := Lib.hid hW
  clear hW
  by_cases g : l = fN (fv l l') ∧ l' = fD (fv l l')
  rotate_left
  · have HV : Hid (annV l l' y p z = .tuple #[.agg #[.string ⟨#[]⟩, .string ⟨#[]⟩], .agg #[.string ⟨#[]⟩, .string ⟨#[]⟩], .int .i64 1]) := if_pos g
    have C1 := Lib.hid (sCheck (l := l) (l' := l') (by omega) (by omega) rfl (if_neg g))
    clear g hbad
    go_enter Tryz.func52, Tryz.ntmps52
    go_wp2_with fail
    rw [← HW.out]
    have q30 := x3.c 0
    have q31 := x3.c 1
    go_wp2_with fail
    ((with_reducible refine (C1.out.of hG hb).mono ?_); rintro e w1 ⟨rfl, hb1⟩)
    replace x3 := x3.below hb1
    replace z6 := (hb1.block _ (Array.getElem?_eq_some_iff.1 z6).1).trans z6
    replace z7 := (hb1.block _ (Array.getElem?_eq_some_iff.1 z7).1).trans z7
    replace hb := bto hb hb1
    clear hb1
    clear q30 q31
    have y6 := FBox.ofB z6
    have y7 := FBox.ofB z7
    have g0 := y6.c0
    have g1 := y6.c1
    have g2 := y6.f0
    have g3 := y6.f1
    have k0 := y7.c0
    have k1 := y7.c1
    have k2 := y7.f0
    have k3 := y7.f1
    have hn67 : w.heap.size + 1 ≠ w.heap.size + 1 + 1 := by omega
    go_wp2
    have hy6 := (y6.set (.string ⟨#[]⟩) (.string ⟨#[]⟩)).setNe hn67 (.string ⟨#[]⟩) (.string ⟨#[]⟩)
    have hy7 := (y7.setNe (Ne.symm hn67) (.string ⟨#[]⟩) (.string ⟨#[]⟩)).set (.string ⟨#[]⟩) (.string ⟨#[]⟩)
    have d0 := hy6.c0
    have d1 := hy6.c1
    have d2 := hy7.c0
    have d3 := hy7.c1
    refine bodyPost_ret (v := .tuple #[.agg #[.string ⟨#[]⟩, .string ⟨#[]⟩], .agg #[.string ⟨#[]⟩, .string ⟨#[]⟩], .int .i64 1]) (by simp [results, Tryz.results52, go_sem, d0, d1, d2, d3]) rfl ?_
    exact ⟨by rw [HV.out], below_set2 (b := w.heap.size + 1 + 1) (below_set2 (b := w.heap.size + 1) hb (by omega) _ _) (by omega) _ _⟩
  have gb : annBad (fv l l') y p := by rcases hbad with h | h; exact absurd g h; exact h
  have HV : Hid (annV l l' y p z = .tuple #[.agg #[.string ⟨#[]⟩, .string ⟨#[]⟩], .agg #[.string ⟨#[]⟩, .string ⟨#[]⟩], .int .i64 2]) := by show _ = _; unfold annV; rw [if_neg (fun h => h g), if_pos gb]
  have C1 := Lib.hid (sCheck (l := l) (l' := l') (by omega) (by omega) rfl (if_pos g))
  have hcq : cmpQ (fv l l') 0 ≤ 0 ↔ fv l l' ≤ 0 := cmpQ_le0
  have C2 := Lib.hid (sSign (l := l) (l' := l') (by omega) (by omega) rfl)
  unfold annBad at gb
  rw [← hcq] at gb
  generalize cmpQ (fv l l') 0 = cc at *
  clear g hbad hcq
  by_cases a1 : cc ≤ 0
  · have e1 : decide (cc ≤ 0) = true := decide_eq_true (by omega)
    clear gb
    go_enter Tryz.func52, Tryz.ntmps52
    go_wp2_with fail
    rw [← HW.out]
    have q30 := x3.c 0
    have q31 := x3.c 1
    go_wp2_with fail
    ((with_reducible refine (C1.out.of hG hb).mono ?_); rintro e w1 ⟨rfl, hb1⟩)
    replace x3 := x3.below hb1
    replace z6 := (hb1.block _ (Array.getElem?_eq_some_iff.1 z6).1).trans z6
    replace z7 := (hb1.block _ (Array.getElem?_eq_some_iff.1 z7).1).trans z7
    replace hb := bto hb hb1
    clear hb1
    replace q30 := x3.c 0
    replace q31 := x3.c 1
    go_wp2_with fail
    ((with_reducible refine (C2.out.of hG hb).mono ?_); rintro e w2 ⟨rfl, hb2⟩)
    replace x3 := x3.below hb2
    replace z6 := (hb2.block _ (Array.getElem?_eq_some_iff.1 z6).1).trans z6
    replace z7 := (hb2.block _ (Array.getElem?_eq_some_iff.1 z7).1).trans z7
    replace hb := bto hb hb2
    clear hb2
    clear q30 q31
    have y6 := FBox.ofB z6
    have y7 := FBox.ofB z7
    have g0 := y6.c0
    have g1 := y6.c1
    have g2 := y6.f0
    have g3 := y6.f1
    have k0 := y7.c0
    have k1 := y7.c1
    have k2 := y7.f0
    have k3 := y7.f1
    have hn67 : w.heap.size + 1 ≠ w.heap.size + 1 + 1 := by omega
    go_wp2
    have hy6 := (y6.set (.string ⟨#[]⟩) (.string ⟨#[]⟩)).setNe hn67 (.string ⟨#[]⟩) (.string ⟨#[]⟩)
    have hy7 := (y7.setNe (Ne.symm hn67) (.string ⟨#[]⟩) (.string ⟨#[]⟩)).set (.string ⟨#[]⟩) (.string ⟨#[]⟩)
    have d0 := hy6.c0
    have d1 := hy6.c1
    have d2 := hy7.c0
    have d3 := hy7.c1
    refine bodyPost_ret (v := .tuple #[.agg #[.string ⟨#[]⟩, .string ⟨#[]⟩], .agg #[.string ⟨#[]⟩, .string ⟨#[]⟩], .int .i64 2]) (by simp [results, Tryz.results52, go_sem, d0, d1, d2, d3]) rfl ?_
    exact ⟨by rw [HV.out], below_set2 (b := w.heap.size + 1 + 1) (below_set2 (b := w.heap.size + 1) hb (by omega) _ _) (by omega) _ _⟩
  by_cases a2 : y < 1
  · have e1 : decide (cc ≤ 0) = false := decide_eq_false (by omega)
    have e2 : decide (y < 1) = true := decide_eq_true (by omega)
    clear gb
    go_enter Tryz.func52, Tryz.ntmps52
    go_wp2_with fail
    rw [← HW.out]
    have q30 := x3.c 0
    have q31 := x3.c 1
    go_wp2_with fail
    ((with_reducible refine (C1.out.of hG hb).mono ?_); rintro e w1 ⟨rfl, hb1⟩)
    replace x3 := x3.below hb1
    replace z6 := (hb1.block _ (Array.getElem?_eq_some_iff.1 z6).1).trans z6
    replace z7 := (hb1.block _ (Array.getElem?_eq_some_iff.1 z7).1).trans z7
    replace hb := bto hb hb1
    clear hb1
    replace q30 := x3.c 0
    replace q31 := x3.c 1
    go_wp2_with fail
    ((with_reducible refine (C2.out.of hG hb).mono ?_); rintro e w2 ⟨rfl, hb2⟩)
    replace x3 := x3.below hb2
    replace z6 := (hb2.block _ (Array.getElem?_eq_some_iff.1 z6).1).trans z6
    replace z7 := (hb2.block _ (Array.getElem?_eq_some_iff.1 z7).1).trans z7
    replace hb := bto hb hb2
    clear hb2
    clear q30 q31
    have y6 := FBox.ofB z6
    have y7 := FBox.ofB z7
    have g0 := y6.c0
    have g1 := y6.c1
    have g2 := y6.f0
    have g3 := y6.f1
    have k0 := y7.c0
    have k1 := y7.c1
    have k2 := y7.f0
    have k3 := y7.f1
    have hn67 : w.heap.size + 1 ≠ w.heap.size + 1 + 1 := by omega
    go_wp2
    have hy6 := (y6.set (.string ⟨#[]⟩) (.string ⟨#[]⟩)).setNe hn67 (.string ⟨#[]⟩) (.string ⟨#[]⟩)
    have hy7 := (y7.setNe (Ne.symm hn67) (.string ⟨#[]⟩) (.string ⟨#[]⟩)).set (.string ⟨#[]⟩) (.string ⟨#[]⟩)
    have d0 := hy6.c0
    have d1 := hy6.c1
    have d2 := hy7.c0
    have d3 := hy7.c1
    refine bodyPost_ret (v := .tuple #[.agg #[.string ⟨#[]⟩, .string ⟨#[]⟩], .agg #[.string ⟨#[]⟩, .string ⟨#[]⟩], .int .i64 2]) (by simp [results, Tryz.results52, go_sem, d0, d1, d2, d3]) rfl ?_
    exact ⟨by rw [HV.out], below_set2 (b := w.heap.size + 1 + 1) (below_set2 (b := w.heap.size + 1) hb (by omega) _ _) (by omega) _ _⟩
  by_cases a3 : 100 < y
  · have e1 : decide (cc ≤ 0) = false := decide_eq_false (by omega)
    have e2 : decide (y < 1) = false := decide_eq_false (by omega)
    have e3 : decide (100 < y) = true := decide_eq_true (by omega)
    clear gb
    go_enter Tryz.func52, Tryz.ntmps52
    go_wp2_with fail
    rw [← HW.out]
    have q30 := x3.c 0
    have q31 := x3.c 1
    go_wp2_with fail
    ((with_reducible refine (C1.out.of hG hb).mono ?_); rintro e w1 ⟨rfl, hb1⟩)
    replace x3 := x3.below hb1
    replace z6 := (hb1.block _ (Array.getElem?_eq_some_iff.1 z6).1).trans z6
    replace z7 := (hb1.block _ (Array.getElem?_eq_some_iff.1 z7).1).trans z7
    replace hb := bto hb hb1
    clear hb1
    replace q30 := x3.c 0
    replace q31 := x3.c 1
    go_wp2_with fail
    ((with_reducible refine (C2.out.of hG hb).mono ?_); rintro e w2 ⟨rfl, hb2⟩)
    replace x3 := x3.below hb2
    replace z6 := (hb2.block _ (Array.getElem?_eq_some_iff.1 z6).1).trans z6
    replace z7 := (hb2.block _ (Array.getElem?_eq_some_iff.1 z7).1).trans z7
    replace hb := bto hb hb2
    clear hb2
    clear q30 q31
    have y6 := FBox.ofB z6
    have y7 := FBox.ofB z7
    have g0 := y6.c0
    have g1 := y6.c1
    have g2 := y6.f0
    have g3 := y6.f1
    have k0 := y7.c0
    have k1 := y7.c1
    have k2 := y7.f0
    have k3 := y7.f1
    have hn67 : w.heap.size + 1 ≠ w.heap.size + 1 + 1 := by omega
    go_wp2
    have hy6 := (y6.set (.string ⟨#[]⟩) (.string ⟨#[]⟩)).setNe hn67 (.string ⟨#[]⟩) (.string ⟨#[]⟩)
    have hy7 := (y7.setNe (Ne.symm hn67) (.string ⟨#[]⟩) (.string ⟨#[]⟩)).set (.string ⟨#[]⟩) (.string ⟨#[]⟩)
    have d0 := hy6.c0
    have d1 := hy6.c1
    have d2 := hy7.c0
    have d3 := hy7.c1
    refine bodyPost_ret (v := .tuple #[.agg #[.string ⟨#[]⟩, .string ⟨#[]⟩], .agg #[.string ⟨#[]⟩, .string ⟨#[]⟩], .int .i64 2]) (by simp [results, Tryz.results52, go_sem, d0, d1, d2, d3]) rfl ?_
    exact ⟨by rw [HV.out], below_set2 (b := w.heap.size + 1 + 1) (below_set2 (b := w.heap.size + 1) hb (by omega) _ _) (by omega) _ _⟩
  by_cases a4 : p < 0
  · have e1 : decide (cc ≤ 0) = false := decide_eq_false (by omega)
    have e2 : decide (y < 1) = false := decide_eq_false (by omega)
    have e3 : decide (100 < y) = false := decide_eq_false (by omega)
    have e4 : decide (p < 0) = true := decide_eq_true (by omega)
    clear gb
    go_enter Tryz.func52, Tryz.ntmps52
    go_wp2_with fail
    rw [← HW.out]
    have q30 := x3.c 0
    have q31 := x3.c 1
    go_wp2_with fail
    ((with_reducible refine (C1.out.of hG hb).mono ?_); rintro e w1 ⟨rfl, hb1⟩)
    replace x3 := x3.below hb1
    replace z6 := (hb1.block _ (Array.getElem?_eq_some_iff.1 z6).1).trans z6
    replace z7 := (hb1.block _ (Array.getElem?_eq_some_iff.1 z7).1).trans z7
    replace hb := bto hb hb1
    clear hb1
    replace q30 := x3.c 0
    replace q31 := x3.c 1
    go_wp2_with fail
    ((with_reducible refine (C2.out.of hG hb).mono ?_); rintro e w2 ⟨rfl, hb2⟩)
    replace x3 := x3.below hb2
    replace z6 := (hb2.block _ (Array.getElem?_eq_some_iff.1 z6).1).trans z6
    replace z7 := (hb2.block _ (Array.getElem?_eq_some_iff.1 z7).1).trans z7
    replace hb := bto hb hb2
    clear hb2
    clear q30 q31
    have y6 := FBox.ofB z6
    have y7 := FBox.ofB z7
    have g0 := y6.c0
    have g1 := y6.c1
    have g2 := y6.f0
    have g3 := y6.f1
    have k0 := y7.c0
    have k1 := y7.c1
    have k2 := y7.f0
    have k3 := y7.f1
    have hn67 : w.heap.size + 1 ≠ w.heap.size + 1 + 1 := by omega
    go_wp2
    have hy6 := (y6.set (.string ⟨#[]⟩) (.string ⟨#[]⟩)).setNe hn67 (.string ⟨#[]⟩) (.string ⟨#[]⟩)
    have hy7 := (y7.setNe (Ne.symm hn67) (.string ⟨#[]⟩) (.string ⟨#[]⟩)).set (.string ⟨#[]⟩) (.string ⟨#[]⟩)
    have d0 := hy6.c0
    have d1 := hy6.c1
    have d2 := hy7.c0
    have d3 := hy7.c1
    refine bodyPost_ret (v := .tuple #[.agg #[.string ⟨#[]⟩, .string ⟨#[]⟩], .agg #[.string ⟨#[]⟩, .string ⟨#[]⟩], .int .i64 2]) (by simp [results, Tryz.results52, go_sem, d0, d1, d2, d3]) rfl ?_
    exact ⟨by rw [HV.out], below_set2 (b := w.heap.size + 1 + 1) (below_set2 (b := w.heap.size + 1) hb (by omega) _ _) (by omega) _ _⟩
  · have a5 : 12 < p := by omega
    have e1 : decide (cc ≤ 0) = false := decide_eq_false (by omega)
    have e2 : decide (y < 1) = false := decide_eq_false (by omega)
    have e3 : decide (100 < y) = false := decide_eq_false (by omega)
    have e4 : decide (p < 0) = false := decide_eq_false (by omega)
    have e5 : decide (12 < p) = true := decide_eq_true (by omega)
    clear gb
    go_enter Tryz.func52, Tryz.ntmps52
    go_wp2_with fail
    rw [← HW.out]
    have q30 := x3.c 0
    have q31 := x3.c 1
    go_wp2_with fail
    ((with_reducible refine (C1.out.of hG hb).mono ?_); rintro e w1 ⟨rfl, hb1⟩)
    replace x3 := x3.below hb1
    replace z6 := (hb1.block _ (Array.getElem?_eq_some_iff.1 z6).1).trans z6
    replace z7 := (hb1.block _ (Array.getElem?_eq_some_iff.1 z7).1).trans z7
    replace hb := bto hb hb1
    clear hb1
    replace q30 := x3.c 0
    replace q31 := x3.c 1
    go_wp2_with fail
    ((with_reducible refine (C2.out.of hG hb).mono ?_); rintro e w2 ⟨rfl, hb2⟩)
    replace x3 := x3.below hb2
    replace z6 := (hb2.block _ (Array.getElem?_eq_some_iff.1 z6).1).trans z6
    replace z7 := (hb2.block _ (Array.getElem?_eq_some_iff.1 z7).1).trans z7
    replace hb := bto hb hb2
    clear hb2
    clear q30 q31
    have y6 := FBox.ofB z6
    have y7 := FBox.ofB z7
    have g0 := y6.c0
    have g1 := y6.c1
    have g2 := y6.f0
    have g3 := y6.f1
    have k0 := y7.c0
    have k1 := y7.c1
    have k2 := y7.f0
    have k3 := y7.f1
    have hn67 : w.heap.size + 1 ≠ w.heap.size + 1 + 1 := by omega
    go_wp2
    have hy6 := (y6.set (.string ⟨#[]⟩) (.string ⟨#[]⟩)).setNe hn67 (.string ⟨#[]⟩) (.string ⟨#[]⟩)
    have hy7 := (y7.setNe (Ne.symm hn67) (.string ⟨#[]⟩) (.string ⟨#[]⟩)).set (.string ⟨#[]⟩) (.string ⟨#[]⟩)
    have d0 := hy6.c0
    have d1 := hy6.c1
    have d2 := hy7.c0
    have d3 := hy7.c1
    refine bodyPost_ret (v := .tuple #[.agg #[.string ⟨#[]⟩, .string ⟨#[]⟩], .agg #[.string ⟨#[]⟩, .string ⟨#[]⟩], .int .i64 2]) (by simp [results, Tryz.results52, go_sem, d0, d1, d2, d3]) rfl ?_
    exact ⟨by rw [HV.out], below_set2 (b := w.heap.size + 1 + 1) (below_set2 (b := w.heap.size + 1) hb (by omega) _ _) (by omega) _ _⟩
set_option maxHeartbeats 8000000 in
set_option maxRecDepth 100000 in
theorem rwAnnual_ok (l l' : List UInt8) (y p z : Int) (w : World) (hG : Glob w) (hl : l.length ≤ 60) (hl' : l'.length ≤ 60) (g : l = fN (fv l l') ∧ l' = fD (fv l l')) (gb : ¬ annBad (fv l l') y p) (hy8 : y ≤ 8) (hR : RootA (fv l l') y.toNat ((10 ^ p.toNat : Nat) : Int) z) :
    Calls Tryz.prog 52 #[(Value.agg #[Value.string ⟨List.toArray l⟩, Value.string ⟨List.toArray l'⟩]), .int .i64 y, .int .i64 p] w fun e w' => e = .returned (annV l l' y p z) ∧ Below w.heap.size w w' := by
  obtain ⟨W, hW⟩ : ∃ W, W = (((w.alloc (.cells #[.string ⟨l.toArray⟩, .string ⟨l'.toArray⟩] 32)).alloc (.cells #[.string ⟨#[]⟩, .string ⟨#[]⟩] 32)).alloc (.cells #[.string ⟨#[]⟩, .string ⟨#[]⟩] 32)) := ⟨_, rfl⟩
  have x3 : Blk W w.heap.size #[.string ⟨l.toArray⟩, .string ⟨l'.toArray⟩] := by rw [hW]; exact ((Blk.new w _ 32).below (below_alloc _ _)).below (below_alloc _ _)
  have z6 : W.heap[w.heap.size + 1]? = some (.cells #[.string ⟨#[]⟩, .string ⟨#[]⟩] 32) := by
    rw [hW]
    have h2 := World.alloc_heap_new (w.alloc (.cells #[.string ⟨l.toArray⟩, .string ⟨l'.toArray⟩] 32)) (.cells #[.string ⟨#[]⟩, .string ⟨#[]⟩] 32)
    have h1 := (below_alloc ((w.alloc (.cells #[.string ⟨l.toArray⟩, .string ⟨l'.toArray⟩] 32)).alloc (.cells #[.string ⟨#[]⟩, .string ⟨#[]⟩] 32)) (.cells #[.string ⟨#[]⟩, .string ⟨#[]⟩] 32)).block (w.heap.size + 1) (by simp only [World.size_alloc]; omega)
    simp only [World.size_alloc] at h2
    exact h1.trans h2
  have z7 : W.heap[w.heap.size + 1 + 1]? = some (.cells #[.string ⟨#[]⟩, .string ⟨#[]⟩] 32) := by
    rw [hW]
    have h2 := World.alloc_heap_new ((w.alloc (.cells #[.string ⟨l.toArray⟩, .string ⟨l'.toArray⟩] 32)).alloc (.cells #[.string ⟨#[]⟩, .string ⟨#[]⟩] 32)) (.cells #[.string ⟨#[]⟩, .string ⟨#[]⟩] 32)
    simp only [World.size_alloc] at h2
    exact h2
  have hb : Below w.heap.size w W := by rw [hW]; exact bto (below_alloc _ _) (bto (below_alloc _ _) (below_alloc _ _))
  have hsW : W.heap.size = w.heap.size + 3 := by rw [hW]; simp only [World.size_alloc]
  have HW := Lib.hid hW
  clear hW
  have HV0 : Hid (annV l l' y p z = .tuple #[(Value.agg #[Value.string ⟨List.toArray (fN (Rat.divInt (z - ((10 ^ p.toNat : Nat) : Int)) ((10 ^ p.toNat : Nat) : Int)))⟩, Value.string ⟨List.toArray (fD (Rat.divInt (z - ((10 ^ p.toNat : Nat) : Int)) ((10 ^ p.toNat : Nat) : Int)))⟩]), (Value.agg #[Value.string ⟨List.toArray (fN (Rat.divInt (topA (fv l l') y.toNat ((10 ^ p.toNat : Nat) : Int) z - ((10 ^ p.toNat : Nat) : Int)) ((10 ^ p.toNat : Nat) : Int)))⟩, Value.string ⟨List.toArray (fD (Rat.divInt (topA (fv l l') y.toNat ((10 ^ p.toNat : Nat) : Int) z - ((10 ^ p.toNat : Nat) : Int)) ((10 ^ p.toNat : Nat) : Int)))⟩]), .int .i64 0]) := by show _ = _; unfold annV; rw [if_neg (fun h => h g), if_neg gb]
  have C1 := Lib.hid (sCheck (l := l) (l' := l') (by omega) (by omega) rfl (if_pos g))
  have hcq : cmpQ (fv l l') 0 ≤ 0 ↔ fv l l' ≤ 0 := cmpQ_le0
  have C2 := Lib.hid (sSign (l := l) (l' := l') (by omega) (by omega) rfl)
  have gb' : ¬ fv l l' ≤ 0 ∧ 1 ≤ y ∧ y ≤ 100 ∧ 0 ≤ p ∧ p ≤ 12 := by
    unfold annBad at gb
    exact ⟨fun h => gb (.inl h), by omega, by omega, by omega, by omega⟩
  obtain ⟨b0, b1, b2, b3, b4⟩ := gb'
  rw [← hcq] at b0
  have hf60 : Bd 60 (fv l l') := bd_fv hl hl' (by decide)
  obtain ⟨r1, r2, r3⟩ := root_abs hf60 b4 hR
  have hu0 := u_pos p
  have hua := u_abs b4
  obtain ⟨n, hn⟩ : ∃ n, n = y.toNat := ⟨_, rfl⟩
  have hyn : y = (n : Int) := by omega
  have hnu : n = y.toNat := hn
  have hpu : ((p.toNat : Nat) : Int) = p := by omega
  have T0 := Lib.hid (qOf1 10 (by decide) (by decide))
  have c3 := rwPower (y := 10) (K := 2) (n := p.toNat) (by decide) (by decide) (by omega)
  rw [hpu, show (10 : Int) ^ p.toNat = ((10 ^ p.toNat : Nat) : Int) by rw [Int.natCast_pow]; rfl] at c3
  have C3 := Lib.hid c3
  rw [← hn] at hR HV0
  have HTop : Hid (topA (fv l l') n ((10 ^ p.toNat : Nat) : Int) z = if (Rat.divInt z ((10 ^ p.toNat : Nat) : Int)) ^ n = fv l l' then z else z + 1) := rfl
  have HL2 : Hid (∀ t, Rat.divInt (t - ((10 ^ p.toNat : Nat) : Int)) ((10 ^ p.toNat : Nat) : Int) = Rat.divInt t ((10 ^ p.toNat : Nat) : Int) - 1) := fun t => less_one t hu0
  generalize topA (fv l l') n ((10 ^ p.toNat : Nat) : Int) z = top at *
  generalize cmpQ (fv l l') 0 = cc at *
  obtain ⟨u, hu⟩ : ∃ u, u = ((10 ^ p.toNat : Nat) : Int) := ⟨_, rfl⟩
  rw [← hu] at hR HV0 hu0 hua C3 HTop HL2
  have hfl := bd_len hf60
  have hfnum : (fv l l').num.natAbs < 10 ^ 60 := hf60.1
  have hfden : (fv l l').den < 10 ^ 60 := hf60.2
  have C4 := Lib.hid (sParts (l := l) (l' := l') (q := fv l l') (by omega) (by omega) (by omega) (by omega) rfl)
  obtain ⟨f, hf⟩ : ∃ f, f = fv l l' := ⟨_, rfl⟩
  rw [← hf] at hR HTop C4 hfl hfnum hfden
  have hgl1 : (canon (u ^ n)).length ≤ 1100 := pow_len hua (by decide) (by omega)
  have hdl : (canon (f.den : Int)).length ≤ 61 := canon_len_le _ 60 (by rw [Int.natAbs_natCast]; exact hfden)
  have C5 := Lib.hid (rwPower (y := u) (K := 13) (n := n) hua (by decide) (by omega))
  have C6 := Lib.hid (qMul (l := fN f) (l' := canon (u ^ n)) (by omega) (by omega) (show _ = f.num * u ^ n by rw [val_fN, val_canon]))
  have hgoal : (canon (f.num * u ^ n)).length ≤ 3000 := by
    have h1 := pow_abs hua n
    refine Nat.le_trans (canon_len_le _ (60 + (13 * n + 1)) ?_) (by omega)
    rw [Int.natAbs_mul, Nat.pow_add]
    exact Nat.mul_lt_mul'' hfnum h1
  -- what is compared
  have HCmp : Hid (∀ t : Int, 0 ≤ t → t ≤ 2 * z + 2 → ∃ c : Int, Ret 117 #[.string ⟨(canon t).toArray⟩, .int .i64 (n : Int)] (.string ⟨(canon (t ^ n)).toArray⟩) ∧ Ret 120 #[.string ⟨(canon (t ^ n)).toArray⟩, .string ⟨(canon (f.den : Int)).toArray⟩] (.string ⟨(canon (t ^ n * (f.den : Int))).toArray⟩) ∧ Ret 101 #[.string ⟨(canon (t ^ n * (f.den : Int))).toArray⟩, .string ⟨(canon (f.num * u ^ n)).toArray⟩] (.int .i64 c) ∧ (c ≤ 0 ↔ (Rat.divInt t u) ^ n ≤ f) ∧ (c = 0 ↔ (Rat.divInt t u) ^ n = f)) := fun t h1 h2 => by
    have ht := r3 t h1 h2
    have hp1 := pow_abs ht n
    have hpl := pow_len ht (by decide) (show n ≤ 12 by omega)
    have hg := goal_iff f n (y := t) hu0
    have hml : (canon (t ^ n * (f.den : Int))).length ≤ 3000 := by
      refine Nat.le_trans (canon_len_le _ ((80 * n + 1) + 60) ?_) (by omega)
      rw [Int.natAbs_mul, Nat.pow_add, Int.natAbs_natCast]
      exact Nat.mul_lt_mul'' hp1 hfden
    refine ⟨cmpZ (t ^ n * (f.den : Int)) (f.num * u ^ n), rwPower ht (by decide) (by omega), qMul (by omega) (by omega) (by rw [val_canon, val_canon]), qCompare (by omega) (by omega) (by rw [val_canon, val_canon]), ?_, ?_⟩
    · rw [← hg.1]
      unfold cmpZ
      split
      · constructor <;> intro _ <;> omega
      · split <;> constructor <;> intro _ <;> omega
    · rw [← hg.2]
      unfold cmpZ
      split
      · constructor <;> intro _ <;> omega
      · split <;> constructor <;> intro _ <;> omega
  have HRi := Lib.hid hR.iff
  have hzn := hR.nn
  have HLn : Hid (∀ t : Int, 0 ≤ t → t ≤ 2 * z + 2 → (canon t).length ≤ 81) := fun t h1 h2 => canon_len_le _ 80 (r3 t h1 h2)
  have hul := canon_len_le u 13 hua
  have F1 := Lib.hid (rwRatio (a := 1) (b := 1) (by decide) (by decide) (by decide) (show _ = (1 : Rat) by decide +kernel))
  have hNw : ∀ t : Int, 0 ≤ t → t ≤ 2 * z + 2 → Ret 75 #[.string ⟨(canon t).toArray⟩, .string ⟨(canon u).toArray⟩] (.tuple #[(Value.agg #[Value.string ⟨List.toArray (fN (Rat.divInt t u))⟩, Value.string ⟨List.toArray (fD (Rat.divInt t u))⟩]), .int .i64 0]) := fun t h1 h2 => sNew1 (by have := HLn.out t h1 h2; omega) (by omega) (by rw [val_canon]; omega) (by unfold fv; rw [val_canon, val_canon]; unfold den1; rw [if_neg (by omega)])
  have F2 := Lib.hid (hNw z hzn (by omega))
  have F3 := Lib.hid (hNw (z + 1) (by omega) (by omega))
  have hBq : ∀ t : Int, 0 ≤ t → t ≤ 2 * z + 2 → Bd 80 (Rat.divInt t u) := fun t h1 h2 => bd_divInt (r3 t h1 h2) (Nat.lt_of_lt_of_le hua (by decide)) (by omega)
  have hSb : ∀ t : Int, 0 ≤ t → t ≤ 2 * z + 2 → Ret 78 #[(Value.agg #[Value.string ⟨List.toArray (fN (Rat.divInt t u))⟩, Value.string ⟨List.toArray (fD (Rat.divInt t u))⟩]), (Value.agg #[Value.string ⟨List.toArray (fN ((1 : Rat)))⟩, Value.string ⟨List.toArray (fD ((1 : Rat)))⟩])] (Value.agg #[Value.string ⟨List.toArray (fN (Rat.divInt (t - u) u))⟩, Value.string ⟨List.toArray (fD (Rat.divInt (t - u) u))⟩]) := fun t h1 h2 => by
    have b1 := bd_len (hBq t h1 h2)
    exact sSub (by omega) (by omega) (by decide +kernel) (by decide +kernel) (by rw [fv_frac]; decide +kernel) (by rw [fv_frac]; decide +kernel) (by rw [fv_frac, fv_frac, HL2.out])
  have E1 := Lib.hid (hSb z hzn (by omega))
  have E2' := Lib.hid (hSb (z + 1) (by omega) (by omega))
  have T2 := Lib.hid (qOf1 2 (by decide) (by decide))
  have T1 := Lib.hid (qOf1 1 (by decide) (by decide))
  obtain ⟨fa, hfa⟩ : ∃ fa, fa = Rat.divInt (z - u) u := ⟨_, rfl⟩
  rw [← hfa] at E1 HV0
  obtain ⟨fb, hfb⟩ : ∃ fb, fb = Rat.divInt (z + 1 - u) u := ⟨_, rfl⟩
  rw [← hfb] at E2'
  have HFA := Lib.hid hfa
  have HFB := Lib.hid hfb
  obtain ⟨qa, hqa⟩ : ∃ qa, qa = Rat.divInt z u := ⟨_, rfl⟩
  obtain ⟨qb, hqb⟩ : ∃ qb, qb = Rat.divInt (z + 1) u := ⟨_, rfl⟩
  rw [← hqa] at F2 E1
  rw [← hqb] at F3 E2'
  generalize (1 : Rat) = one at F1 E1 E2'
  have HYN := Lib.hid hyn
  have e1 : decide (cc ≤ 0) = false := decide_eq_false b0
  have e2 : decide (y < 1) = false := decide_eq_false (by omega)
  have e3 : decide (100 < y) = false := decide_eq_false (by omega)
  have e4 : decide (p < 0) = false := decide_eq_false (by omega)
  have e5 : decide (12 < p) = false := decide_eq_false (by omega)
  obtain ⟨GS, hGS⟩ : ∃ GS, GS = canon (f.num * u ^ n) := ⟨_, rfl⟩
  rw [← hGS] at C6 HCmp
  obtain ⟨DS, hDS⟩ : ∃ DS, DS = canon (f.den : Int) := ⟨_, rfl⟩
  rw [← hDS] at C4 HCmp
  obtain ⟨US, hUS⟩ : ∃ US, US = canon u := ⟨_, rfl⟩
  rw [← hUS] at C3 C5 F2 F3
  generalize canon (u ^ n) = UP at C5 C6
  generalize fN f = NS at C4 C6
  have c1e : canon 1 = [49] := canon_1
  rw [c1e] at T1
  clear g gb hcq b0 b1 b2 b3 b4 hf60 r1 r2 r3 hu0 hua hn hnu hpu c3 hu hfl hfnum hfden hf hgl1 hdl hgoal hR hNw hBq hSb hfa hfb hqa hqb hGS hDS hUS hul hy8 hl hl' HL2 c1e
  subst hyn
  go_enter Tryz.func52, Tryz.ntmps52
  go_wp2_with fail
  rw [← HW.out]
  have q30 := x3.c 0
  have q31 := x3.c 1
  go_wp2_with fail
  ((with_reducible refine (C1.out.of hG hb).mono ?_); rintro e w1 ⟨rfl, hb1⟩)
  replace x3 := x3.below hb1
  replace z6 := (hb1.block _ (Array.getElem?_eq_some_iff.1 z6).1).trans z6
  replace z7 := (hb1.block _ (Array.getElem?_eq_some_iff.1 z7).1).trans z7
  replace hb := bto hb hb1
  clear hb1
  replace q30 := x3.c 0
  replace q31 := x3.c 1
  go_wp2_with fail
  ((with_reducible refine (C2.out.of hG hb).mono ?_); rintro e w2 ⟨rfl, hb2⟩)
  replace x3 := x3.below hb2
  replace z6 := (hb2.block _ (Array.getElem?_eq_some_iff.1 z6).1).trans z6
  replace z7 := (hb2.block _ (Array.getElem?_eq_some_iff.1 z7).1).trans z7
  replace hb := bto hb hb2
  clear hb2
  clear q30 q31
  go_wp2_with fail
  ((with_reducible refine (T0.out.of hG hb).mono ?_); rintro e w30 ⟨rfl, hb30⟩)
  replace z6 := (hb30.block _ (Array.getElem?_eq_some_iff.1 z6).1).trans z6
  replace z7 := (hb30.block _ (Array.getElem?_eq_some_iff.1 z7).1).trans z7
  replace hb := bto hb hb30
  replace x3 := x3.below hb30
  clear hb30 T0
  go_wp2_with fail
  ((with_reducible refine (C3.out.of hG hb).mono ?_); rintro e w31 ⟨rfl, hb31⟩)
  replace z6 := (hb31.block _ (Array.getElem?_eq_some_iff.1 z6).1).trans z6
  replace z7 := (hb31.block _ (Array.getElem?_eq_some_iff.1 z7).1).trans z7
  replace hb := bto hb hb31
  replace x3 := x3.below hb31
  clear hb31 C3
  have q30 := x3.c 0
  have q31 := x3.c 1
  go_wp2_with fail
  ((with_reducible refine (C4.out.of hG hb).mono ?_); rintro e w32 ⟨rfl, hb32⟩)
  replace z6 := (hb32.block _ (Array.getElem?_eq_some_iff.1 z6).1).trans z6
  replace z7 := (hb32.block _ (Array.getElem?_eq_some_iff.1 z7).1).trans z7
  replace hb := bto hb hb32
  clear hb32 C4 q30 q31 x3
  go_wp2_with fail
  ((with_reducible refine (C5.out.of hG hb).mono ?_); rintro e w33 ⟨rfl, hb33⟩)
  replace z6 := (hb33.block _ (Array.getElem?_eq_some_iff.1 z6).1).trans z6
  replace z7 := (hb33.block _ (Array.getElem?_eq_some_iff.1 z7).1).trans z7
  replace hb := bto hb hb33
  clear hb33 C5
  go_wp2_with fail
  ((with_reducible refine (C6.out.of hG hb).mono ?_); rintro e w34 ⟨rfl, hb34⟩)
  replace z6 := (hb34.block _ (Array.getElem?_eq_some_iff.1 z6).1).trans z6
  replace z7 := (hb34.block _ (Array.getElem?_eq_some_iff.1 z7).1).trans z7
  replace hb := bto hb hb34
  clear hb34 C6
  go_wp2_with fail
  ((with_reducible refine (T1.out.of hG hb).mono ?_); rintro e w35 ⟨rfl, hb35⟩)
  replace z6 := (hb35.block _ (Array.getElem?_eq_some_iff.1 z6).1).trans z6
  replace z7 := (hb35.block _ (Array.getElem?_eq_some_iff.1 z7).1).trans z7
  replace hb := bto hb hb35
  clear hb35 T1
  go_wp2_with fail
  go_loopw [13, 14] (fun lv hv wr => ∃ lo hi : Int, 0 ≤ lo ∧ lo ≤ z ∧ lo < hi ∧ 1 ≤ hi ∧ hi ≤ 2 * z + 1 ∧ lv = .string ⟨(canon lo).toArray⟩ ∧ hv = .string ⟨(canon hi).toArray⟩ ∧ wr.heap[w.heap.size + 1]? = some (.cells #[.string ⟨#[]⟩, .string ⟨#[]⟩] 32) ∧ wr.heap[w.heap.size + 1 + 1]? = some (.cells #[.string ⟨#[]⟩, .string ⟨#[]⟩] 32) ∧ Below w.heap.size w wr) (fun _ hv _ => (z + 1 - strZ hv).toNat)
  case atStart => exact ⟨0, 1, Int.le_refl _, hzn, by omega, by omega, by omega, by rw [canon_0], by rw [canon_1], z6, z7, hb⟩
  case round =>
    clear hb z6 z7
    obtain ⟨lo, hi, h1, h2, h3, h4, h5, rfl, rfl, z6, z7, hb⟩ := hrel
    obtain ⟨cq, P1, P2, P3, hle, -⟩ := HCmp.out hi (by omega) (by omega)
    rw [HRi.out hi h4] at hle
    have P1 := Lib.hid P1
    have P2 := Lib.hid P2
    have P3 := Lib.hid P3
    generalize canon (hi ^ n * (f.den : Int)) = M2 at *
    generalize canon (hi ^ n) = M1 at *
    by_cases g : hi ≤ z
    · have ec : decide (cq ≤ 0) = true := decide_eq_true (hle.2 g)
      have C2 := Lib.hid (qAdd (l := canon hi) (l' := canon hi) (by have := HLn.out hi (by omega) (by omega); omega) (by have := HLn.out hi (by omega) (by omega); omega) (show _ = hi + hi by rw [val_canon]))
      have hm : (z + 1 - strZ (.string ⟨(canon (hi + hi)).toArray⟩)).toNat < (z + 1 - strZ (.string ⟨(canon hi).toArray⟩)).toNat := by rw [strZ_canon, strZ_canon]; omega
      have HM := Lib.hid hm
      clear hm hle
      go_wp2_with fail
      ((with_reducible refine (P1.out.of hG hb).mono ?_); rintro e w40 ⟨rfl, hb40⟩)
      replace z6 := (hb40.block _ (Array.getElem?_eq_some_iff.1 z6).1).trans z6
      replace z7 := (hb40.block _ (Array.getElem?_eq_some_iff.1 z7).1).trans z7
      replace hb := bto hb hb40
      clear hb40 P1
      go_wp2_with fail
      ((with_reducible refine (P2.out.of hG hb).mono ?_); rintro e w41 ⟨rfl, hb41⟩)
      replace z6 := (hb41.block _ (Array.getElem?_eq_some_iff.1 z6).1).trans z6
      replace z7 := (hb41.block _ (Array.getElem?_eq_some_iff.1 z7).1).trans z7
      replace hb := bto hb hb41
      clear hb41 P2
      go_wp2_with fail
      ((with_reducible refine (P3.out.of hG hb).mono ?_); rintro e w42 ⟨rfl, hb42⟩)
      replace z6 := (hb42.block _ (Array.getElem?_eq_some_iff.1 z6).1).trans z6
      replace z7 := (hb42.block _ (Array.getElem?_eq_some_iff.1 z7).1).trans z7
      replace hb := bto hb hb42
      clear hb42 P3
      go_wp2_with fail
      ((with_reducible refine (C2.out.of hG hb).mono ?_); rintro e w43 ⟨rfl, hb43⟩)
      replace z6 := (hb43.block _ (Array.getElem?_eq_some_iff.1 z6).1).trans z6
      replace z7 := (hb43.block _ (Array.getElem?_eq_some_iff.1 z7).1).trans z7
      replace hb := bto hb hb43
      clear hb43 C2
      go_wp2
      go_roundw
      case rel => exact ⟨hi, hi + hi, by omega, g, by omega, by omega, by omega, rfl, rfl, z6, z7, hb⟩
      case measure => exact HM.out
    have ec : decide (cq ≤ 0) = false := decide_eq_false (fun h => g (hle.1 h))
    clear hle
    go_wp2_with fail
    ((with_reducible refine (P1.out.of hG hb).mono ?_); rintro e w40 ⟨rfl, hb40⟩)
    replace z6 := (hb40.block _ (Array.getElem?_eq_some_iff.1 z6).1).trans z6
    replace z7 := (hb40.block _ (Array.getElem?_eq_some_iff.1 z7).1).trans z7
    replace hb := bto hb hb40
    clear hb40 P1
    go_wp2_with fail
    ((with_reducible refine (P2.out.of hG hb).mono ?_); rintro e w41 ⟨rfl, hb41⟩)
    replace z6 := (hb41.block _ (Array.getElem?_eq_some_iff.1 z6).1).trans z6
    replace z7 := (hb41.block _ (Array.getElem?_eq_some_iff.1 z7).1).trans z7
    replace hb := bto hb hb41
    clear hb41 P2
    go_wp2_with fail
    ((with_reducible refine (P3.out.of hG hb).mono ?_); rintro e w42 ⟨rfl, hb42⟩)
    replace z6 := (hb42.block _ (Array.getElem?_eq_some_iff.1 z6).1).trans z6
    replace z7 := (hb42.block _ (Array.getElem?_eq_some_iff.1 z7).1).trans z7
    replace hb := bto hb hb42
    clear hb42 P3
    go_wp2_with fail
    go_loopw [13, 14] (fun lv hv wr => ∃ lo hi : Int, 0 ≤ lo ∧ lo ≤ z ∧ z < hi ∧ hi ≤ 2 * z + 1 ∧ lv = .string ⟨(canon lo).toArray⟩ ∧ hv = .string ⟨(canon hi).toArray⟩ ∧ wr.heap[w.heap.size + 1]? = some (.cells #[.string ⟨#[]⟩, .string ⟨#[]⟩] 32) ∧ wr.heap[w.heap.size + 1 + 1]? = some (.cells #[.string ⟨#[]⟩, .string ⟨#[]⟩] 32) ∧ Below w.heap.size w wr) (fun lv hv _ => (strZ hv - strZ lv).toNat)
    case atStart => exact ⟨lo, hi, h1, h2, by omega, h5, rfl, rfl, z6, z7, hb⟩
    case round =>
      clear hb h1 h2 h3 h4 h5 g z6 z7 ec
      obtain ⟨lo, hi, h1, h2, h3, h5, rfl, rfl, z6, z7, hb⟩ := hrel
      have hl1 := HLn.out lo h1 (by omega)
      have hl2 := HLn.out hi (by omega) (by omega)
      have C3 := Lib.hid (qAdd (l := canon lo) (l' := canon hi) (by omega) (by omega) (show _ = lo + hi by rw [val_canon, val_canon]))
      have hl4 : (canon (lo + hi)).length ≤ 100 := by
        have h1 := val_lt_of hl1
        have h2 := val_lt_of hl2
        rw [val_canon] at h1 h2
        refine Nat.le_trans (canon_len_le (lo + hi) 82 ?_) (by omega)
        have e3 : (10 : Nat) ^ 81 + 10 ^ 81 ≤ 10 ^ 82 := by decide
        omega
      have hmid : (hi - lo = 1 → divZ (lo + hi) 2 = lo) ∧ (lo + 1 < hi → lo < divZ (lo + hi) 2 ∧ divZ (lo + hi) 2 < hi) := ⟨fun h => by unfold divZ; rw [if_pos (by decide)]; omega, fun h => mid_lt h⟩
      have C4 := Lib.hid (qDiv (l := canon (lo + hi)) (l' := canon 2) (by omega) (by decide +kernel) (by rw [val_canon]; decide) (show divZ _ _ = divZ (lo + hi) 2 by rw [val_canon, val_canon]) rfl)
      generalize modZ (val (canon (lo + hi))) (val (canon 2)) = rr at *
      generalize divZ (lo + hi) 2 = m at *
      have T2' := T2
      by_cases g : hi - lo = 1
      · obtain rfl : lo = z := by omega
        obtain rfl : m = lo := hmid.1 g
        have es : (canon m == canon m) = true := by rw [beq_iff_eq]
        obtain rfl : hi = m + 1 := by omega
        obtain ⟨cq, P1, P2, P3, -, heq⟩ := HCmp.out m hzn (by omega)
        have P1 := Lib.hid P1
        have P2 := Lib.hid P2
        have P3 := Lib.hid P3
        have HEQ := Lib.hid heq
        generalize canon (m ^ n * (f.den : Int)) = M2 at *
        generalize canon (m ^ n) = M1 at *
        clear hmid hl1 hl2 hl4 heq
        go_wp2_with fail
        ((with_reducible refine (C3.out.of hG hb).mono ?_); rintro e w50 ⟨rfl, hb50⟩)
        replace z6 := (hb50.block _ (Array.getElem?_eq_some_iff.1 z6).1).trans z6
        replace z7 := (hb50.block _ (Array.getElem?_eq_some_iff.1 z7).1).trans z7
        replace hb := bto hb hb50
        clear hb50 C3
        go_wp2_with fail
        ((with_reducible refine (T2.out.of hG hb).mono ?_); rintro e w51 ⟨rfl, hb51⟩)
        replace z6 := (hb51.block _ (Array.getElem?_eq_some_iff.1 z6).1).trans z6
        replace z7 := (hb51.block _ (Array.getElem?_eq_some_iff.1 z7).1).trans z7
        replace hb := bto hb hb51
        clear hb51 T2 T2'
        go_wp2_with fail
        ((with_reducible refine (C4.out.of hG hb).mono ?_); rintro e w52 ⟨rfl, hb52⟩)
        replace z6 := (hb52.block _ (Array.getElem?_eq_some_iff.1 z6).1).trans z6
        replace z7 := (hb52.block _ (Array.getElem?_eq_some_iff.1 z7).1).trans z7
        replace hb := bto hb hb52
        clear hb52 C4
        go_wp2_with fail
        ((with_reducible refine (F1.out.of hG hb).mono ?_); rintro e w53 ⟨rfl, hb53⟩)
        replace z6 := (hb53.block _ (Array.getElem?_eq_some_iff.1 z6).1).trans z6
        replace z7 := (hb53.block _ (Array.getElem?_eq_some_iff.1 z7).1).trans z7
        replace hb := bto hb hb53
        clear hb53 F1
        have hzz53 := (Array.getElem?_eq_some_iff.1 z7).1
        have hbA := below_alloc w53 (.cells #[.string ⟨(fN (one)).toArray⟩, .string ⟨(fD (one)).toArray⟩] 32)
        have x18 := Blk.new w53 #[.string ⟨(fN (one)).toArray⟩, .string ⟨(fD (one)).toArray⟩] 32
        replace z6 := (hbA.block _ (Array.getElem?_eq_some_iff.1 z6).1).trans z6
        replace z7 := (hbA.block _ (Array.getElem?_eq_some_iff.1 z7).1).trans z7
        replace hb := bto hb hbA
        clear hbA
        go_wp2_with fail
        ((with_reducible refine (F2.out.of hG hb).mono ?_); rintro e w54 ⟨rfl, hb54⟩)
        replace z6 := (hb54.block _ (Array.getElem?_eq_some_iff.1 z6).1).trans z6
        replace z7 := (hb54.block _ (Array.getElem?_eq_some_iff.1 z7).1).trans z7
        replace hb := bto hb hb54
        replace x18 := x18.below hb54
        clear hb54 F2
        have hzz54 := (Array.getElem?_eq_some_iff.1 z7).1
        have hbA := below_alloc w54 (.cells #[.string ⟨(fN (qa)).toArray⟩, .string ⟨(fD (qa)).toArray⟩] 32)
        have x19 := Blk.new w54 #[.string ⟨(fN (qa)).toArray⟩, .string ⟨(fD (qa)).toArray⟩] 32
        have hy54x18 := x18.lt
        replace x18 := x18.below hbA
        replace z6 := (hbA.block _ (Array.getElem?_eq_some_iff.1 z6).1).trans z6
        replace z7 := (hbA.block _ (Array.getElem?_eq_some_iff.1 z7).1).trans z7
        replace hb := bto hb hbA
        clear hbA
        go_wp2_with fail
        ((with_reducible refine (F3.out.of hG hb).mono ?_); rintro e w55 ⟨rfl, hb55⟩)
        replace z6 := (hb55.block _ (Array.getElem?_eq_some_iff.1 z6).1).trans z6
        replace z7 := (hb55.block _ (Array.getElem?_eq_some_iff.1 z7).1).trans z7
        replace hb := bto hb hb55
        replace x18 := x18.below hb55
        replace x19 := x19.below hb55
        clear hb55 F3
        have hzz55 := (Array.getElem?_eq_some_iff.1 z7).1
        have hbA := below_alloc w55 (.cells #[.string ⟨(fN (qb)).toArray⟩, .string ⟨(fD (qb)).toArray⟩] 32)
        have x21 := Blk.new w55 #[.string ⟨(fN (qb)).toArray⟩, .string ⟨(fD (qb)).toArray⟩] 32
        have hy55x18 := x18.lt
        have hy55x19 := x19.lt
        replace x18 := x18.below hbA
        replace x19 := x19.below hbA
        replace z6 := (hbA.block _ (Array.getElem?_eq_some_iff.1 z6).1).trans z6
        replace z7 := (hbA.block _ (Array.getElem?_eq_some_iff.1 z7).1).trans z7
        replace hb := bto hb hbA
        clear hbA
        go_wp2_with fail
        ((with_reducible refine (P1.out.of hG hb).mono ?_); rintro e w56 ⟨rfl, hb56⟩)
        replace z6 := (hb56.block _ (Array.getElem?_eq_some_iff.1 z6).1).trans z6
        replace z7 := (hb56.block _ (Array.getElem?_eq_some_iff.1 z7).1).trans z7
        replace hb := bto hb hb56
        replace x18 := x18.below hb56
        replace x19 := x19.below hb56
        replace x21 := x21.below hb56
        clear hb56 P1
        go_wp2_with fail
        ((with_reducible refine (P2.out.of hG hb).mono ?_); rintro e w57 ⟨rfl, hb57⟩)
        replace z6 := (hb57.block _ (Array.getElem?_eq_some_iff.1 z6).1).trans z6
        replace z7 := (hb57.block _ (Array.getElem?_eq_some_iff.1 z7).1).trans z7
        replace hb := bto hb hb57
        replace x18 := x18.below hb57
        replace x19 := x19.below hb57
        replace x21 := x21.below hb57
        clear hb57 P2
        go_wp2_with fail
        ((with_reducible refine (P3.out.of hG hb).mono ?_); rintro e w58 ⟨rfl, hb58⟩)
        replace z6 := (hb58.block _ (Array.getElem?_eq_some_iff.1 z6).1).trans z6
        replace z7 := (hb58.block _ (Array.getElem?_eq_some_iff.1 z7).1).trans z7
        replace hb := bto hb hb58
        replace x18 := x18.below hb58
        replace x19 := x19.below hb58
        replace x21 := x21.below hb58
        clear hb58 P3
        have hX : ∀ k, (k = (w.heap.size + 1) ∨ k = (w.heap.size + 1 + 1)) → w.heap.size ≤ k := by rintro k (rfl | rfl) <;> omega
        have hx18 : ¬ (w53.heap.size = (w.heap.size + 1) ∨ w53.heap.size = (w.heap.size + 1 + 1)) := by have := hzz53; omega
        have hx19 : ¬ (w54.heap.size = (w.heap.size + 1) ∨ w54.heap.size = (w.heap.size + 1 + 1)) := by have := hzz54; omega
        have hx21 : ¬ (w55.heap.size = (w.heap.size + 1) ∨ w55.heap.size = (w.heap.size + 1 + 1)) := by have := hzz55; omega
        by_cases g0 : cq = 0
        · have ee : (cq == 0) = true := intbeq g0
          have HV : Hid (annV l l' (n : Int) p m = .tuple #[(Value.agg #[Value.string ⟨List.toArray (fN fa)⟩, Value.string ⟨List.toArray (fD fa)⟩]), (Value.agg #[Value.string ⟨List.toArray (fN fa)⟩, Value.string ⟨List.toArray (fD fa)⟩]), .int .i64 0]) := by show _ = _; rw [HV0.out, HTop.out, if_pos (HEQ.out.1 g0), ← HFA.out]
          have g1 := x21.c 0
          have g2 := x21.c 1
          have g3 := x21.f 0
          have g4 := x21.f 1
          have g5 := x19.c 0
          have g6 := x19.c 1
          have hbx : w55.heap.size ≠ w53.heap.size ∧ w55.heap.size ≠ w54.heap.size ∧ w55.heap.size ≠ (w.heap.size + 1) ∧ w55.heap.size ≠ (w.heap.size + 1 + 1) ∧ w.heap.size ≤ w55.heap.size := by have := hzz53; have := hzz54; have := hzz55; have := hy54x18; have := hy55x18; have := hy55x19; omega
          clear g0 HV0 HTop HEQ HFA HFB E2'
          go_wp2_with fail
          obtain ⟨wx, hwx⟩ : ∃ wx, wx = (w58.setCell ⟨w55.heap.size, 0, none⟩ (.string ⟨(fN qa).toArray⟩)).setCell ⟨w55.heap.size, 1, none⟩ (.string ⟨(fD qa).toArray⟩) := ⟨_, rfl⟩
          replace x18 := x18.setNe2 (Ne.symm hbx.1) (.string ⟨(fN qa).toArray⟩) (.string ⟨(fD qa).toArray⟩)
          replace x19 := x19.setNe2 (Ne.symm hbx.2.1) (.string ⟨(fN qa).toArray⟩) (.string ⟨(fD qa).toArray⟩)
          replace x21 := x21.set2 (.string ⟨(fN qa).toArray⟩) (.string ⟨(fD qa).toArray⟩)
          replace z6 := setCell_loop (i := 1) (u := .string ⟨(fD qa).toArray⟩) (setCell_loop (i := 0) (u := .string ⟨(fN qa).toArray⟩) z6 (Ne.symm hbx.2.2.1)) (Ne.symm hbx.2.2.1)
          replace z7 := setCell_loop (i := 1) (u := .string ⟨(fD qa).toArray⟩) (setCell_loop (i := 0) (u := .string ⟨(fN qa).toArray⟩) z7 (Ne.symm hbx.2.2.2.1)) (Ne.symm hbx.2.2.2.1)
          replace hb := below_set2 (b := w55.heap.size) hb hbx.2.2.2.2 (.string ⟨(fN qa).toArray⟩) (.string ⟨(fD qa).toArray⟩)
          rw [← hwx] at x18 x19 x21 z6 z7 hb ⊢
          have E2 := E1
          clear hwx g1 g2 g3 g4 g5 g6
          go_wp2_with fail
          refine wp_region_kept_two 30 (w.heap.size + 1) (w.heap.size + 1 + 1) 6 7 _ _ (by kernel_rfl) (by kernel_rfl) (by decide) (by omega) z6 z7 rfl ?_
          simp only [Act.put, List.setIfInBounds_toArray, List.set_cons_zero, List.set_cons_succ]
          refine kept_val _ (fun _ => rfl) (fun ρ wz hw => by have q0 : wz.cell? ⟨w54.heap.size, 0, none⟩ = some (.string ⟨(fN qa).toArray⟩) := (x19.keepX hw hx19).c 0; have q1 : wz.cell? ⟨w54.heap.size, 1, none⟩ = some (.string ⟨(fD qa).toArray⟩) := (x19.keepX hw hx19).c 1; go_simp; first | done | with_reducible rfl) ?_
          simp only [Act.put, List.setIfInBounds_toArray, List.set_cons_zero, List.set_cons_succ, Nat.reduceAdd]
          refine kept_val _ (fun _ => rfl) (fun ρ wz hw => by have q0 : wz.cell? ⟨w53.heap.size, 0, none⟩ = some (.string ⟨(fN one).toArray⟩) := (x18.keepX hw hx18).c 0; have q1 : wz.cell? ⟨w53.heap.size, 1, none⟩ = some (.string ⟨(fD one).toArray⟩) := (x18.keepX hw hx18).c 1; go_simp; first | done | with_reducible rfl) ?_
          simp only [Act.put, List.setIfInBounds_toArray, List.set_cons_zero, List.set_cons_succ, Nat.reduceAdd]
          refine kept_call _ _ _ (fun _ => rfl) (fun ρ wz hw => by go_simp; first | done | with_reducible rfl) (fun wz hw => E1.out.of hG (hw.lower hb hX)) ?_
          simp only [Act.put, List.setIfInBounds_toArray, List.set_cons_zero, List.set_cons_succ, Nat.reduceAdd]
          refine kept_val _ (fun _ => rfl) (fun ρ wz hw => by have q0 : wz.cell? ⟨w55.heap.size, 0, none⟩ = some (.string ⟨(fN qa).toArray⟩) := (x21.keepX hw hx21).c 0; have q1 : wz.cell? ⟨w55.heap.size, 1, none⟩ = some (.string ⟨(fD qa).toArray⟩) := (x21.keepX hw hx21).c 1; go_simp; first | done | with_reducible rfl) ?_
          simp only [Act.put, List.setIfInBounds_toArray, List.set_cons_zero, List.set_cons_succ, Nat.reduceAdd]
          refine kept_val _ (fun _ => rfl) (fun ρ wz hw => by have q0 : wz.cell? ⟨w53.heap.size, 0, none⟩ = some (.string ⟨(fN one).toArray⟩) := (x18.keepX hw hx18).c 0; have q1 : wz.cell? ⟨w53.heap.size, 1, none⟩ = some (.string ⟨(fD one).toArray⟩) := (x18.keepX hw hx18).c 1; go_simp; first | done | with_reducible rfl) ?_
          simp only [Act.put, List.setIfInBounds_toArray, List.set_cons_zero, List.set_cons_succ, Nat.reduceAdd]
          refine kept_call _ _ _ (fun _ => rfl) (fun ρ wz hw => by go_simp; first | done | with_reducible rfl) (fun wz hw => E2.out.of hG (hw.lower hb hX)) ?_
          simp only [Act.put, List.setIfInBounds_toArray, List.set_cons_zero, List.set_cons_succ, Nat.reduceAdd]
          refine kept_putK 30 _ _ _ _ _ rfl rfl (fun _ => rfl) (fun ρ wz hw q0 q1 q2 q3 => by go_simp; first | done | with_reducible rfl) ?_
          simp only [Act.put, Nat.reduceAdd]
          refine kept_putK 31 _ _ _ _ _ rfl rfl (fun _ => rfl) (fun ρ wz hw q0 q1 q2 q3 => by go_simp; first | done | with_reducible rfl) ?_
          simp only [Act.put, Nat.reduceAdd]
          refine kept_val _ (fun _ => rfl) (fun ρ wz hw => by go_simp; first | done | with_reducible rfl) ?_
          simp only [Act.put, List.setIfInBounds_toArray, List.set_cons_zero, List.set_cons_succ, Nat.reduceAdd]
          refine kept_endX (fun ρ w8 hF => ?_)
          have hb8 := hF.below.lower hb hX
          have t6 := FBox.ofB (hF.box 30 _ _ rfl).2
          have t7 := FBox.ofB (hF.box 31 _ _ rfl).2
          (try dsimp only)
          generalize ρ 30 = c6 at *
          generalize ρ 31 = c7 at *
          clear hF
          have d0 := t6.c0
          have d1 := t6.c1
          have d2 := t7.c0
          have d3 := t7.c1
          go_wp2
          refine bodyPost_ret (v := .tuple #[(Value.agg #[Value.string ⟨List.toArray (fN fa)⟩, Value.string ⟨List.toArray (fD fa)⟩]), (Value.agg #[Value.string ⟨List.toArray (fN fa)⟩, Value.string ⟨List.toArray (fD fa)⟩]), .int .i64 0]) (by simp [results, Tryz.results52, go_sem, d0, d1, d2, d3]) rfl ?_
          exact ⟨by rw [HV.out], hb8⟩
        · have ee : (cq == 0) = false := intbne g0
          have HV : Hid (annV l l' (n : Int) p m = .tuple #[(Value.agg #[Value.string ⟨List.toArray (fN fa)⟩, Value.string ⟨List.toArray (fD fa)⟩]), (Value.agg #[Value.string ⟨List.toArray (fN fb)⟩, Value.string ⟨List.toArray (fD fb)⟩]), .int .i64 0]) := by show _ = _; rw [HV0.out, HTop.out, if_neg (fun h => g0 (HEQ.out.2 h)), ← HFB.out]
          have E2 := E2'
          clear g0 HV0 HTop HEQ HFA HFB E2'
          go_wp2_with fail
          refine wp_region_kept_two 30 (w.heap.size + 1) (w.heap.size + 1 + 1) 6 7 _ _ (by kernel_rfl) (by kernel_rfl) (by decide) (by omega) z6 z7 rfl ?_
          simp only [Act.put, List.setIfInBounds_toArray, List.set_cons_zero, List.set_cons_succ]
          refine kept_val _ (fun _ => rfl) (fun ρ wz hw => by have q0 : wz.cell? ⟨w54.heap.size, 0, none⟩ = some (.string ⟨(fN qa).toArray⟩) := (x19.keepX hw hx19).c 0; have q1 : wz.cell? ⟨w54.heap.size, 1, none⟩ = some (.string ⟨(fD qa).toArray⟩) := (x19.keepX hw hx19).c 1; go_simp; first | done | with_reducible rfl) ?_
          simp only [Act.put, List.setIfInBounds_toArray, List.set_cons_zero, List.set_cons_succ, Nat.reduceAdd]
          refine kept_val _ (fun _ => rfl) (fun ρ wz hw => by have q0 : wz.cell? ⟨w53.heap.size, 0, none⟩ = some (.string ⟨(fN one).toArray⟩) := (x18.keepX hw hx18).c 0; have q1 : wz.cell? ⟨w53.heap.size, 1, none⟩ = some (.string ⟨(fD one).toArray⟩) := (x18.keepX hw hx18).c 1; go_simp; first | done | with_reducible rfl) ?_
          simp only [Act.put, List.setIfInBounds_toArray, List.set_cons_zero, List.set_cons_succ, Nat.reduceAdd]
          refine kept_call _ _ _ (fun _ => rfl) (fun ρ wz hw => by go_simp; first | done | with_reducible rfl) (fun wz hw => E1.out.of hG (hw.lower hb hX)) ?_
          simp only [Act.put, List.setIfInBounds_toArray, List.set_cons_zero, List.set_cons_succ, Nat.reduceAdd]
          refine kept_val _ (fun _ => rfl) (fun ρ wz hw => by have q0 : wz.cell? ⟨w55.heap.size, 0, none⟩ = some (.string ⟨(fN qb).toArray⟩) := (x21.keepX hw hx21).c 0; have q1 : wz.cell? ⟨w55.heap.size, 1, none⟩ = some (.string ⟨(fD qb).toArray⟩) := (x21.keepX hw hx21).c 1; go_simp; first | done | with_reducible rfl) ?_
          simp only [Act.put, List.setIfInBounds_toArray, List.set_cons_zero, List.set_cons_succ, Nat.reduceAdd]
          refine kept_val _ (fun _ => rfl) (fun ρ wz hw => by have q0 : wz.cell? ⟨w53.heap.size, 0, none⟩ = some (.string ⟨(fN one).toArray⟩) := (x18.keepX hw hx18).c 0; have q1 : wz.cell? ⟨w53.heap.size, 1, none⟩ = some (.string ⟨(fD one).toArray⟩) := (x18.keepX hw hx18).c 1; go_simp; first | done | with_reducible rfl) ?_
          simp only [Act.put, List.setIfInBounds_toArray, List.set_cons_zero, List.set_cons_succ, Nat.reduceAdd]
          refine kept_call _ _ _ (fun _ => rfl) (fun ρ wz hw => by go_simp; first | done | with_reducible rfl) (fun wz hw => E2.out.of hG (hw.lower hb hX)) ?_
          simp only [Act.put, List.setIfInBounds_toArray, List.set_cons_zero, List.set_cons_succ, Nat.reduceAdd]
          refine kept_putK 30 _ _ _ _ _ rfl rfl (fun _ => rfl) (fun ρ wz hw q0 q1 q2 q3 => by go_simp; first | done | with_reducible rfl) ?_
          simp only [Act.put, Nat.reduceAdd]
          refine kept_putK 31 _ _ _ _ _ rfl rfl (fun _ => rfl) (fun ρ wz hw q0 q1 q2 q3 => by go_simp; first | done | with_reducible rfl) ?_
          simp only [Act.put, Nat.reduceAdd]
          refine kept_val _ (fun _ => rfl) (fun ρ wz hw => by go_simp; first | done | with_reducible rfl) ?_
          simp only [Act.put, List.setIfInBounds_toArray, List.set_cons_zero, List.set_cons_succ, Nat.reduceAdd]
          refine kept_endX (fun ρ w8 hF => ?_)
          have hb8 := hF.below.lower hb hX
          have t6 := FBox.ofB (hF.box 30 _ _ rfl).2
          have t7 := FBox.ofB (hF.box 31 _ _ rfl).2
          (try dsimp only)
          generalize ρ 30 = c6 at *
          generalize ρ 31 = c7 at *
          clear hF
          have d0 := t6.c0
          have d1 := t6.c1
          have d2 := t7.c0
          have d3 := t7.c1
          go_wp2
          refine bodyPost_ret (v := .tuple #[(Value.agg #[Value.string ⟨List.toArray (fN fa)⟩, Value.string ⟨List.toArray (fD fa)⟩]), (Value.agg #[Value.string ⟨List.toArray (fN fb)⟩, Value.string ⟨List.toArray (fD fb)⟩]), .int .i64 0]) (by simp [results, Tryz.results52, go_sem, d0, d1, d2, d3]) rfl ?_
          exact ⟨by rw [HV.out], hb8⟩
      obtain ⟨k1, k2⟩ := hmid.2 (by omega)
      have es : (canon m == canon lo) = false := by
        rw [beq_eq_false_iff_ne]
        intro h
        have := congrArg val h
        rw [val_canon, val_canon] at this
        omega
      obtain ⟨cq, P1, P2, P3, hle, -⟩ := HCmp.out m (by omega) (by omega)
      rw [HRi.out m (by omega)] at hle
      have P1 := Lib.hid P1
      have P2 := Lib.hid P2
      have P3 := Lib.hid P3
      generalize canon (m ^ n * (f.den : Int)) = M2 at *
      generalize canon (m ^ n) = M1 at *
      have hm1 : (strZ (.string ⟨(canon hi).toArray⟩) - strZ (.string ⟨(canon m).toArray⟩)).toNat < (strZ (.string ⟨(canon hi).toArray⟩) - strZ (.string ⟨(canon lo).toArray⟩)).toNat := by rw [strZ_canon, strZ_canon, strZ_canon]; omega
      have hm2 : (strZ (.string ⟨(canon m).toArray⟩) - strZ (.string ⟨(canon lo).toArray⟩)).toNat < (strZ (.string ⟨(canon hi).toArray⟩) - strZ (.string ⟨(canon lo).toArray⟩)).toNat := by rw [strZ_canon, strZ_canon, strZ_canon]; omega
      have HM1 := Lib.hid hm1
      have HM2 := Lib.hid hm2
      clear hm1 hm2 g hl1 hl2 hl4 hmid
      by_cases gm : m ≤ z
      · have ec : decide (cq ≤ 0) = true := decide_eq_true (hle.2 gm)
        clear hle
        go_wp2_with fail
        ((with_reducible refine (C3.out.of hG hb).mono ?_); rintro e w50 ⟨rfl, hb50⟩)
        replace z6 := (hb50.block _ (Array.getElem?_eq_some_iff.1 z6).1).trans z6
        replace z7 := (hb50.block _ (Array.getElem?_eq_some_iff.1 z7).1).trans z7
        replace hb := bto hb hb50
        clear hb50 C3
        go_wp2_with fail
        ((with_reducible refine (T2'.out.of hG hb).mono ?_); rintro e w51 ⟨rfl, hb51⟩)
        replace z6 := (hb51.block _ (Array.getElem?_eq_some_iff.1 z6).1).trans z6
        replace z7 := (hb51.block _ (Array.getElem?_eq_some_iff.1 z7).1).trans z7
        replace hb := bto hb hb51
        clear hb51
        go_wp2_with fail
        ((with_reducible refine (C4.out.of hG hb).mono ?_); rintro e w52 ⟨rfl, hb52⟩)
        replace z6 := (hb52.block _ (Array.getElem?_eq_some_iff.1 z6).1).trans z6
        replace z7 := (hb52.block _ (Array.getElem?_eq_some_iff.1 z7).1).trans z7
        replace hb := bto hb hb52
        clear hb52 C4
        go_wp2_with fail
        ((with_reducible refine (P1.out.of hG hb).mono ?_); rintro e w53 ⟨rfl, hb53⟩)
        replace z6 := (hb53.block _ (Array.getElem?_eq_some_iff.1 z6).1).trans z6
        replace z7 := (hb53.block _ (Array.getElem?_eq_some_iff.1 z7).1).trans z7
        replace hb := bto hb hb53
        clear hb53 P1
        go_wp2_with fail
        ((with_reducible refine (P2.out.of hG hb).mono ?_); rintro e w54 ⟨rfl, hb54⟩)
        replace z6 := (hb54.block _ (Array.getElem?_eq_some_iff.1 z6).1).trans z6
        replace z7 := (hb54.block _ (Array.getElem?_eq_some_iff.1 z7).1).trans z7
        replace hb := bto hb hb54
        clear hb54 P2
        go_wp2_with fail
        ((with_reducible refine (P3.out.of hG hb).mono ?_); rintro e w55 ⟨rfl, hb55⟩)
        replace z6 := (hb55.block _ (Array.getElem?_eq_some_iff.1 z6).1).trans z6
        replace z7 := (hb55.block _ (Array.getElem?_eq_some_iff.1 z7).1).trans z7
        replace hb := bto hb hb55
        clear hb55 P3
        go_wp2
        go_roundw
        case rel => exact ⟨m, hi, by omega, gm, h3, h5, rfl, rfl, z6, z7, hb⟩
        case measure => exact HM1.out
      have ec : decide (cq ≤ 0) = false := decide_eq_false (fun h => gm (hle.1 h))
      clear hle
      go_wp2_with fail
      ((with_reducible refine (C3.out.of hG hb).mono ?_); rintro e w50 ⟨rfl, hb50⟩)
      replace z6 := (hb50.block _ (Array.getElem?_eq_some_iff.1 z6).1).trans z6
      replace z7 := (hb50.block _ (Array.getElem?_eq_some_iff.1 z7).1).trans z7
      replace hb := bto hb hb50
      clear hb50 C3
      go_wp2_with fail
      ((with_reducible refine (T2'.out.of hG hb).mono ?_); rintro e w51 ⟨rfl, hb51⟩)
      replace z6 := (hb51.block _ (Array.getElem?_eq_some_iff.1 z6).1).trans z6
      replace z7 := (hb51.block _ (Array.getElem?_eq_some_iff.1 z7).1).trans z7
      replace hb := bto hb hb51
      clear hb51
      go_wp2_with fail
      ((with_reducible refine (C4.out.of hG hb).mono ?_); rintro e w52 ⟨rfl, hb52⟩)
      replace z6 := (hb52.block _ (Array.getElem?_eq_some_iff.1 z6).1).trans z6
      replace z7 := (hb52.block _ (Array.getElem?_eq_some_iff.1 z7).1).trans z7
      replace hb := bto hb hb52
      clear hb52 C4
      go_wp2_with fail
      ((with_reducible refine (P1.out.of hG hb).mono ?_); rintro e w53 ⟨rfl, hb53⟩)
      replace z6 := (hb53.block _ (Array.getElem?_eq_some_iff.1 z6).1).trans z6
      replace z7 := (hb53.block _ (Array.getElem?_eq_some_iff.1 z7).1).trans z7
      replace hb := bto hb hb53
      clear hb53 P1
      go_wp2_with fail
      ((with_reducible refine (P2.out.of hG hb).mono ?_); rintro e w54 ⟨rfl, hb54⟩)
      replace z6 := (hb54.block _ (Array.getElem?_eq_some_iff.1 z6).1).trans z6
      replace z7 := (hb54.block _ (Array.getElem?_eq_some_iff.1 z7).1).trans z7
      replace hb := bto hb hb54
      clear hb54 P2
      go_wp2_with fail
      ((with_reducible refine (P3.out.of hG hb).mono ?_); rintro e w55 ⟨rfl, hb55⟩)
      replace z6 := (hb55.block _ (Array.getElem?_eq_some_iff.1 z6).1).trans z6
      replace z7 := (hb55.block _ (Array.getElem?_eq_some_iff.1 z7).1).trans z7
      replace hb := bto hb hb55
      clear hb55 P3
      go_wp2
      go_roundw
      case rel => exact ⟨lo, m, h1, h2, by omega, by omega, rfl, rfl, z6, z7, hb⟩
      case measure => exact HM2.out

end Go.Proofs.YtmjglcgdcclinaaGreatDoor
