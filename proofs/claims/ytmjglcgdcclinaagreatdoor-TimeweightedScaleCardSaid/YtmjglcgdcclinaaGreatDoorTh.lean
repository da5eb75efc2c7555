/- Annual: package timeweighted. -/
import Derived.Test.YtmjglcgdcclinaaGreatDoorTg
namespace Go.Proofs.YtmjglcgdcclinaaGreatDoor
open Go.RowKit Num
def annBad (f : Rat) (y p : Int) : Prop := f ≤ 0 ∨ y < 1 ∨ 100 < y ∨ p < 0 ∨ 12 < p
instance (f : Rat) (y p : Int) : Decidable (annBad f y p) := by unfold annBad; infer_instance
/-- what Annual returns -/
def annV (l l' : List UInt8) (y p z : Int) : Value := if ¬ (l = fN (fv l l') ∧ l' = fD (fv l l')) then .tuple #[.agg #[.string ⟨#[]⟩, .string ⟨#[]⟩], .agg #[.string ⟨#[]⟩, .string ⟨#[]⟩], .int .i64 1] else if annBad (fv l l') y p then .tuple #[.agg #[.string ⟨#[]⟩, .string ⟨#[]⟩], .agg #[.string ⟨#[]⟩, .string ⟨#[]⟩], .int .i64 2]
  else .tuple #[(Value.agg #[Value.string ⟨List.toArray (fN (Rat.divInt (z - ((10 ^ p.toNat : Nat) : Int)) ((10 ^ p.toNat : Nat) : Int)))⟩, Value.string ⟨List.toArray (fD (Rat.divInt (z - ((10 ^ p.toNat : Nat) : Int)) ((10 ^ p.toNat : Nat) : Int)))⟩]), (Value.agg #[Value.string ⟨List.toArray (fN (Rat.divInt (topA (fv l l') y.toNat ((10 ^ p.toNat : Nat) : Int) z - ((10 ^ p.toNat : Nat) : Int)) ((10 ^ p.toNat : Nat) : Int)))⟩, Value.string ⟨List.toArray (fD (Rat.divInt (topA (fv l l') y.toNat ((10 ^ p.toNat : Nat) : Int) z - ((10 ^ p.toNat : Nat) : Int)) ((10 ^ p.toNat : Nat) : Int)))⟩]), .int .i64 0]
theorem root_abs {f : Rat} {n : Nat} {p z : Int} (hf : Bd 60 f) (hp : p ≤ 12) (h : RootA f n ((10 ^ p.toNat : Nat) : Int) z) : z.natAbs < 10 ^ 75 ∧ (2 * z + 2).natAbs < 10 ^ 80 ∧ ∀ y : Int, 0 ≤ y → y ≤ 2 * z + 2 → y.natAbs < 10 ^ 80 := by
  have h1 : f.num.natAbs < 10 ^ 60 := hf.1
  have h2 := u_abs hp
  have h3 := h.nn
  have h4 := h.le
  have h5 : (f.num + 1) * ((10 ^ p.toNat : Nat) : Int) ≤ ((10 ^ 60 * 10 ^ 13 : Nat) : Int) := by
    rw [Int.natCast_mul]
    have hu := u_pos p
    generalize ((10 ^ p.toNat : Nat) : Int) = u at *
    have a1 : (f.num + 1) ≤ ((10 ^ 60 : Nat) : Int) := by omega
    have a2 : u ≤ ((10 ^ 13 : Nat) : Int) := by omega
    exact Int.le_trans (Int.mul_le_mul_of_nonneg_right a1 (by omega)) (Int.mul_le_mul_of_nonneg_left a2 (by omega))
  have h6 : (10 : Nat) ^ 60 * 10 ^ 13 < 10 ^ 75 := by decide
  have h7 : (10 : Nat) ^ 75 * 10 ≤ 10 ^ 80 := by decide
  refine ⟨by omega, by omega, fun y _ _ => by omega⟩
set_option maxHeartbeats 4000000 in
set_option maxRecDepth 100000 in
theorem twAnnual_bad (l l' : List UInt8) (y p z : Int) (w : World) (hG : Glob w) (hl : l.length ≤ 60) (hl' : l'.length ≤ 60) (hbad : ¬ (l = fN (fv l l') ∧ l' = fD (fv l l')) ∨ annBad (fv l l') y p) :
    Calls Tryz.prog 45 #[(Value.agg #[Value.string ⟨List.toArray l⟩, Value.string ⟨List.toArray l'⟩]), .int .i64 y, .int .i64 p] w fun e w' => e = .returned (annV l l' y p z) ∧ Below w.heap.size w w' := by
  obtain ⟨W, hW⟩ : ∃ W, W = ((((w.alloc (.cells #[.string ⟨l.toArray⟩, .string ⟨l'.toArray⟩] 32)).alloc (.cells #[.int .i64 y] 3)).alloc (.cells #[.string ⟨#[]⟩, .string ⟨#[]⟩] 32)).alloc (.cells #[.string ⟨#[]⟩, .string ⟨#[]⟩] 32)) := ⟨_, rfl⟩
  have x3 : Blk W w.heap.size #[.string ⟨l.toArray⟩, .string ⟨l'.toArray⟩] := by rw [hW]; exact (((Blk.new w _ 32).below (below_alloc _ _)).below (below_alloc _ _)).below (below_alloc _ _)
  have x4 : Blk W (w.heap.size + 1) #[.int .i64 y] := by rw [hW]; have h1 := ((Blk.new (w.alloc (.cells #[.string ⟨l.toArray⟩, .string ⟨l'.toArray⟩] 32)) #[.int .i64 y] 3).below (below_alloc _ (.cells #[.string ⟨#[]⟩, .string ⟨#[]⟩] 32))).below (below_alloc _ (.cells #[.string ⟨#[]⟩, .string ⟨#[]⟩] 32)); simp only [World.size_alloc] at h1; exact h1
  have z6 : W.heap[w.heap.size + 1 + 1]? = some (.cells #[.string ⟨#[]⟩, .string ⟨#[]⟩] 32) := by
    rw [hW]
    have h2 := World.alloc_heap_new ((w.alloc (.cells #[.string ⟨l.toArray⟩, .string ⟨l'.toArray⟩] 32)).alloc (.cells #[.int .i64 y] 3)) (.cells #[.string ⟨#[]⟩, .string ⟨#[]⟩] 32)
    have h1 := (below_alloc (((w.alloc (.cells #[.string ⟨l.toArray⟩, .string ⟨l'.toArray⟩] 32)).alloc (.cells #[.int .i64 y] 3)).alloc (.cells #[.string ⟨#[]⟩, .string ⟨#[]⟩] 32)) (.cells #[.string ⟨#[]⟩, .string ⟨#[]⟩] 32)).block (w.heap.size + 1 + 1) (by simp only [World.size_alloc]; omega)
    simp only [World.size_alloc] at h2
    exact h1.trans h2
  have z7 : W.heap[w.heap.size + 1 + 1 + 1]? = some (.cells #[.string ⟨#[]⟩, .string ⟨#[]⟩] 32) := by
    rw [hW]
    have h2 := World.alloc_heap_new (((w.alloc (.cells #[.string ⟨l.toArray⟩, .string ⟨l'.toArray⟩] 32)).alloc (.cells #[.int .i64 y] 3)).alloc (.cells #[.string ⟨#[]⟩, .string ⟨#[]⟩] 32)) (.cells #[.string ⟨#[]⟩, .string ⟨#[]⟩] 32)
    simp only [World.size_alloc] at h2
    exact h2
  have hb : Below w.heap.size w W := by rw [hW]; exact bto (below_alloc _ _) (bto (below_alloc _ _) (bto (below_alloc _ _) (below_alloc _ _)))
  have hsW : W.heap.size = w.heap.size + 4 := by rw [hW]; simp only [World.size_alloc]
  have HW := Lib.hid hW
  clear hW
  by_cases g : l = fN (fv l l') ∧ l' = fD (fv l l')
  rotate_left
  · have HV : Hid (annV l l' y p z = .tuple #[.agg #[.string ⟨#[]⟩, .string ⟨#[]⟩], .agg #[.string ⟨#[]⟩, .string ⟨#[]⟩], .int .i64 1]) := if_pos g
    have C1 := Lib.hid (rCheck (isq_raw (k := 60) hl hl' (by decide)) (if_neg g))
    clear g hbad
    go_enter Tryz.func45, Tryz.ntmps45
    go_wp2_with fail
    rw [← HW.out]
    have q30 := x3.c 0
    have q31 := x3.c 1
    go_wp2_with fail
    ((with_reducible refine (C1.out.of hG hb).mono ?_); rintro e w1 ⟨rfl, hb1⟩)
    replace x3 := x3.below hb1
    replace x4 := x4.below hb1
    replace z6 := (hb1.block _ (Array.getElem?_eq_some_iff.1 z6).1).trans z6
    replace z7 := (hb1.block _ (Array.getElem?_eq_some_iff.1 z7).1).trans z7
    replace hb := bto hb hb1
    clear hb1 C1
    clear q30 q31
    have y6 := FBox.ofB z6
    have y7 := FBox.ofB z7
    have g0 := y6.c0
    have g1 := y6.c1
    have g2 := y6.f0
    have g3 := y6.f1
    have k0 := y7.c0
    have k1 := y7.c1
    have k2 := y7.f0
    have k3 := y7.f1
    have hn67 : w.heap.size + 1 + 1 ≠ w.heap.size + 1 + 1 + 1 := by omega
    go_wp2
    have hy6 := (y6.set (.string ⟨#[]⟩) (.string ⟨#[]⟩)).setNe hn67 (.string ⟨#[]⟩) (.string ⟨#[]⟩)
    have hy7 := (y7.setNe (Ne.symm hn67) (.string ⟨#[]⟩) (.string ⟨#[]⟩)).set (.string ⟨#[]⟩) (.string ⟨#[]⟩)
    have d0 := hy6.c0
    have d1 := hy6.c1
    have d2 := hy7.c0
    have d3 := hy7.c1
    refine bodyPost_ret (v := .tuple #[.agg #[.string ⟨#[]⟩, .string ⟨#[]⟩], .agg #[.string ⟨#[]⟩, .string ⟨#[]⟩], .int .i64 1]) (by simp [results, Tryz.results45, go_sem, d0, d1, d2, d3]) rfl ?_
    exact ⟨by rw [HV.out], below_set2 (b := w.heap.size + 1 + 1 + 1) (below_set2 (b := w.heap.size + 1 + 1) hb (by omega) _ _) (by omega) _ _⟩
  have gb : annBad (fv l l') y p := by rcases hbad with h | h; exact absurd g h; exact h
  have HV : Hid (annV l l' y p z = .tuple #[.agg #[.string ⟨#[]⟩, .string ⟨#[]⟩], .agg #[.string ⟨#[]⟩, .string ⟨#[]⟩], .int .i64 2]) := by show _ = _; unfold annV; rw [if_neg (fun h => h g), if_pos gb]
  have C1 := Lib.hid (rCheck (isq_raw (k := 60) hl hl' (by decide)) (if_pos g))
  have hcq : cmpQ (fv l l') 0 ≤ 0 ↔ fv l l' ≤ 0 := cmpQ_le0
  have C2 := Lib.hid (rCompare (isq_raw (l := l) (l' := l') (k := 60) hl hl' (by decide)) isq_zero rfl)
  unfold annBad at gb
  rw [← hcq] at gb
  generalize cmpQ (fv l l') 0 = cc at *
  clear g hbad hcq
  by_cases a1 : cc ≤ 0
  · have e1 : decide (cc ≤ 0) = true := decide_eq_true (by omega)
    clear gb
    go_enter Tryz.func45, Tryz.ntmps45
    go_wp2_with fail
    rw [← HW.out]
    have q30 := x3.c 0
    have q31 := x3.c 1
    go_wp2_with fail
    ((with_reducible refine (C1.out.of hG hb).mono ?_); rintro e w1 ⟨rfl, hb1⟩)
    replace x3 := x3.below hb1
    replace x4 := x4.below hb1
    replace z6 := (hb1.block _ (Array.getElem?_eq_some_iff.1 z6).1).trans z6
    replace z7 := (hb1.block _ (Array.getElem?_eq_some_iff.1 z7).1).trans z7
    replace hb := bto hb hb1
    clear hb1 C1
    replace q30 := x3.c 0
    replace q31 := x3.c 1
    have q40 := x4.c 0
    go_wp2_with fail
    ((with_reducible refine (C2.out.of hG hb).mono ?_); rintro e w2 ⟨rfl, hb2⟩)
    replace x3 := x3.below hb2
    replace x4 := x4.below hb2
    replace z6 := (hb2.block _ (Array.getElem?_eq_some_iff.1 z6).1).trans z6
    replace z7 := (hb2.block _ (Array.getElem?_eq_some_iff.1 z7).1).trans z7
    replace hb := bto hb hb2
    clear hb2 C2
    clear q30 q31
    replace q40 := x4.c 0
    have y6 := FBox.ofB z6
    have y7 := FBox.ofB z7
    have g0 := y6.c0
    have g1 := y6.c1
    have g2 := y6.f0
    have g3 := y6.f1
    have k0 := y7.c0
    have k1 := y7.c1
    have k2 := y7.f0
    have k3 := y7.f1
    have hn67 : w.heap.size + 1 + 1 ≠ w.heap.size + 1 + 1 + 1 := by omega
    go_wp2
    have hy6 := (y6.set (.string ⟨#[]⟩) (.string ⟨#[]⟩)).setNe hn67 (.string ⟨#[]⟩) (.string ⟨#[]⟩)
    have hy7 := (y7.setNe (Ne.symm hn67) (.string ⟨#[]⟩) (.string ⟨#[]⟩)).set (.string ⟨#[]⟩) (.string ⟨#[]⟩)
    have d0 := hy6.c0
    have d1 := hy6.c1
    have d2 := hy7.c0
    have d3 := hy7.c1
    refine bodyPost_ret (v := .tuple #[.agg #[.string ⟨#[]⟩, .string ⟨#[]⟩], .agg #[.string ⟨#[]⟩, .string ⟨#[]⟩], .int .i64 2]) (by simp [results, Tryz.results45, go_sem, d0, d1, d2, d3]) rfl ?_
    exact ⟨by rw [HV.out], below_set2 (b := w.heap.size + 1 + 1 + 1) (below_set2 (b := w.heap.size + 1 + 1) hb (by omega) _ _) (by omega) _ _⟩
  by_cases a2 : y < 1
  · have e1 : decide (cc ≤ 0) = false := decide_eq_false (by omega)
    have e2 : decide (y < 1) = true := decide_eq_true (by omega)
    clear gb
    go_enter Tryz.func45, Tryz.ntmps45
    go_wp2_with fail
    rw [← HW.out]
    have q30 := x3.c 0
    have q31 := x3.c 1
    go_wp2_with fail
    ((with_reducible refine (C1.out.of hG hb).mono ?_); rintro e w1 ⟨rfl, hb1⟩)
    replace x3 := x3.below hb1
    replace x4 := x4.below hb1
    replace z6 := (hb1.block _ (Array.getElem?_eq_some_iff.1 z6).1).trans z6
    replace z7 := (hb1.block _ (Array.getElem?_eq_some_iff.1 z7).1).trans z7
    replace hb := bto hb hb1
    clear hb1 C1
    replace q30 := x3.c 0
    replace q31 := x3.c 1
    have q40 := x4.c 0
    go_wp2_with fail
    ((with_reducible refine (C2.out.of hG hb).mono ?_); rintro e w2 ⟨rfl, hb2⟩)
    replace x3 := x3.below hb2
    replace x4 := x4.below hb2
    replace z6 := (hb2.block _ (Array.getElem?_eq_some_iff.1 z6).1).trans z6
    replace z7 := (hb2.block _ (Array.getElem?_eq_some_iff.1 z7).1).trans z7
    replace hb := bto hb hb2
    clear hb2 C2
    clear q30 q31
    replace q40 := x4.c 0
    have y6 := FBox.ofB z6
    have y7 := FBox.ofB z7
    have g0 := y6.c0
    have g1 := y6.c1
    have g2 := y6.f0
    have g3 := y6.f1
    have k0 := y7.c0
    have k1 := y7.c1
    have k2 := y7.f0
    have k3 := y7.f1
    have hn67 : w.heap.size + 1 + 1 ≠ w.heap.size + 1 + 1 + 1 := by omega
    go_wp2
    have hy6 := (y6.set (.string ⟨#[]⟩) (.string ⟨#[]⟩)).setNe hn67 (.string ⟨#[]⟩) (.string ⟨#[]⟩)
    have hy7 := (y7.setNe (Ne.symm hn67) (.string ⟨#[]⟩) (.string ⟨#[]⟩)).set (.string ⟨#[]⟩) (.string ⟨#[]⟩)
    have d0 := hy6.c0
    have d1 := hy6.c1
    have d2 := hy7.c0
    have d3 := hy7.c1
    refine bodyPost_ret (v := .tuple #[.agg #[.string ⟨#[]⟩, .string ⟨#[]⟩], .agg #[.string ⟨#[]⟩, .string ⟨#[]⟩], .int .i64 2]) (by simp [results, Tryz.results45, go_sem, d0, d1, d2, d3]) rfl ?_
    exact ⟨by rw [HV.out], below_set2 (b := w.heap.size + 1 + 1 + 1) (below_set2 (b := w.heap.size + 1 + 1) hb (by omega) _ _) (by omega) _ _⟩
  by_cases a3 : 100 < y
  · have e1 : decide (cc ≤ 0) = false := decide_eq_false (by omega)
    have e2 : decide (y < 1) = false := decide_eq_false (by omega)
    have e3 : decide (100 < y) = true := decide_eq_true (by omega)
    clear gb
    go_enter Tryz.func45, Tryz.ntmps45
    go_wp2_with fail
    rw [← HW.out]
    have q30 := x3.c 0
    have q31 := x3.c 1
    go_wp2_with fail
    ((with_reducible refine (C1.out.of hG hb).mono ?_); rintro e w1 ⟨rfl, hb1⟩)
    replace x3 := x3.below hb1
    replace x4 := x4.below hb1
    replace z6 := (hb1.block _ (Array.getElem?_eq_some_iff.1 z6).1).trans z6
    replace z7 := (hb1.block _ (Array.getElem?_eq_some_iff.1 z7).1).trans z7
    replace hb := bto hb hb1
    clear hb1 C1
    replace q30 := x3.c 0
    replace q31 := x3.c 1
    have q40 := x4.c 0
    go_wp2_with fail
    ((with_reducible refine (C2.out.of hG hb).mono ?_); rintro e w2 ⟨rfl, hb2⟩)
    replace x3 := x3.below hb2
    replace x4 := x4.below hb2
    replace z6 := (hb2.block _ (Array.getElem?_eq_some_iff.1 z6).1).trans z6
    replace z7 := (hb2.block _ (Array.getElem?_eq_some_iff.1 z7).1).trans z7
    replace hb := bto hb hb2
    clear hb2 C2
    clear q30 q31
    replace q40 := x4.c 0
    have y6 := FBox.ofB z6
    have y7 := FBox.ofB z7
    have g0 := y6.c0
    have g1 := y6.c1
    have g2 := y6.f0
    have g3 := y6.f1
    have k0 := y7.c0
    have k1 := y7.c1
    have k2 := y7.f0
    have k3 := y7.f1
    have hn67 : w.heap.size + 1 + 1 ≠ w.heap.size + 1 + 1 + 1 := by omega
    go_wp2
    have hy6 := (y6.set (.string ⟨#[]⟩) (.string ⟨#[]⟩)).setNe hn67 (.string ⟨#[]⟩) (.string ⟨#[]⟩)
    have hy7 := (y7.setNe (Ne.symm hn67) (.string ⟨#[]⟩) (.string ⟨#[]⟩)).set (.string ⟨#[]⟩) (.string ⟨#[]⟩)
    have d0 := hy6.c0
    have d1 := hy6.c1
    have d2 := hy7.c0
    have d3 := hy7.c1
    refine bodyPost_ret (v := .tuple #[.agg #[.string ⟨#[]⟩, .string ⟨#[]⟩], .agg #[.string ⟨#[]⟩, .string ⟨#[]⟩], .int .i64 2]) (by simp [results, Tryz.results45, go_sem, d0, d1, d2, d3]) rfl ?_
    exact ⟨by rw [HV.out], below_set2 (b := w.heap.size + 1 + 1 + 1) (below_set2 (b := w.heap.size + 1 + 1) hb (by omega) _ _) (by omega) _ _⟩
  by_cases a4 : p < 0
  · have e1 : decide (cc ≤ 0) = false := decide_eq_false (by omega)
    have e2 : decide (y < 1) = false := decide_eq_false (by omega)
    have e3 : decide (100 < y) = false := decide_eq_false (by omega)
    have e4 : decide (p < 0) = true := decide_eq_true (by omega)
    clear gb
    go_enter Tryz.func45, Tryz.ntmps45
    go_wp2_with fail
    rw [← HW.out]
    have q30 := x3.c 0
    have q31 := x3.c 1
    go_wp2_with fail
    ((with_reducible refine (C1.out.of hG hb).mono ?_); rintro e w1 ⟨rfl, hb1⟩)
    replace x3 := x3.below hb1
    replace x4 := x4.below hb1
    replace z6 := (hb1.block _ (Array.getElem?_eq_some_iff.1 z6).1).trans z6
    replace z7 := (hb1.block _ (Array.getElem?_eq_some_iff.1 z7).1).trans z7
    replace hb := bto hb hb1
    clear hb1 C1
    replace q30 := x3.c 0
    replace q31 := x3.c 1
    have q40 := x4.c 0
    go_wp2_with fail
    ((with_reducible refine (C2.out.of hG hb).mono ?_); rintro e w2 ⟨rfl, hb2⟩)
    replace x3 := x3.below hb2
    replace x4 := x4.below hb2
    replace z6 := (hb2.block _ (Array.getElem?_eq_some_iff.1 z6).1).trans z6
    replace z7 := (hb2.block _ (Array.getElem?_eq_some_iff.1 z7).1).trans z7
    replace hb := bto hb hb2
    clear hb2 C2
    clear q30 q31
    replace q40 := x4.c 0
    have y6 := FBox.ofB z6
    have y7 := FBox.ofB z7
    have g0 := y6.c0
    have g1 := y6.c1
    have g2 := y6.f0
    have g3 := y6.f1
    have k0 := y7.c0
    have k1 := y7.c1
    have k2 := y7.f0
    have k3 := y7.f1
    have hn67 : w.heap.size + 1 + 1 ≠ w.heap.size + 1 + 1 + 1 := by omega
    go_wp2
    have hy6 := (y6.set (.string ⟨#[]⟩) (.string ⟨#[]⟩)).setNe hn67 (.string ⟨#[]⟩) (.string ⟨#[]⟩)
    have hy7 := (y7.setNe (Ne.symm hn67) (.string ⟨#[]⟩) (.string ⟨#[]⟩)).set (.string ⟨#[]⟩) (.string ⟨#[]⟩)
    have d0 := hy6.c0
    have d1 := hy6.c1
    have d2 := hy7.c0
    have d3 := hy7.c1
    refine bodyPost_ret (v := .tuple #[.agg #[.string ⟨#[]⟩, .string ⟨#[]⟩], .agg #[.string ⟨#[]⟩, .string ⟨#[]⟩], .int .i64 2]) (by simp [results, Tryz.results45, go_sem, d0, d1, d2, d3]) rfl ?_
    exact ⟨by rw [HV.out], below_set2 (b := w.heap.size + 1 + 1 + 1) (below_set2 (b := w.heap.size + 1 + 1) hb (by omega) _ _) (by omega) _ _⟩
  · have a5 : 12 < p := by omega
    have e1 : decide (cc ≤ 0) = false := decide_eq_false (by omega)
    have e2 : decide (y < 1) = false := decide_eq_false (by omega)
    have e3 : decide (100 < y) = false := decide_eq_false (by omega)
    have e4 : decide (p < 0) = false := decide_eq_false (by omega)
    have e5 : decide (12 < p) = true := decide_eq_true (by omega)
    clear gb
    go_enter Tryz.func45, Tryz.ntmps45
    go_wp2_with fail
    rw [← HW.out]
    have q30 := x3.c 0
    have q31 := x3.c 1
    go_wp2_with fail
    ((with_reducible refine (C1.out.of hG hb).mono ?_); rintro e w1 ⟨rfl, hb1⟩)
    replace x3 := x3.below hb1
    replace x4 := x4.below hb1
    replace z6 := (hb1.block _ (Array.getElem?_eq_some_iff.1 z6).1).trans z6
    replace z7 := (hb1.block _ (Array.getElem?_eq_some_iff.1 z7).1).trans z7
    replace hb := bto hb hb1
    clear hb1 C1
    replace q30 := x3.c 0
    replace q31 := x3.c 1
    have q40 := x4.c 0
    go_wp2_with fail
    ((with_reducible refine (C2.out.of hG hb).mono ?_); rintro e w2 ⟨rfl, hb2⟩)
    replace x3 := x3.below hb2
    replace x4 := x4.below hb2
    replace z6 := (hb2.block _ (Array.getElem?_eq_some_iff.1 z6).1).trans z6
    replace z7 := (hb2.block _ (Array.getElem?_eq_some_iff.1 z7).1).trans z7
    replace hb := bto hb hb2
    clear hb2 C2
    clear q30 q31
    replace q40 := x4.c 0
    have y6 := FBox.ofB z6
    have y7 := FBox.ofB z7
    have g0 := y6.c0
    have g1 := y6.c1
    have g2 := y6.f0
    have g3 := y6.f1
    have k0 := y7.c0
    have k1 := y7.c1
    have k2 := y7.f0
    have k3 := y7.f1
    have hn67 : w.heap.size + 1 + 1 ≠ w.heap.size + 1 + 1 + 1 := by omega
    go_wp2
    have hy6 := (y6.set (.string ⟨#[]⟩) (.string ⟨#[]⟩)).setNe hn67 (.string ⟨#[]⟩) (.string ⟨#[]⟩)
    have hy7 := (y7.setNe (Ne.symm hn67) (.string ⟨#[]⟩) (.string ⟨#[]⟩)).set (.string ⟨#[]⟩) (.string ⟨#[]⟩)
    have d0 := hy6.c0
    have d1 := hy6.c1
    have d2 := hy7.c0
    have d3 := hy7.c1
    refine bodyPost_ret (v := .tuple #[.agg #[.string ⟨#[]⟩, .string ⟨#[]⟩], .agg #[.string ⟨#[]⟩, .string ⟨#[]⟩], .int .i64 2]) (by simp [results, Tryz.results45, go_sem, d0, d1, d2, d3]) rfl ?_
    exact ⟨by rw [HV.out], below_set2 (b := w.heap.size + 1 + 1 + 1) (below_set2 (b := w.heap.size + 1 + 1) hb (by omega) _ _) (by omega) _ _⟩
set_option maxHeartbeats 8000000 in
set_option maxRecDepth 100000 in
theorem twAnnual_ok (l l' : List UInt8) (y p z : Int) (w : World) (hG : Glob w) (hl : l.length ≤ 60) (hl' : l'.length ≤ 60) (g : l = fN (fv l l') ∧ l' = fD (fv l l')) (gb : ¬ annBad (fv l l') y p) (hy8 : y ≤ 8) (hR : RootA (fv l l') y.toNat ((10 ^ p.toNat : Nat) : Int) z) :
    Calls Tryz.prog 45 #[(Value.agg #[Value.string ⟨List.toArray l⟩, Value.string ⟨List.toArray l'⟩]), .int .i64 y, .int .i64 p] w fun e w' => e = .returned (annV l l' y p z) ∧ Below w.heap.size w w' := by
  obtain ⟨W, hW⟩ : ∃ W, W = ((((w.alloc (.cells #[.string ⟨l.toArray⟩, .string ⟨l'.toArray⟩] 32)).alloc (.cells #[.int .i64 y] 3)).alloc (.cells #[.string ⟨#[]⟩, .string ⟨#[]⟩] 32)).alloc (.cells #[.string ⟨#[]⟩, .string ⟨#[]⟩] 32)) := ⟨_, rfl⟩
  have x3 : Blk W w.heap.size #[.string ⟨l.toArray⟩, .string ⟨l'.toArray⟩] := by rw [hW]; exact (((Blk.new w _ 32).below (below_alloc _ _)).below (below_alloc _ _)).below (below_alloc _ _)
  have x4 : Blk W (w.heap.size + 1) #[.int .i64 y] := by rw [hW]; have h1 := ((Blk.new (w.alloc (.cells #[.string ⟨l.toArray⟩, .string ⟨l'.toArray⟩] 32)) #[.int .i64 y] 3).below (below_alloc _ (.cells #[.string ⟨#[]⟩, .string ⟨#[]⟩] 32))).below (below_alloc _ (.cells #[.string ⟨#[]⟩, .string ⟨#[]⟩] 32)); simp only [World.size_alloc] at h1; exact h1
  have z6 : W.heap[w.heap.size + 1 + 1]? = some (.cells #[.string ⟨#[]⟩, .string ⟨#[]⟩] 32) := by
    rw [hW]
    have h2 := World.alloc_heap_new ((w.alloc (.cells #[.string ⟨l.toArray⟩, .string ⟨l'.toArray⟩] 32)).alloc (.cells #[.int .i64 y] 3)) (.cells #[.string ⟨#[]⟩, .string ⟨#[]⟩] 32)
    have h1 := (below_alloc (((w.alloc (.cells #[.string ⟨l.toArray⟩, .string ⟨l'.toArray⟩] 32)).alloc (.cells #[.int .i64 y] 3)).alloc (.cells #[.string ⟨#[]⟩, .string ⟨#[]⟩] 32)) (.cells #[.string ⟨#[]⟩, .string ⟨#[]⟩] 32)).block (w.heap.size + 1 + 1) (by simp only [World.size_alloc]; omega)
    simp only [World.size_alloc] at h2
    exact h1.trans h2
  have z7 : W.heap[w.heap.size + 1 + 1 + 1]? = some (.cells #[.string ⟨#[]⟩, .string ⟨#[]⟩] 32) := by
    rw [hW]
    have h2 := World.alloc_heap_new (((w.alloc (.cells #[.string ⟨l.toArray⟩, .string ⟨l'.toArray⟩] 32)).alloc (.cells #[.int .i64 y] 3)).alloc (.cells #[.string ⟨#[]⟩, .string ⟨#[]⟩] 32)) (.cells #[.string ⟨#[]⟩, .string ⟨#[]⟩] 32)
    simp only [World.size_alloc] at h2
    exact h2
  have hb : Below w.heap.size w W := by rw [hW]; exact bto (below_alloc _ _) (bto (below_alloc _ _) (bto (below_alloc _ _) (below_alloc _ _)))
  have hsW : W.heap.size = w.heap.size + 4 := by rw [hW]; simp only [World.size_alloc]
  have HW := Lib.hid hW
  clear hW
  have HV0 : Hid (annV l l' y p z = .tuple #[(Value.agg #[Value.string ⟨List.toArray (fN (Rat.divInt (z - ((10 ^ p.toNat : Nat) : Int)) ((10 ^ p.toNat : Nat) : Int)))⟩, Value.string ⟨List.toArray (fD (Rat.divInt (z - ((10 ^ p.toNat : Nat) : Int)) ((10 ^ p.toNat : Nat) : Int)))⟩]), (Value.agg #[Value.string ⟨List.toArray (fN (Rat.divInt (topA (fv l l') y.toNat ((10 ^ p.toNat : Nat) : Int) z - ((10 ^ p.toNat : Nat) : Int)) ((10 ^ p.toNat : Nat) : Int)))⟩, Value.string ⟨List.toArray (fD (Rat.divInt (topA (fv l l') y.toNat ((10 ^ p.toNat : Nat) : Int) z - ((10 ^ p.toNat : Nat) : Int)) ((10 ^ p.toNat : Nat) : Int)))⟩]), .int .i64 0]) := by show _ = _; unfold annV; rw [if_neg (fun h => h g), if_neg gb]
  have C1 := Lib.hid (rCheck (isq_raw (k := 60) hl hl' (by decide)) (if_pos g))
  have hcq : cmpQ (fv l l') 0 ≤ 0 ↔ fv l l' ≤ 0 := cmpQ_le0
  have C2 := Lib.hid (rCompare (isq_raw (l := l) (l' := l') (k := 60) hl hl' (by decide)) isq_zero rfl)
  have gb' : ¬ fv l l' ≤ 0 ∧ 1 ≤ y ∧ y ≤ 100 ∧ 0 ≤ p ∧ p ≤ 12 := by
    unfold annBad at gb
    exact ⟨fun h => gb (.inl h), by omega, by omega, by omega, by omega⟩
  obtain ⟨b0, b1, b2, b3, b4⟩ := gb'
  rw [← hcq] at b0
  have hf60 : Bd 60 (fv l l') := bd_fv hl hl' (by decide)
  obtain ⟨r1, r2, r3⟩ := root_abs hf60 b4 hR
  have hu0 := u_pos p
  have hul := u_len b4
  have hua := u_abs b4
  obtain ⟨n, hn⟩ : ∃ n, n = y.toNat := ⟨_, rfl⟩
  have hyn : y = (n : Int) := by omega
  have C3 := Lib.hid (niPower46 (l := [49, 48]) (by decide) (n := p.toNat) (by omega) (ten_u p))
  rw [show ((p.toNat : Nat) : Int) = p by omega] at C3
  rw [← hn] at hR HV0
  have HTop : Hid (topA (fv l l') n ((10 ^ p.toNat : Nat) : Int) z = if (Rat.divInt z ((10 ^ p.toNat : Nat) : Int)) ^ n = fv l l' then z else z + 1) := rfl
  have HL1 := Lib.hid (less_one z hu0)
  have HL2 : Hid (∀ t, Rat.divInt (t - ((10 ^ p.toNat : Nat) : Int)) ((10 ^ p.toNat : Nat) : Int) = Rat.divInt t ((10 ^ p.toNat : Nat) : Int) - 1) := fun t => less_one t hu0
  have HPU := Lib.hid (plus_unit z hu0)
  generalize topA (fv l l') n ((10 ^ p.toNat : Nat) : Int) z = top at *
  generalize cmpQ (fv l l') 0 = cc at *
  obtain ⟨u, hu⟩ : ∃ u, u = ((10 ^ p.toNat : Nat) : Int) := ⟨_, rfl⟩
  rw [← hu] at hR HV0 hu0 hul hua C3 HTop HL1 HL2 HPU
  obtain ⟨f, hf⟩ : ∃ f, f = fv l l' := ⟨_, rfl⟩
  rw [← hf] at hR HTop
  have HRi := Lib.hid hR.iff
  have hzn := hR.nn
  have HBq : Hid (∀ t : Int, 0 ≤ t → t ≤ 2 * z + 2 → Bd 90 (Rat.divInt t u) ∧ (canon t).length ≤ 81) := fun t h1 h2 => ⟨bd_mono (bd_divInt (k := 80) (r3 t h1 h2) (Nat.lt_of_lt_of_le hua (by decide)) (by omega)) (by decide), canon_len_le _ 80 (r3 t h1 h2)⟩
  have hzu : (canon (z - u)).length ≤ 80 := Nat.le_trans (canon_len_le _ 76 (by have : (10 : Nat) ^ 75 + 10 ^ 13 ≤ 10 ^ 76 := by decide
                                                                                have := Int.natAbs_sub_le z u
                                                                                omega)) (by decide)
  have hzl := (HBq.out z hzn (by omega)).2
  have C5 := Lib.hid (niSub46 (l := canon z) (l' := canon u) (by omega) (by omega) (show _ = z - u by rw [val_canon, val_canon]))
  have C6 := Lib.hid (twRatio (l := canon (z - u)) (l' := canon u) (by omega) (by omega) (by rw [val_canon]; omega) (show _ = Rat.divInt (z - u) u by rw [val_canon, val_canon]))
  have hqz := (HBq.out z hzn (by omega)).1
  have C7 := Lib.hid (rCompare (isq_fr (bd_pow hqz n) (by omega)) (isq_raw (l := l) (l' := l') (k := 60) hl hl' (by decide)) rfl)
  have HC7 : Hid (cmpQ ((Rat.divInt z u) ^ n) (fv l l') = 0 ↔ (Rat.divInt z u) ^ n = f) := by rw [hf]; exact cmpQ_eq _ _
  have C8 := Lib.hid (twRatio (l := [49]) (l' := canon u) (by decide) (by omega) (by rw [val_canon]; omega) (show _ = Rat.divInt 1 u by rw [val_canon]; rfl))
  have hb1u : Bd 13 (Rat.divInt 1 u) := bd_divInt (by decide) hua (by omega)
  have hbzu : Bd 91 (Rat.divInt (z - u) u) := bd_divInt (Nat.lt_of_lt_of_le (show (z - u).natAbs < 10 ^ 76 from by have : (10 : Nat) ^ 75 + 10 ^ 13 ≤ 10 ^ 76 := by decide
                                                                                                                   have := Int.natAbs_sub_le z u
                                                                                                                   omega) (by decide)) (Nat.lt_of_lt_of_le hua (by decide)) (by omega)
  have C9 := Lib.hid (rAdd (isq_fr hbzu (by decide)) (isq_fr hb1u (by decide)) (show _ = Rat.divInt (z + 1 - u) u by rw [HL1.out, HL2.out, ← HPU.out]; grind))
  obtain ⟨fa, hfa⟩ : ∃ fa, fa = Rat.divInt (z - u) u := ⟨_, rfl⟩
  rw [← hfa] at C6 C9 HV0
  obtain ⟨fb, hfb⟩ : ∃ fb, fb = Rat.divInt (z + 1 - u) u := ⟨_, rfl⟩
  rw [← hfb] at C9
  have HFA := Lib.hid hfa
  have HFB := Lib.hid hfb
  have HFf := Lib.hid hf
  have HYN := Lib.hid hyn
  have e1 : decide (cc ≤ 0) = false := decide_eq_false b0
  have e2 : decide (y < 1) = false := decide_eq_false (by omega)
  have e3 : decide (100 < y) = false := decide_eq_false (by omega)
  have e4 : decide (p < 0) = false := decide_eq_false (by omega)
  have e5 : decide (12 < p) = false := decide_eq_false (by omega)
  have hn8 : n ≤ 8 := by omega
  clear g gb hcq b0 b1 b2 b3 b4 hf60 hn hyn hR HL1 HL2 HPU hf hfa hfb hu hb1u hbzu hqz hzu r1 hy8
  go_enter Tryz.func45, Tryz.ntmps45
  go_wp2_with fail
  rw [← HW.out]
  have q30 := x3.c 0
  have q31 := x3.c 1
  go_wp2_with fail
  ((with_reducible refine (C1.out.of hG hb).mono ?_); rintro e w1 ⟨rfl, hb1⟩)
  replace x3 := x3.below hb1
  replace x4 := x4.below hb1
  replace z6 := (hb1.block _ (Array.getElem?_eq_some_iff.1 z6).1).trans z6
  replace z7 := (hb1.block _ (Array.getElem?_eq_some_iff.1 z7).1).trans z7
  replace hb := bto hb hb1
  clear hb1 C1
  replace q30 := x3.c 0
  replace q31 := x3.c 1
  have q40 := x4.c 0
  go_wp2_with fail
  ((with_reducible refine (C2.out.of hG hb).mono ?_); rintro e w2 ⟨rfl, hb2⟩)
  replace x3 := x3.below hb2
  replace x4 := x4.below hb2
  replace z6 := (hb2.block _ (Array.getElem?_eq_some_iff.1 z6).1).trans z6
  replace z7 := (hb2.block _ (Array.getElem?_eq_some_iff.1 z7).1).trans z7
  replace hb := bto hb hb2
  clear hb2 C2
  clear q30 q31
  replace q40 := x4.c 0
  go_wp2_with fail
  ((with_reducible refine (C3.out.of hG hb).mono ?_); rintro e w3 ⟨rfl, hb3⟩)
  replace x3 := x3.below hb3
  replace x4 := x4.below hb3
  replace z6 := (hb3.block _ (Array.getElem?_eq_some_iff.1 z6).1).trans z6
  replace z7 := (hb3.block _ (Array.getElem?_eq_some_iff.1 z7).1).trans z7
  replace hb := bto hb hb3
  clear hb3 C3
  clear q40
  have hsz3 := hb.size
  have hbA := below_alloc w3 (.cells #[.string ⟨(canon u).toArray⟩] 30)
  have x9 := Blk.new w3 #[.string ⟨(canon u).toArray⟩] 30
  obtain ⟨b9, hb9⟩ : ∃ b9, b9 = w3.heap.size := ⟨_, rfl⟩
  rw [← hb9] at x9
  obtain ⟨w4, hw4⟩ : ∃ w4, w4 = w3.alloc (.cells #[.string ⟨(canon u).toArray⟩] 30) := ⟨_, rfl⟩
  have hs4 : w4.heap.size = w3.heap.size + 1 := by rw [hw4]; simp
  rw [← hw4] at hbA x9
  have hbB := below_alloc w4 (.cells #[.func (Fn.func 109) #[] #[.pointer (some ⟨b9, 0, none⟩), .pointer (some ⟨w.heap.size + 1, 0, none⟩)]] 53)
  have x11 := Blk.new w4 #[.func (Fn.func 109) #[] #[.pointer (some ⟨b9, 0, none⟩), .pointer (some ⟨w.heap.size + 1, 0, none⟩)]] 53
  obtain ⟨b11, hb11⟩ : ∃ b11, b11 = w4.heap.size := ⟨_, rfl⟩
  rw [← hb11] at x11
  have hbAB := bto hbA hbB
  have z6l := (Array.getElem?_eq_some_iff.1 z6).1
  have z7l := (Array.getElem?_eq_some_iff.1 z7).1
  replace x3 := x3.below hbAB
  replace x4 := x4.below hbAB
  replace x9 := x9.below hbB
  replace z6 := (hbAB.block _ z6l).trans z6
  replace z7 := (hbAB.block _ z7l).trans z7
  replace hb := bto hb hbAB
  have hx9 : ¬ (b9 = w.heap.size + 1 + 1 ∨ b9 = w.heap.size + 1 + 1 + 1) := by omega
  clear hbA hbB hbAB z6l z7l
  have hbb : b9 + 1 = b11 := by omega
  go_wp2_with fail
  rw [← hb9, ← hw4]
  (try rw [← hb11])
  (try rw [hbb])
  obtain ⟨w5, hw5⟩ : ∃ w5, w5 = w4.alloc (.cells #[.func (Fn.func 109) #[] #[.pointer (some ⟨b9, 0, none⟩), .pointer (some ⟨w.heap.size + 1, 0, none⟩)]] 53) := ⟨_, rfl⟩
  rw [← hw5] at x3 x4 x9 x11 z6 z7 hb
  (try rw [← hw5])
  have hs5 : w5.heap.size = w4.heap.size + 1 := by rw [hw5]; simp
  clear hw5 hw4
  have C4 := Lib.hid (twGreatest b11 w.heap.size (fun t => decide ((Rat.divInt t u) ^ n ≤ f)) z 80 w5 (hG.below hb) hzn (by decide) r2 (fun t ht => by rw [decide_eq_true_iff]; exact HRi.out t ht)
    (fun t h1 h2 => twHas t u n b9 (w.heap.size + 1) b11 w.heap.size w5 (hG.below hb) (by have := (HBq.out t (by omega) h2).2; omega) (by omega) (by omega) (HBq.out t (by omega) h2).1 (by omega) x9 (by rw [← HYN.out]; exact x4) x11 x3 hl hl' HFf.out.symm rfl))
  ((with_reducible refine C4.out.mono ?_); rintro e w6 ⟨rfl, hb6⟩)
  have z6l := (Array.getElem?_eq_some_iff.1 z6).1
  have z7l := (Array.getElem?_eq_some_iff.1 z7).1
  replace x3 := x3.below hb6
  replace x4 := x4.below hb6
  replace x9 := x9.below hb6
  replace x11 := x11.below hb6
  replace z6 := (hb6.block _ z6l).trans z6
  replace z7 := (hb6.block _ z7l).trans z7
  replace hb := bto hb hb6
  have hs6 := hb6.size
  clear hb6 C4 z6l z7l HRi r2 r3
  have CPow : Hid (∀ w', Below w6.heap.size w6 w' → Calls Tryz.prog 109 #[.string ⟨(canon z).toArray⟩, .pointer (some ⟨b9, 0, none⟩), .pointer (some ⟨w.heap.size + 1, 0, none⟩)] w' fun e w2 => e = .returned (Value.agg #[Value.string ⟨List.toArray (fN ((Rat.divInt z u) ^ n))⟩, Value.string ⟨List.toArray (fD ((Rat.divInt z u) ^ n))⟩]) ∧ Below w'.heap.size w' w2) := fun w' hw =>
    twPow z u n b9 (w.heap.size + 1) w' ((hG.below hb).below hw) (by omega) (by omega) (by omega) (HBq.out z hzn (by omega)).1 (by omega) (x9.below hw) (by rw [← HYN.out]; exact x4.below hw)
  obtain ⟨Us, hUs⟩ : ∃ Us, Us = canon u := ⟨_, rfl⟩
  rw [← hUs] at x9 C5 C6 C8
  obtain ⟨Zs, hZs⟩ : ∃ Zs, Zs = canon z := ⟨_, rfl⟩
  rw [← hZs] at C5 CPow
  (try rw [← hZs])
  have hlU := hul
  rw [← hUs] at hlU
  obtain ⟨qn, hqn⟩ : ∃ qn, qn = (Rat.divInt z u) ^ n := ⟨_, rfl⟩
  rw [← hqn] at C7 HC7 HTop CPow
  obtain ⟨c7, hc7⟩ : ∃ c7, c7 = cmpQ qn (fv l l') := ⟨_, rfl⟩
  rw [← hc7] at C7 HC7
  obtain ⟨pu, hpu⟩ : ∃ pu, pu = Rat.divInt 1 u := ⟨_, rfl⟩
  rw [← hpu] at C8 C9
  have hb11' : b11 = w3.heap.size + 1 := by omega
  clear hpu hc7 hqn hUs hZs hul hzl HBq HFf HYN hu0 hua hbb hb11
  subst hb9 hb11'
  go_wp2_with fail
  refine wp_region_kept (by kernel_rfl) (by kernel_rfl) ?_
  refine kept_val _ (fun _ => rfl) (fun ρ wz hw => by go_simp; first | done | with_reducible rfl) ?_
  simp only [Act.put, List.setIfInBounds_toArray, List.set_cons_zero, List.set_cons_succ, Nat.reduceAdd]
  refine kept_val _ (fun _ => rfl) (fun ρ wz hw => by have q0 : wz.cell? ⟨w3.heap.size, 0, none⟩ = some (.string ⟨Us.toArray⟩) := (x9.below hw).c 0; go_simp; first | done | with_reducible rfl) ?_
  simp only [Act.put, List.setIfInBounds_toArray, List.set_cons_zero, List.set_cons_succ, Nat.reduceAdd]
  refine kept_call _ _ _ (fun _ => rfl) (fun ρ wz hw => by go_simp; first | done | with_reducible rfl) (fun wz hw => C5.out.of hG (bto hb hw)) ?_
  simp only [Act.put, List.setIfInBounds_toArray, List.set_cons_zero, List.set_cons_succ, Nat.reduceAdd]
  refine kept_val _ (fun _ => rfl) (fun ρ wz hw => by have q0 : wz.cell? ⟨w3.heap.size, 0, none⟩ = some (.string ⟨Us.toArray⟩) := (x9.below hw).c 0; go_simp; first | done | with_reducible rfl) ?_
  simp only [Act.put, List.setIfInBounds_toArray, List.set_cons_zero, List.set_cons_succ, Nat.reduceAdd]
  refine kept_call _ _ _ (fun _ => rfl) (fun ρ wz hw => by go_simp; first | done | with_reducible rfl) (fun wz hw => C6.out.of hG (bto hb hw)) ?_
  simp only [Act.put, List.setIfInBounds_toArray, List.set_cons_zero, List.set_cons_succ, Nat.reduceAdd]
  refine kept_box (fun b => .pointer (some ⟨b, 0, none⟩)) _ rfl (fun _ => rfl) (fun ρ wz hw => by go_simp; first | done | with_reducible rfl) ?_
  simp only [Act.put, List.setIfInBounds_toArray, List.set_cons_zero, List.set_cons_succ, Nat.reduceAdd]
  refine kept_put2 5 _ 13 _ _ _ _ _ rfl rfl rfl (by decide) (fun _ => rfl) (fun ρ wz hw q0 q1 q2 q3 => by go_simp; first | done | with_reducible rfl) ?_
  simp only [Act.put, Nat.reduceAdd]
  refine kept_end (fun ρ w7 hF => ?_)
  have x13 : Blk w7 (ρ 5) #[.string ⟨(fN fa).toArray⟩, .string ⟨(fD fa).toArray⟩] := ⟨_, (hF.box 5 _ _ rfl).2⟩
  have hg13 := (hF.box 5 _ _ rfl).1
  have hbF := hF.below
  (try dsimp only)
  generalize ρ 5 = b13 at *
  have z6l := (Array.getElem?_eq_some_iff.1 z6).1
  have z7l := (Array.getElem?_eq_some_iff.1 z7).1
  replace x3 := x3.below hbF
  replace x9 := x9.below hbF
  replace x11 := x11.below hbF
  replace z6 := (hbF.block _ z6l).trans z6
  replace z7 := (hbF.block _ z7l).trans z7
  replace hb := bto hb hbF
  have hx13 : ¬ (b13 = w.heap.size + 1 + 1 ∨ b13 = w.heap.size + 1 + 1 + 1) := by omega
  have CP : Hid (∀ w', Below w7.heap.size w7 w' → Calls Tryz.prog 109 #[.string ⟨Zs.toArray⟩, .pointer (some ⟨w3.heap.size, 0, none⟩), .pointer (some ⟨w.heap.size + 1, 0, none⟩)] w' fun e w2 => e = .returned (Value.agg #[Value.string ⟨List.toArray (fN qn)⟩, Value.string ⟨List.toArray (fD qn)⟩]) ∧ Below w'.heap.size w' w2) := fun w' hw => CPow.out w' (bto hbF hw)
  clear hF hbF hg13 z6l z7l CPow x4 C5 C6
  go_wp2_with fail
  refine wp_region_kept (by kernel_rfl) (by kernel_rfl) ?_
  refine kept_val _ (fun _ => rfl) (fun ρ wz hw => by have q0 : wz.cell? ⟨w3.heap.size + 1, 0, none⟩ = some (.func (Fn.func 109) #[] #[.pointer (some ⟨w3.heap.size, 0, none⟩), .pointer (some ⟨w.heap.size + 1, 0, none⟩)]) := (x11.below hw).c 0; go_simp; first | done | with_reducible rfl) ?_
  simp only [Act.put, List.setIfInBounds_toArray, List.set_cons_zero, List.set_cons_succ, Nat.reduceAdd]
  refine kept_val _ (fun _ => rfl) (fun ρ wz hw => by go_simp; first | done | with_reducible rfl) ?_
  simp only [Act.put, List.setIfInBounds_toArray, List.set_cons_zero, List.set_cons_succ, Nat.reduceAdd]
  refine kept_call _ _ _ (fun _ => rfl) (fun ρ wz hw => by go_simp; first | done | with_reducible rfl) (fun wz hw => CP.out wz hw) ?_
  simp only [Act.put, List.setIfInBounds_toArray, List.set_cons_zero, List.set_cons_succ, Nat.reduceAdd]
  refine kept_val _ (fun _ => rfl) (fun ρ wz hw => by have q0 : wz.cell? ⟨w.heap.size, 0, none⟩ = some (.string ⟨l.toArray⟩) := (x3.below hw).c 0; have q1 : wz.cell? ⟨w.heap.size, 1, none⟩ = some (.string ⟨l'.toArray⟩) := (x3.below hw).c 1; go_simp; first | done | with_reducible rfl) ?_
  simp only [Act.put, List.setIfInBounds_toArray, List.set_cons_zero, List.set_cons_succ, Nat.reduceAdd]
  refine kept_call _ _ _ (fun _ => rfl) (fun ρ wz hw => by go_simp; first | done | with_reducible rfl) (fun wz hw => C7.out.of hG (bto hb hw)) ?_
  simp only [Act.put, List.setIfInBounds_toArray, List.set_cons_zero, List.set_cons_succ, Nat.reduceAdd]
  refine kept_val _ (fun _ => rfl) (fun ρ wz hw => by go_simp; first | done | with_reducible rfl) ?_
  simp only [Act.put, List.setIfInBounds_toArray, List.set_cons_zero, List.set_cons_succ, Nat.reduceAdd]
  refine kept_end (fun ρ w8 hF => ?_)
  have hbF := hF.below
  (try dsimp only)
  have z6l := (Array.getElem?_eq_some_iff.1 z6).1
  have z7l := (Array.getElem?_eq_some_iff.1 z7).1
  replace x9 := x9.below hbF
  replace x13 := x13.below hbF
  replace z6 := (hbF.block _ z6l).trans z6
  replace z7 := (hbF.block _ z7l).trans z7
  replace hb := bto hb hbF
  have hX : ∀ k, (k = w.heap.size + 1 + 1 ∨ k = w.heap.size + 1 + 1 + 1) → w.heap.size ≤ k := by rintro k (rfl | rfl) <;> omega
  clear hF hbF z6l z7l x3 x11 CP C7 hs4 hs5 hs6 hsz3 hsW
  by_cases g0 : c7 = 0
  · have e6 : (c7 == 0) = true := intbeq g0
    have HV : Hid (annV l l' y p z = .tuple #[(Value.agg #[Value.string ⟨List.toArray (fN fa)⟩, Value.string ⟨List.toArray (fD fa)⟩]), (Value.agg #[Value.string ⟨List.toArray (fN fa)⟩, Value.string ⟨List.toArray (fD fa)⟩]), .int .i64 0]) := by show _ = _; rw [HV0.out, HTop.out, if_pos (HC7.out.1 g0), ← HFA.out]
    clear g0 HV0 HTop HC7 HFA HFB C8 C9
    go_wp2_with fail
    refine wp_region_kept_two 30 (w.heap.size + 1 + 1) (w.heap.size + 1 + 1 + 1) 6 7 _ _ (by kernel_rfl) (by kernel_rfl) (by decide) (by omega) z6 z7 rfl ?_
    simp only [Act.put, List.setIfInBounds_toArray, List.set_cons_zero, List.set_cons_succ]
    refine kept_val _ (fun _ => rfl) (fun ρ wz hw => by have q0 : wz.cell? ⟨b13, 0, none⟩ = some (.string ⟨(fN fa).toArray⟩) := (x13.keepX hw hx13).c 0; have q1 : wz.cell? ⟨b13, 1, none⟩ = some (.string ⟨(fD fa).toArray⟩) := (x13.keepX hw hx13).c 1; go_simp; first | done | with_reducible rfl) ?_
    simp only [Act.put, List.setIfInBounds_toArray, List.set_cons_zero, List.set_cons_succ, Nat.reduceAdd]
    refine kept_val _ (fun _ => rfl) (fun ρ wz hw => by have q0 : wz.cell? ⟨b13, 0, none⟩ = some (.string ⟨(fN fa).toArray⟩) := (x13.keepX hw hx13).c 0; have q1 : wz.cell? ⟨b13, 1, none⟩ = some (.string ⟨(fD fa).toArray⟩) := (x13.keepX hw hx13).c 1; go_simp; first | done | with_reducible rfl) ?_
    simp only [Act.put, List.setIfInBounds_toArray, List.set_cons_zero, List.set_cons_succ, Nat.reduceAdd]
    refine kept_putK 30 _ _ _ _ _ rfl rfl (fun _ => rfl) (fun ρ wz hw q0 q1 q2 q3 => by go_simp; first | done | with_reducible rfl) ?_
    simp only [Act.put, Nat.reduceAdd]
    refine kept_putK 31 _ _ _ _ _ rfl rfl (fun _ => rfl) (fun ρ wz hw q0 q1 q2 q3 => by go_simp; first | done | with_reducible rfl) ?_
    simp only [Act.put, Nat.reduceAdd]
    refine kept_val _ (fun _ => rfl) (fun ρ wz hw => by go_simp; first | done | with_reducible rfl) ?_
    simp only [Act.put, List.setIfInBounds_toArray, List.set_cons_zero, List.set_cons_succ, Nat.reduceAdd]
    refine kept_endX (fun ρ w8 hF => ?_)
    have hb8 := hF.below.lower hb hX
    have t6 := FBox.ofB (hF.box 30 _ _ rfl).2
    have t7 := FBox.ofB (hF.box 31 _ _ rfl).2
    (try dsimp only)
    generalize ρ 30 = c6 at *
    generalize ρ 31 = c7 at *
    clear hF
    have d0 := t6.c0
    have d1 := t6.c1
    have d2 := t7.c0
    have d3 := t7.c1
    go_wp2
    refine bodyPost_ret (v := .tuple #[(Value.agg #[Value.string ⟨List.toArray (fN fa)⟩, Value.string ⟨List.toArray (fD fa)⟩]), (Value.agg #[Value.string ⟨List.toArray (fN fa)⟩, Value.string ⟨List.toArray (fD fa)⟩]), .int .i64 0]) (by simp [results, Tryz.results45, go_sem, d0, d1, d2, d3]) rfl ?_
    exact ⟨by rw [HV.out], hb8⟩
  · have e6 : (c7 == 0) = false := intbne g0
    have HV : Hid (annV l l' y p z = .tuple #[(Value.agg #[Value.string ⟨List.toArray (fN fa)⟩, Value.string ⟨List.toArray (fD fa)⟩]), (Value.agg #[Value.string ⟨List.toArray (fN fb)⟩, Value.string ⟨List.toArray (fD fb)⟩]), .int .i64 0]) := by show _ = _; rw [HV0.out, HTop.out, if_neg (fun h => g0 (HC7.out.2 h)), ← HFB.out]
    clear g0 HV0 HTop HC7 HFA HFB
    go_wp2_with fail
    refine wp_region_kept_two 30 (w.heap.size + 1 + 1) (w.heap.size + 1 + 1 + 1) 6 7 _ _ (by kernel_rfl) (by kernel_rfl) (by decide) (by omega) z6 z7 rfl ?_
    simp only [Act.put, List.setIfInBounds_toArray, List.set_cons_zero, List.set_cons_succ]
    refine kept_val _ (fun _ => rfl) (fun ρ wz hw => by have q0 : wz.cell? ⟨b13, 0, none⟩ = some (.string ⟨(fN fa).toArray⟩) := (x13.keepX hw hx13).c 0; have q1 : wz.cell? ⟨b13, 1, none⟩ = some (.string ⟨(fD fa).toArray⟩) := (x13.keepX hw hx13).c 1; go_simp; first | done | with_reducible rfl) ?_
    simp only [Act.put, List.setIfInBounds_toArray, List.set_cons_zero, List.set_cons_succ, Nat.reduceAdd]
    refine kept_val _ (fun _ => rfl) (fun ρ wz hw => by have q0 : wz.cell? ⟨b13, 0, none⟩ = some (.string ⟨(fN fa).toArray⟩) := (x13.keepX hw hx13).c 0; have q1 : wz.cell? ⟨b13, 1, none⟩ = some (.string ⟨(fD fa).toArray⟩) := (x13.keepX hw hx13).c 1; go_simp; first | done | with_reducible rfl) ?_
    simp only [Act.put, List.setIfInBounds_toArray, List.set_cons_zero, List.set_cons_succ, Nat.reduceAdd]
    refine kept_val _ (fun _ => rfl) (fun ρ wz hw => by have q0 : wz.cell? ⟨w3.heap.size, 0, none⟩ = some (.string ⟨Us.toArray⟩) := (x9.keepX hw hx9).c 0; go_simp; first | done | with_reducible rfl) ?_
    simp only [Act.put, List.setIfInBounds_toArray, List.set_cons_zero, List.set_cons_succ, Nat.reduceAdd]
    refine kept_call _ _ _ (fun _ => rfl) (fun ρ wz hw => by go_simp; first | done | with_reducible rfl) (fun wz hw => C8.out.of hG (hw.lower hb hX)) ?_
    simp only [Act.put, List.setIfInBounds_toArray, List.set_cons_zero, List.set_cons_succ, Nat.reduceAdd]
    refine kept_call _ _ _ (fun _ => rfl) (fun ρ wz hw => by go_simp; first | done | with_reducible rfl) (fun wz hw => C9.out.of hG (hw.lower hb hX)) ?_
    simp only [Act.put, List.setIfInBounds_toArray, List.set_cons_zero, List.set_cons_succ, Nat.reduceAdd]
    refine kept_putK 30 _ _ _ _ _ rfl rfl (fun _ => rfl) (fun ρ wz hw q0 q1 q2 q3 => by go_simp; first | done | with_reducible rfl) ?_
    simp only [Act.put, Nat.reduceAdd]
    refine kept_putK 31 _ _ _ _ _ rfl rfl (fun _ => rfl) (fun ρ wz hw q0 q1 q2 q3 => by go_simp; first | done | with_reducible rfl) ?_
    simp only [Act.put, Nat.reduceAdd]
    refine kept_val _ (fun _ => rfl) (fun ρ wz hw => by go_simp; first | done | with_reducible rfl) ?_
    simp only [Act.put, List.setIfInBounds_toArray, List.set_cons_zero, List.set_cons_succ, Nat.reduceAdd]
    refine kept_endX (fun ρ w8 hF => ?_)
    have hb8 := hF.below.lower hb hX
    have t6 := FBox.ofB (hF.box 30 _ _ rfl).2
    have t7 := FBox.ofB (hF.box 31 _ _ rfl).2
    (try dsimp only)
    generalize ρ 30 = c6 at *
    generalize ρ 31 = c7 at *
    clear hF
    have d0 := t6.c0
    have d1 := t6.c1
    have d2 := t7.c0
    have d3 := t7.c1
    go_wp2
    refine bodyPost_ret (v := .tuple #[(Value.agg #[Value.string ⟨List.toArray (fN fa)⟩, Value.string ⟨List.toArray (fD fa)⟩]), (Value.agg #[Value.string ⟨List.toArray (fN fb)⟩, Value.string ⟨List.toArray (fD fb)⟩]), .int .i64 0]) (by simp [results, Tryz.results45, go_sem, d0, d1, d2, d3]) rfl ?_
    exact ⟨by rw [HV.out], hb8⟩
end Go.Proofs.YtmjglcgdcclinaaGreatDoor
