/- Texts put together: Th Ti Tj Tq Tv Tl Tm Tw Tn To Tx Ty. -/
import Derived.Test.YtgnppdkeiihlfaaGreatDoorT10
import Derived.Lib.SlBuf
import Derived.Lib.SliceRun
import Derived.Laws.IdiomCopy
import Derived.Shelf.Spec.SlicesInsertGrow
import Derived.Deep.RegionLaw
namespace Go.Proofs.YtgnppdkeiihlfaaGreatDoor
open Go.RowKit Num
def annBad (f : Rat) (y p : Int) : Prop := f ≤ 0 ∨ y < 1 ∨ 100 < y ∨ p < 0 ∨ 12 < p
instance (f : Rat) (y p : Int) : Decidable (annBad f y p) := by unfold annBad; infer_instance
/-- what Annual returns -/
def annV (l l' : List UInt8) (y p z : Int) : Value := if ¬ (l = fN (fv l l') ∧ l' = fD (fv l l')) then .tuple #[.agg #[.string ⟨#[]⟩, .string ⟨#[]⟩], .agg #[.string ⟨#[]⟩, .string ⟨#[]⟩], .int .i64 1] else if annBad (fv l l') y p then .tuple #[.agg #[.string ⟨#[]⟩, .string ⟨#[]⟩], .agg #[.string ⟨#[]⟩, .string ⟨#[]⟩], .int .i64 2]
  else .tuple #[(Value.agg #[Value.string ⟨List.toArray (fN (Rat.divInt (z - ((10 ^ p.toNat : Nat) : Int)) ((10 ^ p.toNat : Nat) : Int)))⟩, Value.string ⟨List.toArray (fD (Rat.divInt (z - ((10 ^ p.toNat : Nat) : Int)) ((10 ^ p.toNat : Nat) : Int)))⟩]), (Value.agg #[Value.string ⟨List.toArray (fN (Rat.divInt (topA (fv l l') y.toNat ((10 ^ p.toNat : Nat) : Int) z - ((10 ^ p.toNat : Nat) : Int)) ((10 ^ p.toNat : Nat) : Int)))⟩, Value.string ⟨List.toArray (fD (Rat.divInt (topA (fv l l') y.toNat ((10 ^ p.toNat : Nat) : Int) z - ((10 ^ p.toNat : Nat) : Int)) ((10 ^ p.toNat : Nat) : Int)))⟩]), .int .i64 0]
theorem root_abs {f : Rat} {n : Nat} {p z : Int} (hf : Bd 60 f) (hp : p ≤ 12) (h : RootA f n ((10 ^ p.toNat : Nat) : Int) z) : z.natAbs < 10 ^ 75 ∧ (2 * z + 2).natAbs < 10 ^ 80 ∧ ∀ y : Int, 0 ≤ y → y ≤ 2 * z + 2 → y.natAbs < 10 ^ 80 := by
  have h1 : f.num.natAbs < 10 ^ 60 := hf.1
  have h2 := u_abs hp
  have h3 := h.nn
  have h4 := h.le
  have h5 : (f.num + 1) * ((10 ^ p.toNat : Nat) : Int) ≤ ((10 ^ 60 * 10 ^ 13 : Nat) : Int) := by
    rw [Int.natCast_mul]
    have hu := u_pos p
    generalize ((10 ^ p.toNat : Nat) : Int) = u at *
    have a1 : (f.num + 1) ≤ ((10 ^ 60 : Nat) : Int) := by omega
    have a2 : u ≤ ((10 ^ 13 : Nat) : Int) := by omega
    exact Int.le_trans (Int.mul_le_mul_of_nonneg_right a1 (by omega)) (Int.mul_le_mul_of_nonneg_left a2 (by omega))
  have h6 : (10 : Nat) ^ 60 * 10 ^ 13 < 10 ^ 75 := by decide
  have h7 : (10 : Nat) ^ 75 * 10 ≤ 10 ^ 80 := by decide
  refine ⟨by omega, by omega, fun y _ _ => by omega⟩
set_option maxHeartbeats 4000000 in
set_option maxRecDepth 100000 in
theorem twAnnual_bad (l l' : List UInt8) (y p z : Int) (w : World) (hG : Glob w) (hl : l.length ≤ 60) (hl' : l'.length ≤ 60) (hbad : ¬ (l = fN (fv l l') ∧ l' = fD (fv l l')) ∨ annBad (fv l l') y p) :
    Calls Tryz.prog 116 #[(Value.agg #[Value.string ⟨List.toArray l⟩, Value.string ⟨List.toArray l'⟩]), .int .i64 y, .int .i64 p] w fun e w' => e = .returned (annV l l' y p z) ∧ Below w.heap.size w w' := by
  obtain ⟨W, hW⟩ : ∃ W, W = ((((w.alloc (.cells #[.string ⟨l.toArray⟩, .string ⟨l'.toArray⟩] 25)).alloc (.cells #[.int .i64 y] 3)).alloc (.cells #[.string ⟨#[]⟩, .string ⟨#[]⟩] 25)).alloc (.cells #[.string ⟨#[]⟩, .string ⟨#[]⟩] 25)) := ⟨_, rfl⟩
  have x3 : Blk W w.heap.size #[.string ⟨l.toArray⟩, .string ⟨l'.toArray⟩] := by rw [hW]; exact (((Blk.new w _ 25).below (below_alloc _ _)).below (below_alloc _ _)).below (below_alloc _ _)
  have x4 : Blk W (w.heap.size + 1) #[.int .i64 y] := by rw [hW]; have h1 := ((Blk.new (w.alloc (.cells #[.string ⟨l.toArray⟩, .string ⟨l'.toArray⟩] 25)) #[.int .i64 y] 3).below (below_alloc _ (.cells #[.string ⟨#[]⟩, .string ⟨#[]⟩] 25))).below (below_alloc _ (.cells #[.string ⟨#[]⟩, .string ⟨#[]⟩] 25)); simp only [World.size_alloc] at h1; exact h1
  have z6 : W.heap[w.heap.size + 1 + 1]? = some (.cells #[.string ⟨#[]⟩, .string ⟨#[]⟩] 25) := by
    rw [hW]
    have h2 := World.alloc_heap_new ((w.alloc (.cells #[.string ⟨l.toArray⟩, .string ⟨l'.toArray⟩] 25)).alloc (.cells #[.int .i64 y] 3)) (.cells #[.string ⟨#[]⟩, .string ⟨#[]⟩] 25)
    have h1 := (below_alloc (((w.alloc (.cells #[.string ⟨l.toArray⟩, .string ⟨l'.toArray⟩] 25)).alloc (.cells #[.int .i64 y] 3)).alloc (.cells #[.string ⟨#[]⟩, .string ⟨#[]⟩] 25)) (.cells #[.string ⟨#[]⟩, .string ⟨#[]⟩] 25)).block (w.heap.size + 1 + 1) (by simp only [World.size_alloc]; omega)
    simp only [World.size_alloc] at h2
    exact h1.trans h2
  have z7 : W.heap[w.heap.size + 1 + 1 + 1]? = some (.cells #[.string ⟨#[]⟩, .string ⟨#[]⟩] 25) := by
    rw [hW]
    have h2 := World.alloc_heap_new (((w.alloc (.cells #[.string ⟨l.toArray⟩, .string ⟨l'.toArray⟩] 25)).alloc (.cells #[.int .i64 y] 3)).alloc (.cells #[.string ⟨#[]⟩, .string ⟨#[]⟩] 25)) (.cells #[.string ⟨#[]⟩, .string ⟨#[]⟩] 25)
    simp only [World.size_alloc] at h2
    exact h2
  have hb : Below w.heap.size w W := by rw [hW]; exact bto (below_alloc _ _) (bto (below_alloc _ _) (bto (below_alloc _ _) (below_alloc _ _)))
  have hsW : W.heap.size = w.heap.size + 4 := by rw [hW]; simp only [World.size_alloc]
  have HW := Lib.hid hW
  clear hW
  by_cases g : l = fN (fv l l') ∧ l' = fD (fv l l')
  rotate_left
  · have HV : Hid (annV l l' y p z = .tuple #[.agg #[.string ⟨#[]⟩, .string ⟨#[]⟩], .agg #[.string ⟨#[]⟩, .string ⟨#[]⟩], .int .i64 1]) := if_pos g
    have C1 := Lib.hid (rCheck (isq_raw (k := 60) hl hl' (by decide)) (if_neg g))
    clear g hbad
    go_enter Tryz.func116, Tryz.ntmps116
    go_wp2_with fail
    rw [← HW.out]
    have q30 := x3.c 0
    have q31 := x3.c 1
    go_wp2_with fail
    ((with_reducible refine (C1.out.of hG hb).mono ?_); rintro e w1 ⟨rfl, hb1⟩)
    replace x3 := x3.below hb1
    replace x4 := x4.below hb1
    replace z6 := (hb1.block _ (Array.getElem?_eq_some_iff.1 z6).1).trans z6
    replace z7 := (hb1.block _ (Array.getElem?_eq_some_iff.1 z7).1).trans z7
    replace hb := bto hb hb1
    clear hb1 C1
    clear q30 q31
    have y6 := FBox.ofB z6
    have y7 := FBox.ofB z7
    have g0 := y6.c0
    have g1 := y6.c1
    have g2 := y6.f0
    have g3 := y6.f1
    have k0 := y7.c0
    have k1 := y7.c1
    have k2 := y7.f0
    have k3 := y7.f1
    have hn67 : w.heap.size + 1 + 1 ≠ w.heap.size + 1 + 1 + 1 := by omega
    go_wp2
    have hy6 := (y6.set (.string ⟨#[]⟩) (.string ⟨#[]⟩)).setNe hn67 (.string ⟨#[]⟩) (.string ⟨#[]⟩)
    have hy7 := (y7.setNe (Ne.symm hn67) (.string ⟨#[]⟩) (.string ⟨#[]⟩)).set (.string ⟨#[]⟩) (.string ⟨#[]⟩)
    have d0 := hy6.c0
    have d1 := hy6.c1
    have d2 := hy7.c0
    have d3 := hy7.c1
    refine bodyPost_ret (v := .tuple #[.agg #[.string ⟨#[]⟩, .string ⟨#[]⟩], .agg #[.string ⟨#[]⟩, .string ⟨#[]⟩], .int .i64 1]) (by simp [results, Tryz.results116, go_sem, d0, d1, d2, d3]) rfl ?_
    exact ⟨by rw [HV.out], below_set2 (b := w.heap.size + 1 + 1 + 1) (below_set2 (b := w.heap.size + 1 + 1) hb (by omega) _ _) (by omega) _ _⟩
  have gb : annBad (fv l l') y p := by rcases hbad with h | h; exact absurd g h; exact h
  have HV : Hid (annV l l' y p z = .tuple #[.agg #[.string ⟨#[]⟩, .string ⟨#[]⟩], .agg #[.string ⟨#[]⟩, .string ⟨#[]⟩], .int .i64 2]) := by show _ = _; unfold annV; rw [if_neg (fun h => h g), if_pos gb]
  have C1 := Lib.hid (rCheck (isq_raw (k := 60) hl hl' (by decide)) (if_pos g))
  have hcq : cmpQ (fv l l') 0 ≤ 0 ↔ fv l l' ≤ 0 := cmpQ_le0
  have C2 := Lib.hid (rCompare (isq_raw (l := l) (l' := l') (k := 60) hl hl' (by decide)) isq_zero rfl)
  unfold annBad at gb
  rw [← hcq] at gb
  generalize cmpQ (fv l l') 0 = cc at *
  clear g hbad hcq
  by_cases a1 : cc ≤ 0
  · have e1 : decide (cc ≤ 0) = true := decide_eq_true (by omega)
    clear gb
    go_enter Tryz.func116, Tryz.ntmps116
    go_wp2_with fail
    rw [← HW.out]
    have q30 := x3.c 0
    have q31 := x3.c 1
    go_wp2_with fail
    ((with_reducible refine (C1.out.of hG hb).mono ?_); rintro e w1 ⟨rfl, hb1⟩)
    replace x3 := x3.below hb1
    replace x4 := x4.below hb1
    replace z6 := (hb1.block _ (Array.getElem?_eq_some_iff.1 z6).1).trans z6
    replace z7 := (hb1.block _ (Array.getElem?_eq_some_iff.1 z7).1).trans z7
    replace hb := bto hb hb1
    clear hb1 C1
    replace q30 := x3.c 0
    replace q31 := x3.c 1
    have q40 := x4.c 0
    go_wp2_with fail
    ((with_reducible refine (C2.out.of hG hb).mono ?_); rintro e w2 ⟨rfl, hb2⟩)
    replace x3 := x3.below hb2
    replace x4 := x4.below hb2
    replace z6 := (hb2.block _ (Array.getElem?_eq_some_iff.1 z6).1).trans z6
    replace z7 := (hb2.block _ (Array.getElem?_eq_some_iff.1 z7).1).trans z7
    replace hb := bto hb hb2
    clear hb2 C2
    clear q30 q31
    replace q40 := x4.c 0
    have y6 := FBox.ofB z6
    have y7 := FBox.ofB z7
    have g0 := y6.c0
    have g1 := y6.c1
    have g2 := y6.f0
    have g3 := y6.f1
    have k0 := y7.c0
    have k1 := y7.c1
    have k2 := y7.f0
    have k3 := y7.f1
    have hn67 : w.heap.size + 1 + 1 ≠ w.heap.size + 1 + 1 + 1 := by omega
    go_wp2
    have hy6 := (y6.set (.string ⟨#[]⟩) (.string ⟨#[]⟩)).setNe hn67 (.string ⟨#[]⟩) (.string ⟨#[]⟩)
    have hy7 := (y7.setNe (Ne.symm hn67) (.string ⟨#[]⟩) (.string ⟨#[]⟩)).set (.string ⟨#[]⟩) (.string ⟨#[]⟩)
    have d0 := hy6.c0
    have d1 := hy6.c1
    have d2 := hy7.c0
    have d3 := hy7.c1
    refine bodyPost_ret (v := .tuple #[.agg #[.string ⟨#[]⟩, .string ⟨#[]⟩], .agg #[.string ⟨#[]⟩, .string ⟨#[]⟩], .int .i64 2]) (by simp [results, Tryz.results116, go_sem, d0, d1, d2, d3]) rfl ?_
    exact ⟨by rw [HV.out], below_set2 (b := w.heap.size + 1 + 1 + 1) (below_set2 (b := w.heap.size + 1 + 1) hb (by omega) _ _) (by omega) _ _⟩
  by_cases a2 : y < 1
  · have e1 : decide (cc ≤ 0) = false := decide_eq_false (by omega)
    have e2 : decide (y < 1) = true := decide_eq_true (by omega)
    clear gb
    go_enter Tryz.func116, Tryz.ntmps116
    go_wp2_with fail
    rw [← HW.out]
    have q30 := x3.c 0
    have q31 := x3.c 1
    go_wp2_with fail
    ((with_reducible refine (C1.out.of hG hb).mono ?_); rintro e w1 ⟨rfl, hb1⟩)
    replace x3 := x3.below hb1
    replace x4 := x4.below hb1
    replace z6 := (hb1.block _ (Array.getElem?_eq_some_iff.1 z6).1).trans z6
    replace z7 := (hb1.block _ (Array.getElem?_eq_some_iff.1 z7).1).trans z7
    replace hb := bto hb hb1
    clear hb1 C1
    replace q30 := x3.c 0
    replace q31 := x3.c 1
    have q40 := x4.c 0
    go_wp2_with fail
    ((with_reducible refine (C2.out.of hG hb).mono ?_); rintro e w2 ⟨rfl, hb2⟩)
    replace x3 := x3.below hb2
    replace x4 := x4.below hb2
    replace z6 := (hb2.block _ (Array.getElem?_eq_some_iff.1 z6).1).trans z6
    replace z7 := (hb2.block _ (Array.getElem?_eq_some_iff.1 z7).1).trans z7
    replace hb := bto hb hb2
    clear hb2 C2
    clear q30 q31
    replace q40 := x4.c 0
    have y6 := FBox.ofB z6
    have y7 := FBox.ofB z7
    have g0 := y6.c0
    have g1 := y6.c1
    have g2 := y6.f0
    have g3 := y6.f1
    have k0 := y7.c0
    have k1 := y7.c1
    have k2 := y7.f0
    have k3 := y7.f1
    have hn67 : w.heap.size + 1 + 1 ≠ w.heap.size + 1 + 1 + 1 := by omega
    go_wp2
    have hy6 := (y6.set (.string ⟨#[]⟩) (.string ⟨#[]⟩)).setNe hn67 (.string ⟨#[]⟩) (.string ⟨#[]⟩)
    have hy7 := (y7.setNe (Ne.symm hn67) (.string ⟨#[]⟩) (.string ⟨#[]⟩)).set (.string ⟨#[]⟩) (.string ⟨#[]⟩)
    have d0 := hy6.c0
    have d1 := hy6.c1
    have d2 := hy7.c0
    have d3 := hy7.c1
    refine bodyPost_ret (v := .tuple #[.agg #[.string ⟨#[]⟩, .string ⟨#[]⟩], .agg #[.string ⟨#[]⟩, .string ⟨#[]⟩], .int .i64 2]) (by simp [results, Tryz.results116, go_sem, d0, d1, d2, d3]) rfl ?_
    exact ⟨by rw [HV.out], below_set2 (b := w.heap.size + 1 + 1 + 1) (below_set2 (b := w.heap.size + 1 + 1) hb (by omega) _ _) (by omega) _ _⟩
  by_cases a3 : 100 < y
  · have e1 : decide (cc ≤ 0) = false := decide_eq_false (by omega)
    have e2 : decide (y < 1) = false := decide_eq_false (by omega)
    have e3 : decide (100 < y) = true := decide_eq_true (by omega)
    clear gb
    go_enter Tryz.func116, Tryz.ntmps116
    go_wp2_with fail
    rw [← HW.out]
    have q30 := x3.c 0
    have q31 := x3.c 1
    go_wp2_with fail
    ((with_reducible refine (C1.out.of hG hb).mono ?_); rintro e w1 ⟨rfl, hb1⟩)
    replace x3 := x3.below hb1
    replace x4 := x4.below hb1
    replace z6 := (hb1.block _ (Array.getElem?_eq_some_iff.1 z6).1).trans z6
    replace z7 := (hb1.block _ (Array.getElem?_eq_some_iff.1 z7).1).trans z7
    replace hb := bto hb hb1
    clear hb1 C1
    replace q30 := x3.c 0
    replace q31 := x3.c 1
    have q40 := x4.c 0
    go_wp2_with fail
    ((with_reducible refine (C2.out.of hG hb).mono ?_); rintro e w2 ⟨rfl, hb2⟩)
    replace x3 := x3.below hb2
    replace x4 := x4.below hb2
    replace z6 := (hb2.block _ (Array.getElem?_eq_some_iff.1 z6).1).trans z6
    replace z7 := (hb2.block _ (Array.getElem?_eq_some_iff.1 z7).1).trans z7
    replace hb := bto hb hb2
    clear hb2 C2
    clear q30 q31
    replace q40 := x4.c 0
    have y6 := FBox.ofB z6
    have y7 := FBox.ofB z7
    have g0 := y6.c0
    have g1 := y6.c1
    have g2 := y6.f0
    have g3 := y6.f1
    have k0 := y7.c0
    have k1 := y7.c1
    have k2 := y7.f0
    have k3 := y7.f1
    have hn67 : w.heap.size + 1 + 1 ≠ w.heap.size + 1 + 1 + 1 := by omega
    go_wp2
    have hy6 := (y6.set (.string ⟨#[]⟩) (.string ⟨#[]⟩)).setNe hn67 (.string ⟨#[]⟩) (.string ⟨#[]⟩)
    have hy7 := (y7.setNe (Ne.symm hn67) (.string ⟨#[]⟩) (.string ⟨#[]⟩)).set (.string ⟨#[]⟩) (.string ⟨#[]⟩)
    have d0 := hy6.c0
    have d1 := hy6.c1
    have d2 := hy7.c0
    have d3 := hy7.c1
    refine bodyPost_ret (v := .tuple #[.agg #[.string ⟨#[]⟩, .string ⟨#[]⟩], .agg #[.string ⟨#[]⟩, .string ⟨#[]⟩], .int .i64 2]) (by simp [results, Tryz.results116, go_sem, d0, d1, d2, d3]) rfl ?_
    exact ⟨by rw [HV.out], below_set2 (b := w.heap.size + 1 + 1 + 1) (below_set2 (b := w.heap.size + 1 + 1) hb (by omega) _ _) (by omega) _ _⟩
  by_cases a4 : p < 0
  · have e1 : decide (cc ≤ 0) = false := decide_eq_false (by omega)
    have e2 : decide (y < 1) = false := decide_eq_false (by omega)
    have e3 : decide (100 < y) = false := decide_eq_false (by omega)
    have e4 : decide (p < 0) = true := decide_eq_true (by omega)
    clear gb
    go_enter Tryz.func116, Tryz.ntmps116
    go_wp2_with fail
    rw [← HW.out]
    have q30 := x3.c 0
    have q31 := x3.c 1
    go_wp2_with fail
    ((with_reducible refine (C1.out.of hG hb).mono ?_); rintro e w1 ⟨rfl, hb1⟩)
    replace x3 := x3.below hb1
    replace x4 := x4.below hb1
    replace z6 := (hb1.block _ (Array.getElem?_eq_some_iff.1 z6).1).trans z6
    replace z7 := (hb1.block _ (Array.getElem?_eq_some_iff.1 z7).1).trans z7
    replace hb := bto hb hb1
    clear hb1 C1
    replace q30 := x3.c 0
    replace q31 := x3.c 1
    have q40 := x4.c 0
    go_wp2_with fail
    ((with_reducible refine (C2.out.of hG hb).mono ?_); rintro e w2 ⟨rfl, hb2⟩)
    replace x3 := x3.below hb2
    replace x4 := x4.below hb2
    replace z6 := (hb2.block _ (Array.getElem?_eq_some_iff.1 z6).1).trans z6
    replace z7 := (hb2.block _ (Array.getElem?_eq_some_iff.1 z7).1).trans z7
    replace hb := bto hb hb2
    clear hb2 C2
    clear q30 q31
    replace q40 := x4.c 0
    have y6 := FBox.ofB z6
    have y7 := FBox.ofB z7
    have g0 := y6.c0
    have g1 := y6.c1
    have g2 := y6.f0
    have g3 := y6.f1
    have k0 := y7.c0
    have k1 := y7.c1
    have k2 := y7.f0
    have k3 := y7.f1
    have hn67 : w.heap.size + 1 + 1 ≠ w.heap.size + 1 + 1 + 1 := by omega
    go_wp2
    have hy6 := (y6.set (.string ⟨#[]⟩) (.string ⟨#[]⟩)).setNe hn67 (.string ⟨#[]⟩) (.string ⟨#[]⟩)
    have hy7 := (y7.setNe (Ne.symm hn67) (.string ⟨#[]⟩) (.string ⟨#[]⟩)).set (.string ⟨#[]⟩) (.string ⟨#[]⟩)
    have d0 := hy6.c0
    have d1 := hy6.c1
    have d2 := hy7.c0
    have d3 := hy7.c1
    refine bodyPost_ret (v := .tuple #[.agg #[.string ⟨#[]⟩, .string ⟨#[]⟩], .agg #[.string ⟨#[]⟩, .string ⟨#[]⟩], .int .i64 2]) (by simp [results, Tryz.results116, go_sem, d0, d1, d2, d3]) rfl ?_
    exact ⟨by rw [HV.out], below_set2 (b := w.heap.size + 1 + 1 + 1) (below_set2 (b := w.heap.size + 1 + 1) hb (by omega) _ _) (by omega) _ _⟩
  · have a5 : 12 < p := by omega
    have e1 : decide (cc ≤ 0) = false := decide_eq_false (by omega)
    have e2 : decide (y < 1) = false := decide_eq_false (by omega)
    have e3 : decide (100 < y) = false := decide_eq_false (by omega)
    have e4 : decide (p < 0) = false := decide_eq_false (by omega)
    have e5 : decide (12 < p) = true := decide_eq_true (by omega)
    clear gb
    go_enter Tryz.func116, Tryz.ntmps116
    go_wp2_with fail
    rw [← HW.out]
    have q30 := x3.c 0
    have q31 := x3.c 1
    go_wp2_with fail
    ((with_reducible refine (C1.out.of hG hb).mono ?_); rintro e w1 ⟨rfl, hb1⟩)
    replace x3 := x3.below hb1
    replace x4 := x4.below hb1
    replace z6 := (hb1.block _ (Array.getElem?_eq_some_iff.1 z6).1).trans z6
    replace z7 := (hb1.block _ (Array.getElem?_eq_some_iff.1 z7).1).trans z7
    replace hb := bto hb hb1
    clear hb1 C1
    replace q30 := x3.c 0
    replace q31 := x3.c 1
    have q40 := x4.c 0
    go_wp2_with fail
    ((with_reducible refine (C2.out.of hG hb).mono ?_); rintro e w2 ⟨rfl, hb2⟩)
    replace x3 := x3.below hb2
    replace x4 := x4.below hb2
    replace z6 := (hb2.block _ (Array.getElem?_eq_some_iff.1 z6).1).trans z6
    replace z7 := (hb2.block _ (Array.getElem?_eq_some_iff.1 z7).1).trans z7
    replace hb := bto hb hb2
    clear hb2 C2
    clear q30 q31
    replace q40 := x4.c 0
    have y6 := FBox.ofB z6
    have y7 := FBox.ofB z7
    have g0 := y6.c0
    have g1 := y6.c1
    have g2 := y6.f0
    have g3 := y6.f1
    have k0 := y7.c0
    have k1 := y7.c1
    have k2 := y7.f0
    have k3 := y7.f1
    have hn67 : w.heap.size + 1 + 1 ≠ w.heap.size + 1 + 1 + 1 := by omega
    go_wp2
    have hy6 := (y6.set (.string ⟨#[]⟩) (.string ⟨#[]⟩)).setNe hn67 (.string ⟨#[]⟩) (.string ⟨#[]⟩)
    have hy7 := (y7.setNe (Ne.symm hn67) (.string ⟨#[]⟩) (.string ⟨#[]⟩)).set (.string ⟨#[]⟩) (.string ⟨#[]⟩)
    have d0 := hy6.c0
    have d1 := hy6.c1
    have d2 := hy7.c0
    have d3 := hy7.c1
    refine bodyPost_ret (v := .tuple #[.agg #[.string ⟨#[]⟩, .string ⟨#[]⟩], .agg #[.string ⟨#[]⟩, .string ⟨#[]⟩], .int .i64 2]) (by simp [results, Tryz.results116, go_sem, d0, d1, d2, d3]) rfl ?_
    exact ⟨by rw [HV.out], below_set2 (b := w.heap.size + 1 + 1 + 1) (below_set2 (b := w.heap.size + 1 + 1) hb (by omega) _ _) (by omega) _ _⟩
set_option maxHeartbeats 8000000 in
set_option maxRecDepth 100000 in
theorem twAnnual_ok (l l' : List UInt8) (y p z : Int) (w : World) (hG : Glob w) (hl : l.length ≤ 60) (hl' : l'.length ≤ 60) (g : l = fN (fv l l') ∧ l' = fD (fv l l')) (gb : ¬ annBad (fv l l') y p) (hy8 : y ≤ 8) (hR : RootA (fv l l') y.toNat ((10 ^ p.toNat : Nat) : Int) z) :
    Calls Tryz.prog 116 #[(Value.agg #[Value.string ⟨List.toArray l⟩, Value.string ⟨List.toArray l'⟩]), .int .i64 y, .int .i64 p] w fun e w' => e = .returned (annV l l' y p z) ∧ Below w.heap.size w w' := by
  obtain ⟨W, hW⟩ : ∃ W, W = ((((w.alloc (.cells #[.string ⟨l.toArray⟩, .string ⟨l'.toArray⟩] 25)).alloc (.cells #[.int .i64 y] 3)).alloc (.cells #[.string ⟨#[]⟩, .string ⟨#[]⟩] 25)).alloc (.cells #[.string ⟨#[]⟩, .string ⟨#[]⟩] 25)) := ⟨_, rfl⟩
  have x3 : Blk W w.heap.size #[.string ⟨l.toArray⟩, .string ⟨l'.toArray⟩] := by rw [hW]; exact (((Blk.new w _ 25).below (below_alloc _ _)).below (below_alloc _ _)).below (below_alloc _ _)
  have x4 : Blk W (w.heap.size + 1) #[.int .i64 y] := by rw [hW]; have h1 := ((Blk.new (w.alloc (.cells #[.string ⟨l.toArray⟩, .string ⟨l'.toArray⟩] 25)) #[.int .i64 y] 3).below (below_alloc _ (.cells #[.string ⟨#[]⟩, .string ⟨#[]⟩] 25))).below (below_alloc _ (.cells #[.string ⟨#[]⟩, .string ⟨#[]⟩] 25)); simp only [World.size_alloc] at h1; exact h1
  have z6 : W.heap[w.heap.size + 1 + 1]? = some (.cells #[.string ⟨#[]⟩, .string ⟨#[]⟩] 25) := by
    rw [hW]
    have h2 := World.alloc_heap_new ((w.alloc (.cells #[.string ⟨l.toArray⟩, .string ⟨l'.toArray⟩] 25)).alloc (.cells #[.int .i64 y] 3)) (.cells #[.string ⟨#[]⟩, .string ⟨#[]⟩] 25)
    have h1 := (below_alloc (((w.alloc (.cells #[.string ⟨l.toArray⟩, .string ⟨l'.toArray⟩] 25)).alloc (.cells #[.int .i64 y] 3)).alloc (.cells #[.string ⟨#[]⟩, .string ⟨#[]⟩] 25)) (.cells #[.string ⟨#[]⟩, .string ⟨#[]⟩] 25)).block (w.heap.size + 1 + 1) (by simp only [World.size_alloc]; omega)
    simp only [World.size_alloc] at h2
    exact h1.trans h2
  have z7 : W.heap[w.heap.size + 1 + 1 + 1]? = some (.cells #[.string ⟨#[]⟩, .string ⟨#[]⟩] 25) := by
    rw [hW]
    have h2 := World.alloc_heap_new (((w.alloc (.cells #[.string ⟨l.toArray⟩, .string ⟨l'.toArray⟩] 25)).alloc (.cells #[.int .i64 y] 3)).alloc (.cells #[.string ⟨#[]⟩, .string ⟨#[]⟩] 25)) (.cells #[.string ⟨#[]⟩, .string ⟨#[]⟩] 25)
    simp only [World.size_alloc] at h2
    exact h2
  have hb : Below w.heap.size w W := by rw [hW]; exact bto (below_alloc _ _) (bto (below_alloc _ _) (bto (below_alloc _ _) (below_alloc _ _)))
  have hsW : W.heap.size = w.heap.size + 4 := by rw [hW]; simp only [World.size_alloc]
  have HW := Lib.hid hW
  clear hW
  have HV0 : Hid (annV l l' y p z = .tuple #[(Value.agg #[Value.string ⟨List.toArray (fN (Rat.divInt (z - ((10 ^ p.toNat : Nat) : Int)) ((10 ^ p.toNat : Nat) : Int)))⟩, Value.string ⟨List.toArray (fD (Rat.divInt (z - ((10 ^ p.toNat : Nat) : Int)) ((10 ^ p.toNat : Nat) : Int)))⟩]), (Value.agg #[Value.string ⟨List.toArray (fN (Rat.divInt (topA (fv l l') y.toNat ((10 ^ p.toNat : Nat) : Int) z - ((10 ^ p.toNat : Nat) : Int)) ((10 ^ p.toNat : Nat) : Int)))⟩, Value.string ⟨List.toArray (fD (Rat.divInt (topA (fv l l') y.toNat ((10 ^ p.toNat : Nat) : Int) z - ((10 ^ p.toNat : Nat) : Int)) ((10 ^ p.toNat : Nat) : Int)))⟩]), .int .i64 0]) := by show _ = _; unfold annV; rw [if_neg (fun h => h g), if_neg gb]
  have C1 := Lib.hid (rCheck (isq_raw (k := 60) hl hl' (by decide)) (if_pos g))
  have hcq : cmpQ (fv l l') 0 ≤ 0 ↔ fv l l' ≤ 0 := cmpQ_le0
  have C2 := Lib.hid (rCompare (isq_raw (l := l) (l' := l') (k := 60) hl hl' (by decide)) isq_zero rfl)
  have gb' : ¬ fv l l' ≤ 0 ∧ 1 ≤ y ∧ y ≤ 100 ∧ 0 ≤ p ∧ p ≤ 12 := by
    unfold annBad at gb
    exact ⟨fun h => gb (.inl h), by omega, by omega, by omega, by omega⟩
  obtain ⟨b0, b1, b2, b3, b4⟩ := gb'
  rw [← hcq] at b0
  have hf60 : Bd 60 (fv l l') := bd_fv hl hl' (by decide)
  obtain ⟨r1, r2, r3⟩ := root_abs hf60 b4 hR
  have hu0 := u_pos p
  have hul := u_len b4
  have hua := u_abs b4
  obtain ⟨n, hn⟩ : ∃ n, n = y.toNat := ⟨_, rfl⟩
  have hyn : y = (n : Int) := by omega
  have C3 := Lib.hid (niPower46 (l := [49, 48]) (by decide) (n := p.toNat) (by omega) (ten_u p))
  rw [show ((p.toNat : Nat) : Int) = p by omega] at C3
  rw [← hn] at hR HV0
  have HTop : Hid (topA (fv l l') n ((10 ^ p.toNat : Nat) : Int) z = if (Rat.divInt z ((10 ^ p.toNat : Nat) : Int)) ^ n = fv l l' then z else z + 1) := rfl
  have HL1 := Lib.hid (less_one z hu0)
  have HL2 : Hid (∀ t, Rat.divInt (t - ((10 ^ p.toNat : Nat) : Int)) ((10 ^ p.toNat : Nat) : Int) = Rat.divInt t ((10 ^ p.toNat : Nat) : Int) - 1) := fun t => less_one t hu0
  have HPU := Lib.hid (plus_unit z hu0)
  generalize topA (fv l l') n ((10 ^ p.toNat : Nat) : Int) z = top at *
  generalize cmpQ (fv l l') 0 = cc at *
  obtain ⟨u, hu⟩ : ∃ u, u = ((10 ^ p.toNat : Nat) : Int) := ⟨_, rfl⟩
  rw [← hu] at hR HV0 hu0 hul hua C3 HTop HL1 HL2 HPU
  obtain ⟨f, hf⟩ : ∃ f, f = fv l l' := ⟨_, rfl⟩
  rw [← hf] at hR HTop
  have HRi := Lib.hid hR.iff
  have hzn := hR.nn
  have HBq : Hid (∀ t : Int, 0 ≤ t → t ≤ 2 * z + 2 → Bd 90 (Rat.divInt t u) ∧ (canon t).length ≤ 81) := fun t h1 h2 => ⟨bd_mono (bd_divInt (k := 80) (r3 t h1 h2) (Nat.lt_of_lt_of_le hua (by decide)) (by omega)) (by decide), canon_len_le _ 80 (r3 t h1 h2)⟩
  have hzu : (canon (z - u)).length ≤ 80 := Nat.le_trans (canon_len_le _ 76 (by have : (10 : Nat) ^ 75 + 10 ^ 13 ≤ 10 ^ 76 := by decide
                                                                                have := Int.natAbs_sub_le z u
                                                                                omega)) (by decide)
  have hzl := (HBq.out z hzn (by omega)).2
  have C5 := Lib.hid (niSub46 (l := canon z) (l' := canon u) (by omega) (by omega) (show _ = z - u by rw [val_canon, val_canon]))
  have C6 := Lib.hid (twRatio (l := canon (z - u)) (l' := canon u) (by omega) (by omega) (by rw [val_canon]; omega) (show _ = Rat.divInt (z - u) u by rw [val_canon, val_canon]))
  have hqz := (HBq.out z hzn (by omega)).1
  have C7 := Lib.hid (rCompare (isq_fr (bd_pow hqz n) (by omega)) (isq_raw (l := l) (l' := l') (k := 60) hl hl' (by decide)) rfl)
  have HC7 : Hid (cmpQ ((Rat.divInt z u) ^ n) (fv l l') = 0 ↔ (Rat.divInt z u) ^ n = f) := by rw [hf]; exact cmpQ_eq _ _
  have C8 := Lib.hid (twRatio (l := [49]) (l' := canon u) (by decide) (by omega) (by rw [val_canon]; omega) (show _ = Rat.divInt 1 u by rw [val_canon]; rfl))
  have hb1u : Bd 13 (Rat.divInt 1 u) := bd_divInt (by decide) hua (by omega)
  have hbzu : Bd 91 (Rat.divInt (z - u) u) := bd_divInt (Nat.lt_of_lt_of_le (show (z - u).natAbs < 10 ^ 76 from by have : (10 : Nat) ^ 75 + 10 ^ 13 ≤ 10 ^ 76 := by decide
                                                                                                                   have := Int.natAbs_sub_le z u
                                                                                                                   omega) (by decide)) (Nat.lt_of_lt_of_le hua (by decide)) (by omega)
  have C9 := Lib.hid (rAdd (isq_fr hbzu (by decide)) (isq_fr hb1u (by decide)) (show _ = Rat.divInt (z + 1 - u) u by rw [HL1.out, HL2.out, ← HPU.out]; grind))
  obtain ⟨fa, hfa⟩ : ∃ fa, fa = Rat.divInt (z - u) u := ⟨_, rfl⟩
  rw [← hfa] at C6 C9 HV0
  obtain ⟨fb, hfb⟩ : ∃ fb, fb = Rat.divInt (z + 1 - u) u := ⟨_, rfl⟩
  rw [← hfb] at C9
  have HFA := Lib.hid hfa
  have HFB := Lib.hid hfb
  have HFf := Lib.hid hf
  have HYN := Lib.hid hyn
  have e1 : decide (cc ≤ 0) = false := decide_eq_false b0
  have e2 : decide (y < 1) = false := decide_eq_false (by omega)
  have e3 : decide (100 < y) = false := decide_eq_false (by omega)
  have e4 : decide (p < 0) = false := decide_eq_false (by omega)
  have e5 : decide (12 < p) = false := decide_eq_false (by omega)
  have hn8 : n ≤ 8 := by omega
  clear g gb hcq b0 b1 b2 b3 b4 hf60 hn hyn hR HL1 HL2 HPU hf hfa hfb hu hb1u hbzu hqz hzu r1 hy8
  go_enter Tryz.func116, Tryz.ntmps116
  go_wp2_with fail
  rw [← HW.out]
  have q30 := x3.c 0
  have q31 := x3.c 1
  go_wp2_with fail
  ((with_reducible refine (C1.out.of hG hb).mono ?_); rintro e w1 ⟨rfl, hb1⟩)
  replace x3 := x3.below hb1
  replace x4 := x4.below hb1
  replace z6 := (hb1.block _ (Array.getElem?_eq_some_iff.1 z6).1).trans z6
  replace z7 := (hb1.block _ (Array.getElem?_eq_some_iff.1 z7).1).trans z7
  replace hb := bto hb hb1
  clear hb1 C1
  replace q30 := x3.c 0
  replace q31 := x3.c 1
  have q40 := x4.c 0
  go_wp2_with fail
  ((with_reducible refine (C2.out.of hG hb).mono ?_); rintro e w2 ⟨rfl, hb2⟩)
  replace x3 := x3.below hb2
  replace x4 := x4.below hb2
  replace z6 := (hb2.block _ (Array.getElem?_eq_some_iff.1 z6).1).trans z6
  replace z7 := (hb2.block _ (Array.getElem?_eq_some_iff.1 z7).1).trans z7
  replace hb := bto hb hb2
  clear hb2 C2
  clear q30 q31
  replace q40 := x4.c 0
  go_wp2_with fail
  ((with_reducible refine (C3.out.of hG hb).mono ?_); rintro e w3 ⟨rfl, hb3⟩)
  replace x3 := x3.below hb3
  replace x4 := x4.below hb3
  replace z6 := (hb3.block _ (Array.getElem?_eq_some_iff.1 z6).1).trans z6
  replace z7 := (hb3.block _ (Array.getElem?_eq_some_iff.1 z7).1).trans z7
  replace hb := bto hb hb3
  clear hb3 C3
  clear q40
  have hsz3 := hb.size
  have hbA := below_alloc w3 (.cells #[.string ⟨(canon u).toArray⟩] 23)
  have x9 := Blk.new w3 #[.string ⟨(canon u).toArray⟩] 23
  obtain ⟨b9, hb9⟩ : ∃ b9, b9 = w3.heap.size := ⟨_, rfl⟩
  rw [← hb9] at x9
  obtain ⟨w4, hw4⟩ : ∃ w4, w4 = w3.alloc (.cells #[.string ⟨(canon u).toArray⟩] 23) := ⟨_, rfl⟩
  have hs4 : w4.heap.size = w3.heap.size + 1 := by rw [hw4]; simp
  rw [← hw4] at hbA x9
  have hbB := below_alloc w4 (.cells #[.func (Fn.func 177) #[] #[.pointer (some ⟨b9, 0, none⟩), .pointer (some ⟨w.heap.size + 1, 0, none⟩)]] 57)
  have x11 := Blk.new w4 #[.func (Fn.func 177) #[] #[.pointer (some ⟨b9, 0, none⟩), .pointer (some ⟨w.heap.size + 1, 0, none⟩)]] 57
  obtain ⟨b11, hb11⟩ : ∃ b11, b11 = w4.heap.size := ⟨_, rfl⟩
  rw [← hb11] at x11
  have hbAB := bto hbA hbB
  have z6l := (Array.getElem?_eq_some_iff.1 z6).1
  have z7l := (Array.getElem?_eq_some_iff.1 z7).1
  replace x3 := x3.below hbAB
  replace x4 := x4.below hbAB
  replace x9 := x9.below hbB
  replace z6 := (hbAB.block _ z6l).trans z6
  replace z7 := (hbAB.block _ z7l).trans z7
  replace hb := bto hb hbAB
  have hx9 : ¬ (b9 = w.heap.size + 1 + 1 ∨ b9 = w.heap.size + 1 + 1 + 1) := by omega
  clear hbA hbB hbAB z6l z7l
  have hbb : b9 + 1 = b11 := by omega
  go_wp2_with fail
  rw [← hb9, ← hw4]
  (try rw [← hb11])
  (try rw [hbb])
  obtain ⟨w5, hw5⟩ : ∃ w5, w5 = w4.alloc (.cells #[.func (Fn.func 177) #[] #[.pointer (some ⟨b9, 0, none⟩), .pointer (some ⟨w.heap.size + 1, 0, none⟩)]] 57) := ⟨_, rfl⟩
  rw [← hw5] at x3 x4 x9 x11 z6 z7 hb
  (try rw [← hw5])
  have hs5 : w5.heap.size = w4.heap.size + 1 := by rw [hw5]; simp
  clear hw5 hw4
  have C4 := Lib.hid (twGreatest b11 w.heap.size (fun t => decide ((Rat.divInt t u) ^ n ≤ f)) z 80 w5 (hG.below hb) hzn (by decide) r2 (fun t ht => by rw [decide_eq_true_iff]; exact HRi.out t ht)
    (fun t h1 h2 => twHas t u n b9 (w.heap.size + 1) b11 w.heap.size w5 (hG.below hb) (by have := (HBq.out t (by omega) h2).2; omega) (by omega) (by omega) (HBq.out t (by omega) h2).1 (by omega) x9 (by rw [← HYN.out]; exact x4) x11 x3 hl hl' HFf.out.symm rfl))
  ((with_reducible refine C4.out.mono ?_); rintro e w6 ⟨rfl, hb6⟩)
  have z6l := (Array.getElem?_eq_some_iff.1 z6).1
  have z7l := (Array.getElem?_eq_some_iff.1 z7).1
  replace x3 := x3.below hb6
  replace x4 := x4.below hb6
  replace x9 := x9.below hb6
  replace x11 := x11.below hb6
  replace z6 := (hb6.block _ z6l).trans z6
  replace z7 := (hb6.block _ z7l).trans z7
  replace hb := bto hb hb6
  have hs6 := hb6.size
  clear hb6 C4 z6l z7l HRi r2 r3
  have CPow : Hid (∀ w', Below w6.heap.size w6 w' → Calls Tryz.prog 177 #[.string ⟨(canon z).toArray⟩, .pointer (some ⟨b9, 0, none⟩), .pointer (some ⟨w.heap.size + 1, 0, none⟩)] w' fun e w2 => e = .returned (Value.agg #[Value.string ⟨List.toArray (fN ((Rat.divInt z u) ^ n))⟩, Value.string ⟨List.toArray (fD ((Rat.divInt z u) ^ n))⟩]) ∧ Below w'.heap.size w' w2) := fun w' hw =>
    twPow z u n b9 (w.heap.size + 1) w' ((hG.below hb).below hw) (by omega) (by omega) (by omega) (HBq.out z hzn (by omega)).1 (by omega) (x9.below hw) (by rw [← HYN.out]; exact x4.below hw)
  obtain ⟨Us, hUs⟩ : ∃ Us, Us = canon u := ⟨_, rfl⟩
  rw [← hUs] at x9 C5 C6 C8
  obtain ⟨Zs, hZs⟩ : ∃ Zs, Zs = canon z := ⟨_, rfl⟩
  rw [← hZs] at C5 CPow
  (try rw [← hZs])
  have hlU := hul
  rw [← hUs] at hlU
  obtain ⟨qn, hqn⟩ : ∃ qn, qn = (Rat.divInt z u) ^ n := ⟨_, rfl⟩
  rw [← hqn] at C7 HC7 HTop CPow
  obtain ⟨c7, hc7⟩ : ∃ c7, c7 = cmpQ qn (fv l l') := ⟨_, rfl⟩
  rw [← hc7] at C7 HC7
  obtain ⟨pu, hpu⟩ : ∃ pu, pu = Rat.divInt 1 u := ⟨_, rfl⟩
  rw [← hpu] at C8 C9
  have hb11' : b11 = w3.heap.size + 1 := by omega
  clear hpu hc7 hqn hUs hZs hul hzl HBq HFf HYN hu0 hua hbb hb11
  subst hb9 hb11'
  go_wp2_with fail
  refine wp_region_kept (by kernel_rfl) (by kernel_rfl) ?_
  refine kept_val _ (fun _ => rfl) (fun ρ wz hw => by go_simp; first | done | with_reducible rfl) ?_
  simp only [Act.put, List.setIfInBounds_toArray, List.set_cons_zero, List.set_cons_succ, Nat.reduceAdd]
  refine kept_val _ (fun _ => rfl) (fun ρ wz hw => by have q0 : wz.cell? ⟨w3.heap.size, 0, none⟩ = some (.string ⟨Us.toArray⟩) := (x9.below hw).c 0; go_simp; first | done | with_reducible rfl) ?_
  simp only [Act.put, List.setIfInBounds_toArray, List.set_cons_zero, List.set_cons_succ, Nat.reduceAdd]
  refine kept_call _ _ _ (fun _ => rfl) (fun ρ wz hw => by go_simp; first | done | with_reducible rfl) (fun wz hw => C5.out.of hG (bto hb hw)) ?_
  simp only [Act.put, List.setIfInBounds_toArray, List.set_cons_zero, List.set_cons_succ, Nat.reduceAdd]
  refine kept_val _ (fun _ => rfl) (fun ρ wz hw => by have q0 : wz.cell? ⟨w3.heap.size, 0, none⟩ = some (.string ⟨Us.toArray⟩) := (x9.below hw).c 0; go_simp; first | done | with_reducible rfl) ?_
  simp only [Act.put, List.setIfInBounds_toArray, List.set_cons_zero, List.set_cons_succ, Nat.reduceAdd]
  refine kept_call _ _ _ (fun _ => rfl) (fun ρ wz hw => by go_simp; first | done | with_reducible rfl) (fun wz hw => C6.out.of hG (bto hb hw)) ?_
  simp only [Act.put, List.setIfInBounds_toArray, List.set_cons_zero, List.set_cons_succ, Nat.reduceAdd]
  refine kept_box (fun b => .pointer (some ⟨b, 0, none⟩)) _ rfl (fun _ => rfl) (fun ρ wz hw => by go_simp; first | done | with_reducible rfl) ?_
  simp only [Act.put, List.setIfInBounds_toArray, List.set_cons_zero, List.set_cons_succ, Nat.reduceAdd]
  refine kept_put2 5 _ 13 _ _ _ _ _ rfl rfl rfl (by decide) (fun _ => rfl) (fun ρ wz hw q0 q1 q2 q3 => by go_simp; first | done | with_reducible rfl) ?_
  simp only [Act.put, Nat.reduceAdd]
  refine kept_end (fun ρ w7 hF => ?_)
  have x13 : Blk w7 (ρ 5) #[.string ⟨(fN fa).toArray⟩, .string ⟨(fD fa).toArray⟩] := ⟨_, (hF.box 5 _ _ rfl).2⟩
  have hg13 := (hF.box 5 _ _ rfl).1
  have hbF := hF.below
  (try dsimp only)
  generalize ρ 5 = b13 at *
  have z6l := (Array.getElem?_eq_some_iff.1 z6).1
  have z7l := (Array.getElem?_eq_some_iff.1 z7).1
  replace x3 := x3.below hbF
  replace x9 := x9.below hbF
  replace x11 := x11.below hbF
  replace z6 := (hbF.block _ z6l).trans z6
  replace z7 := (hbF.block _ z7l).trans z7
  replace hb := bto hb hbF
  have hx13 : ¬ (b13 = w.heap.size + 1 + 1 ∨ b13 = w.heap.size + 1 + 1 + 1) := by omega
  have CP : Hid (∀ w', Below w7.heap.size w7 w' → Calls Tryz.prog 177 #[.string ⟨Zs.toArray⟩, .pointer (some ⟨w3.heap.size, 0, none⟩), .pointer (some ⟨w.heap.size + 1, 0, none⟩)] w' fun e w2 => e = .returned (Value.agg #[Value.string ⟨List.toArray (fN qn)⟩, Value.string ⟨List.toArray (fD qn)⟩]) ∧ Below w'.heap.size w' w2) := fun w' hw => CPow.out w' (bto hbF hw)
  clear hF hbF hg13 z6l z7l CPow x4 C5 C6
  go_wp2_with fail
  refine wp_region_kept (by kernel_rfl) (by kernel_rfl) ?_
  refine kept_val _ (fun _ => rfl) (fun ρ wz hw => by have q0 : wz.cell? ⟨w3.heap.size + 1, 0, none⟩ = some (.func (Fn.func 177) #[] #[.pointer (some ⟨w3.heap.size, 0, none⟩), .pointer (some ⟨w.heap.size + 1, 0, none⟩)]) := (x11.below hw).c 0; go_simp; first | done | with_reducible rfl) ?_
  simp only [Act.put, List.setIfInBounds_toArray, List.set_cons_zero, List.set_cons_succ, Nat.reduceAdd]
  refine kept_val _ (fun _ => rfl) (fun ρ wz hw => by go_simp; first | done | with_reducible rfl) ?_
  simp only [Act.put, List.setIfInBounds_toArray, List.set_cons_zero, List.set_cons_succ, Nat.reduceAdd]
  refine kept_call _ _ _ (fun _ => rfl) (fun ρ wz hw => by go_simp; first | done | with_reducible rfl) (fun wz hw => CP.out wz hw) ?_
  simp only [Act.put, List.setIfInBounds_toArray, List.set_cons_zero, List.set_cons_succ, Nat.reduceAdd]
  refine kept_val _ (fun _ => rfl) (fun ρ wz hw => by have q0 : wz.cell? ⟨w.heap.size, 0, none⟩ = some (.string ⟨l.toArray⟩) := (x3.below hw).c 0; have q1 : wz.cell? ⟨w.heap.size, 1, none⟩ = some (.string ⟨l'.toArray⟩) := (x3.below hw).c 1; go_simp; first | done | with_reducible rfl) ?_
  simp only [Act.put, List.setIfInBounds_toArray, List.set_cons_zero, List.set_cons_succ, Nat.reduceAdd]
  refine kept_call _ _ _ (fun _ => rfl) (fun ρ wz hw => by go_simp; first | done | with_reducible rfl) (fun wz hw => C7.out.of hG (bto hb hw)) ?_
  simp only [Act.put, List.setIfInBounds_toArray, List.set_cons_zero, List.set_cons_succ, Nat.reduceAdd]
  refine kept_val _ (fun _ => rfl) (fun ρ wz hw => by go_simp; first | done | with_reducible rfl) ?_
  simp only [Act.put, List.setIfInBounds_toArray, List.set_cons_zero, List.set_cons_succ, Nat.reduceAdd]
  refine kept_end (fun ρ w8 hF => ?_)
  have hbF := hF.below
  (try dsimp only)
  have z6l := (Array.getElem?_eq_some_iff.1 z6).1
  have z7l := (Array.getElem?_eq_some_iff.1 z7).1
  replace x9 := x9.below hbF
  replace x13 := x13.below hbF
  replace z6 := (hbF.block _ z6l).trans z6
  replace z7 := (hbF.block _ z7l).trans z7
  replace hb := bto hb hbF
  have hX : ∀ k, (k = w.heap.size + 1 + 1 ∨ k = w.heap.size + 1 + 1 + 1) → w.heap.size ≤ k := by rintro k (rfl | rfl) <;> omega
  clear hF hbF z6l z7l x3 x11 CP C7 hs4 hs5 hs6 hsz3 hsW
  by_cases g0 : c7 = 0
  · have e6 : (c7 == 0) = true := intbeq g0
    have HV : Hid (annV l l' y p z = .tuple #[(Value.agg #[Value.string ⟨List.toArray (fN fa)⟩, Value.string ⟨List.toArray (fD fa)⟩]), (Value.agg #[Value.string ⟨List.toArray (fN fa)⟩, Value.string ⟨List.toArray (fD fa)⟩]), .int .i64 0]) := by show _ = _; rw [HV0.out, HTop.out, if_pos (HC7.out.1 g0), ← HFA.out]
    clear g0 HV0 HTop HC7 HFA HFB C8 C9
    go_wp2_with fail
    refine wp_region_kept_two 30 (w.heap.size + 1 + 1) (w.heap.size + 1 + 1 + 1) 6 7 _ _ (by kernel_rfl) (by kernel_rfl) (by decide) (by omega) z6 z7 rfl ?_
    simp only [Act.put, List.setIfInBounds_toArray, List.set_cons_zero, List.set_cons_succ]
    refine kept_val _ (fun _ => rfl) (fun ρ wz hw => by have q0 : wz.cell? ⟨b13, 0, none⟩ = some (.string ⟨(fN fa).toArray⟩) := (x13.keepX hw hx13).c 0; have q1 : wz.cell? ⟨b13, 1, none⟩ = some (.string ⟨(fD fa).toArray⟩) := (x13.keepX hw hx13).c 1; go_simp; first | done | with_reducible rfl) ?_
    simp only [Act.put, List.setIfInBounds_toArray, List.set_cons_zero, List.set_cons_succ, Nat.reduceAdd]
    refine kept_val _ (fun _ => rfl) (fun ρ wz hw => by have q0 : wz.cell? ⟨b13, 0, none⟩ = some (.string ⟨(fN fa).toArray⟩) := (x13.keepX hw hx13).c 0; have q1 : wz.cell? ⟨b13, 1, none⟩ = some (.string ⟨(fD fa).toArray⟩) := (x13.keepX hw hx13).c 1; go_simp; first | done | with_reducible rfl) ?_
    simp only [Act.put, List.setIfInBounds_toArray, List.set_cons_zero, List.set_cons_succ, Nat.reduceAdd]
    refine kept_putK 30 _ _ _ _ _ rfl rfl (fun _ => rfl) (fun ρ wz hw q0 q1 q2 q3 => by go_simp; first | done | with_reducible rfl) ?_
    simp only [Act.put, Nat.reduceAdd]
    refine kept_putK 31 _ _ _ _ _ rfl rfl (fun _ => rfl) (fun ρ wz hw q0 q1 q2 q3 => by go_simp; first | done | with_reducible rfl) ?_
    simp only [Act.put, Nat.reduceAdd]
    refine kept_val _ (fun _ => rfl) (fun ρ wz hw => by go_simp; first | done | with_reducible rfl) ?_
    simp only [Act.put, List.setIfInBounds_toArray, List.set_cons_zero, List.set_cons_succ, Nat.reduceAdd]
    refine kept_endX (fun ρ w8 hF => ?_)
    have hb8 := hF.below.lower hb hX
    have t6 := FBox.ofB (hF.box 30 _ _ rfl).2
    have t7 := FBox.ofB (hF.box 31 _ _ rfl).2
    (try dsimp only)
    generalize ρ 30 = c6 at *
    generalize ρ 31 = c7 at *
    clear hF
    have d0 := t6.c0
    have d1 := t6.c1
    have d2 := t7.c0
    have d3 := t7.c1
    go_wp2
    refine bodyPost_ret (v := .tuple #[(Value.agg #[Value.string ⟨List.toArray (fN fa)⟩, Value.string ⟨List.toArray (fD fa)⟩]), (Value.agg #[Value.string ⟨List.toArray (fN fa)⟩, Value.string ⟨List.toArray (fD fa)⟩]), .int .i64 0]) (by simp [results, Tryz.results116, go_sem, d0, d1, d2, d3]) rfl ?_
    exact ⟨by rw [HV.out], hb8⟩
  · have e6 : (c7 == 0) = false := intbne g0
    have HV : Hid (annV l l' y p z = .tuple #[(Value.agg #[Value.string ⟨List.toArray (fN fa)⟩, Value.string ⟨List.toArray (fD fa)⟩]), (Value.agg #[Value.string ⟨List.toArray (fN fb)⟩, Value.string ⟨List.toArray (fD fb)⟩]), .int .i64 0]) := by show _ = _; rw [HV0.out, HTop.out, if_neg (fun h => g0 (HC7.out.2 h)), ← HFB.out]
    clear g0 HV0 HTop HC7 HFA HFB
    go_wp2_with fail
    refine wp_region_kept_two 30 (w.heap.size + 1 + 1) (w.heap.size + 1 + 1 + 1) 6 7 _ _ (by kernel_rfl) (by kernel_rfl) (by decide) (by omega) z6 z7 rfl ?_
    simp only [Act.put, List.setIfInBounds_toArray, List.set_cons_zero, List.set_cons_succ]
    refine kept_val _ (fun _ => rfl) (fun ρ wz hw => by have q0 : wz.cell? ⟨b13, 0, none⟩ = some (.string ⟨(fN fa).toArray⟩) := (x13.keepX hw hx13).c 0; have q1 : wz.cell? ⟨b13, 1, none⟩ = some (.string ⟨(fD fa).toArray⟩) := (x13.keepX hw hx13).c 1; go_simp; first | done | with_reducible rfl) ?_
    simp only [Act.put, List.setIfInBounds_toArray, List.set_cons_zero, List.set_cons_succ, Nat.reduceAdd]
    refine kept_val _ (fun _ => rfl) (fun ρ wz hw => by have q0 : wz.cell? ⟨b13, 0, none⟩ = some (.string ⟨(fN fa).toArray⟩) := (x13.keepX hw hx13).c 0; have q1 : wz.cell? ⟨b13, 1, none⟩ = some (.string ⟨(fD fa).toArray⟩) := (x13.keepX hw hx13).c 1; go_simp; first | done | with_reducible rfl) ?_
    simp only [Act.put, List.setIfInBounds_toArray, List.set_cons_zero, List.set_cons_succ, Nat.reduceAdd]
    refine kept_val _ (fun _ => rfl) (fun ρ wz hw => by have q0 : wz.cell? ⟨w3.heap.size, 0, none⟩ = some (.string ⟨Us.toArray⟩) := (x9.keepX hw hx9).c 0; go_simp; first | done | with_reducible rfl) ?_
    simp only [Act.put, List.setIfInBounds_toArray, List.set_cons_zero, List.set_cons_succ, Nat.reduceAdd]
    refine kept_call _ _ _ (fun _ => rfl) (fun ρ wz hw => by go_simp; first | done | with_reducible rfl) (fun wz hw => C8.out.of hG (hw.lower hb hX)) ?_
    simp only [Act.put, List.setIfInBounds_toArray, List.set_cons_zero, List.set_cons_succ, Nat.reduceAdd]
    refine kept_call _ _ _ (fun _ => rfl) (fun ρ wz hw => by go_simp; first | done | with_reducible rfl) (fun wz hw => C9.out.of hG (hw.lower hb hX)) ?_
    simp only [Act.put, List.setIfInBounds_toArray, List.set_cons_zero, List.set_cons_succ, Nat.reduceAdd]
    refine kept_putK 30 _ _ _ _ _ rfl rfl (fun _ => rfl) (fun ρ wz hw q0 q1 q2 q3 => by go_simp; first | done | with_reducible rfl) ?_
    simp only [Act.put, Nat.reduceAdd]
    refine kept_putK 31 _ _ _ _ _ rfl rfl (fun _ => rfl) (fun ρ wz hw q0 q1 q2 q3 => by go_simp; first | done | with_reducible rfl) ?_
    simp only [Act.put, Nat.reduceAdd]
    refine kept_val _ (fun _ => rfl) (fun ρ wz hw => by go_simp; first | done | with_reducible rfl) ?_
    simp only [Act.put, List.setIfInBounds_toArray, List.set_cons_zero, List.set_cons_succ, Nat.reduceAdd]
    refine kept_endX (fun ρ w8 hF => ?_)
    have hb8 := hF.below.lower hb hX
    have t6 := FBox.ofB (hF.box 30 _ _ rfl).2
    have t7 := FBox.ofB (hF.box 31 _ _ rfl).2
    (try dsimp only)
    generalize ρ 30 = c6 at *
    generalize ρ 31 = c7 at *
    clear hF
    have d0 := t6.c0
    have d1 := t6.c1
    have d2 := t7.c0
    have d3 := t7.c1
    go_wp2
    refine bodyPost_ret (v := .tuple #[(Value.agg #[Value.string ⟨List.toArray (fN fa)⟩, Value.string ⟨List.toArray (fD fa)⟩]), (Value.agg #[Value.string ⟨List.toArray (fN fb)⟩, Value.string ⟨List.toArray (fD fb)⟩]), .int .i64 0]) (by simp [results, Tryz.results116, go_sem, d0, d1, d2, d3]) rfl ?_
    exact ⟨by rw [HV.out], hb8⟩
end Go.Proofs.YtgnppdkeiihlfaaGreatDoor
namespace Go.Proofs.YtgnppdkeiihlfaaGreatDoor
open Go.RowKit Num
set_option maxHeartbeats 1000000 in
set_option maxRecDepth 100000 in
theorem twFrac {l l' : List UInt8} (hl : l.length ≤ 1000000) (hl' : l'.length ≤ 1000000) (h0 : val l' ≠ 0) {q : Rat} (eq : Rat.divInt (val l) (val l') = q) : Ret 117 #[.string ⟨l.toArray⟩, .string ⟨l'.toArray⟩] (Value.agg #[Value.string ⟨List.toArray (fN q)⟩, Value.string ⟨List.toArray (fD q)⟩]) := fun w hG => by
  have C1 := Lib.hid (rNew (l := l) (l' := l') hl hl' h0 eq)
  have x3 := FBox.new w (.string ⟨#[]⟩) (.string ⟨#[]⟩) 25
  have hb := below_alloc w (.cells #[.string ⟨#[]⟩, .string ⟨#[]⟩] 25)
  clear hl hl' h0 eq
  go_enter Tryz.func117, Tryz.ntmps117
  go_wp2_with fail
  ((with_reducible refine (C1.out.of hG hb).mono ?_); rintro e w2 ⟨rfl, hb2⟩)
  have x4 := FBox.new w2 (.string ⟨(fN q).toArray⟩) (.string ⟨(fD q).toArray⟩) 25
  have hbA := below_alloc w2 (.cells #[.string ⟨(fN (q)).toArray⟩, .string ⟨(fD (q)).toArray⟩] 25)
  replace x3 := (x3.below hb2).below hbA
  replace hb := bto hb (bto hb2 hbA)
  have g0 := x3.c0
  have g1 := x3.c1
  have g2 := x3.f0
  have g3 := x3.f1
  have p0 := x4.c0
  have p1 := x4.c1
  clear hb2 hbA
  go_wp2
  have hy := x3.set (.string ⟨(fN q).toArray⟩) (.string ⟨(fD q).toArray⟩)
  have d0 := hy.c0
  have d1 := hy.c1
  refine bodyPost_ret (v := (Value.agg #[Value.string ⟨List.toArray (fN q)⟩, Value.string ⟨List.toArray (fD q)⟩])) (by simp [results, Tryz.results117, go_sem, d0, d1]) rfl ?_
  exact ⟨rfl, below_set2 hb (Nat.le_refl _) _ _⟩

theorem twFactorsA {w : World} {A : Option Addr} {ts : List Pnt} {n : Nat} (hG : Glob w) (h : QL w A ts n) (c : Nat) :
    Calls Tryz.prog 114 #[.slice A n c] w fun e w' => ∃ B cp, e = .returned (.tuple #[.slice B (if pntE ts = 0 then facs (pts ts) else []).length cp, .int .i64 (if pntE ts = 0 then 0 else 1)]) ∧ (if pntE ts = 0 then facs (pts ts) else []).length ≤ cp ∧ FsAt w' B (frs (if pntE ts = 0 then facs (pts ts) else [])) ∧ Below w.heap.size w w' := by
  refine (twFactors hG h c).mono ?_
  rintro e w' ⟨v, qs, rfl, rfl, hown, hb⟩
  generalize (if pntE ts = 0 then facs (pts ts) else []) = qs at *
  generalize (if pntE ts = 0 then (0 : Int) else 1) = cd at *
  cases hq : qs with
  | nil =>
    subst hq
    rcases hown.2 with ⟨rfl, -⟩ | ⟨g, cap, cur, rfl, -⟩
    · exact ⟨none, 0, rfl, Nat.le_refl _, fun i t ht => by simp [frs] at ht, hb⟩
    · exact ⟨_, _, rfl, Nat.zero_le _, fun i t ht => by simp [frs] at ht, hb⟩
  | cons q r =>
    rw [← hq]
    have hl : 0 < qs.length := by rw [hq]; simp
    rcases hown.2 with ⟨-, h0⟩ | ⟨g, cap, cur, rfl, hg, hh, hcap, hrest⟩
    · omega
    · obtain ⟨g', hA, -, hr⟩ := own_crow hown (by rw [rowsF_len]; unfold frs; rw [List.length_map]) hl
      injection hA with hA
      injection hA with hA
      subst hA
      exact ⟨_, _, rfl, hcap, crow_fs hr, hb⟩
def awT : List Pnt := [⟨0, [49, 48, 48], []⟩, ⟨10, [49, 50, 48], [45, 50, 48]⟩, ⟨20, [57, 48], []⟩]
theorem aw_ok : pntE awT = 0 := by decide +kernel
theorem aw_f : facs (pts awT) = [Rat.divInt 6 5, Rat.divInt 9 10] := by decide +kernel
theorem aw_r : retV awT = .tuple #[(Value.agg #[Value.string ⟨List.toArray (fN (Rat.divInt 2 25))⟩, Value.string ⟨List.toArray (fD (Rat.divInt 2 25))⟩]), .int .i64 0] := by
  unfold retV
  rw [if_neg (fun h => h aw_ok), aw_f, show prodQ 1 [Rat.divInt 6 5, Rat.divInt 9 10] - 1 = Rat.divInt 2 25 by decide +kernel]
theorem aw_d : dtzV awT = .tuple #[(Value.agg #[Value.string ⟨List.toArray (fN (Rat.divInt 1 9))⟩, Value.string ⟨List.toArray (fD (Rat.divInt 1 9))⟩]), .int .i64 0] := by
  unfold dtzV
  rw [if_neg (fun h => h aw_ok), if_neg (by decide), if_neg (by decide +kernel), show ((gainP (pts awT) : Int) : Rat) / capP (pts awT) = Rat.divInt 1 9 by decide +kernel]
theorem root_at {f : Rat} {n : Nat} {u z : Int} (hf : 0 < f) (hn : 0 < n) (hu : 0 < u) (hz : 1 ≤ z) (h1 : (Rat.divInt z u) ^ n ≤ f) (h2 : ¬ (Rat.divInt (z + 1) u) ^ n ≤ f) : RootA f n u z := by
  obtain ⟨y, hy⟩ := rootA_is hf hn hu
  have a1 := (hy.iff z hz).1 h1
  have a2 : ¬ z + 1 ≤ y := fun h => h2 ((hy.iff (z + 1) (by omega)).2 h)
  obtain rfl : y = z := by omega
  exact hy
theorem aw_r1 : RootA (fv (fN (Rat.divInt 2 1)) (fD (Rat.divInt 2 1))) (3 : Int).toNat ((10 ^ (2 : Int).toNat : Nat) : Int) 125 := by
  rw [fv_frac]
  exact root_at (by decide +kernel) (by decide) (by decide) (by decide) (by decide +kernel) (by decide +kernel)
theorem aw_r2 : RootA (fv (fN (Rat.divInt 8 27)) (fD (Rat.divInt 8 27))) (3 : Int).toNat ((10 ^ (2 : Int).toNat : Nat) : Int) 66 := by
  rw [fv_frac]
  exact root_at (by decide +kernel) (by decide) (by decide) (by decide) (by decide +kernel) (by decide +kernel)
theorem aw_a1 : annV (fN (Rat.divInt 2 1)) (fD (Rat.divInt 2 1)) 3 2 125 = .tuple #[(Value.agg #[Value.string ⟨List.toArray (fN (Rat.divInt 1 4))⟩, Value.string ⟨List.toArray (fD (Rat.divInt 1 4))⟩]), (Value.agg #[Value.string ⟨List.toArray (fN (Rat.divInt 13 50))⟩, Value.string ⟨List.toArray (fD (Rat.divInt 13 50))⟩]), .int .i64 0] := by
  unfold annV
  rw [fv_frac, if_neg (fun h => h ⟨rfl, rfl⟩), if_neg (by decide +kernel)]
  rw [show Rat.divInt (125 - ((10 ^ (2 : Int).toNat : Nat) : Int)) ((10 ^ (2 : Int).toNat : Nat) : Int) = Rat.divInt 1 4 by decide +kernel]
  rw [show Rat.divInt (topA (Rat.divInt 2 1) (3 : Int).toNat ((10 ^ (2 : Int).toNat : Nat) : Int) 125 - ((10 ^ (2 : Int).toNat : Nat) : Int)) ((10 ^ (2 : Int).toNat : Nat) : Int) = Rat.divInt 13 50 by decide +kernel]
theorem aw_a2 : annV (fN (Rat.divInt 8 27)) (fD (Rat.divInt 8 27)) 3 2 66 = .tuple #[(Value.agg #[Value.string ⟨List.toArray (fN (Rat.divInt (-17) 50))⟩, Value.string ⟨List.toArray (fD (Rat.divInt (-17) 50))⟩]), (Value.agg #[Value.string ⟨List.toArray (fN (Rat.divInt (-33) 100))⟩, Value.string ⟨List.toArray (fD (Rat.divInt (-33) 100))⟩]), .int .i64 0] := by
  unfold annV
  rw [fv_frac, if_neg (fun h => h ⟨rfl, rfl⟩), if_neg (by decide +kernel)]
  rw [show Rat.divInt (66 - ((10 ^ (2 : Int).toNat : Nat) : Int)) ((10 ^ (2 : Int).toNat : Nat) : Int) = Rat.divInt (-17) 50 by decide +kernel]
  rw [show Rat.divInt (topA (Rat.divInt 8 27) (3 : Int).toNat ((10 ^ (2 : Int).toNat : Nat) : Int) 66 - ((10 ^ (2 : Int).toNat : Nat) : Int)) ((10 ^ (2 : Int).toNat : Nat) : Int) = Rat.divInt (-33) 100 by decide +kernel]
theorem twAnnualR (q : Rat) (y p z : Int) (hq : (fN q).length ≤ 60 ∧ (fD q).length ≤ 60) (gb : ¬ annBad q y p) (hy8 : y ≤ 8) (hR : RootA (fv (fN q) (fD q)) y.toNat ((10 ^ p.toNat : Nat) : Int) z) : Ret 116 #[(Value.agg #[Value.string ⟨List.toArray (fN q)⟩, Value.string ⟨List.toArray (fD q)⟩]), .int .i64 y, .int .i64 p] (annV (fN q) (fD q) y p z) := fun w hG =>
  twAnnual_ok (fN q) (fD q) y p z w hG hq.1 hq.2 (by rw [fv_frac]; exact ⟨rfl, rfl⟩) (by rw [fv_frac]; exact gb) hy8 hR
set_option maxHeartbeats 8000000 in
set_option maxRecDepth 100000 in
theorem wAwake46 : Ret 55 #[] (.bool true) := fun w hG => by
  obtain ⟨wa, hwa⟩ : ∃ wa, wa = w.alloc (.cells #[.int .i64 0, .string ⟨#[49, 48, 48]⟩, .string ⟨#[]⟩, .int .i64 10, .string ⟨#[49, 50, 48]⟩, .string ⟨#[45, 50, 48]⟩, .int .i64 20, .string ⟨#[57, 48]⟩, .string ⟨#[]⟩] 74) := ⟨_, rfl⟩
  have HQ : QL wa (some ⟨w.heap.size, 0, none⟩) awT 3 := by
    refine ⟨rfl, by decide, .inl (by decide), by decide, fun i t ht => ?_⟩
    have hi := (List.getElem?_eq_some_iff.1 ht).1
    have hi : i = 0 ∨ i = 1 ∨ i = 2 := by simp [awT] at hi; omega
    rw [hwa]
    rcases hi with rfl | rfl | rfl <;> (simp [awT] at ht; subst ht; exact ⟨w.heap.size, 0, rfl, by simp, by simp [go_sem], by simp [go_sem], by simp [go_sem]⟩)
  have hb : Below w.heap.size w wa := by rw [hwa]; exact below_alloc _ _
  have CF := Lib.hid (twFactorsA (hG.below hb) HQ 3)
  simp only [aw_ok, if_true, aw_f] at CF
  have CR := Lib.hid (twReturn (hG.below hb) HQ 3)
  rw [aw_r] at CR
  have CD := Lib.hid (twDietz (hG.below hb) HQ 3 (by decide))
  rw [aw_d] at CD
  have HWa := Lib.hid hwa
  have B1 := Lib.hid (twFrac (l := [50]) (l' := [49]) (by decide) (by decide) (by decide) (show _ = Rat.divInt 2 1 by decide))
  have B2 := Lib.hid (twFrac (l := [56]) (l' := [50, 55]) (by decide) (by decide) (by decide) (show _ = Rat.divInt 8 27 by decide))
  have B3 := Lib.hid (twFrac (l := [54]) (l' := [53]) (by decide) (by decide) (by decide) (show _ = Rat.divInt 6 5 by decide))
  have B4 := Lib.hid (twFrac (l := [57]) (l' := [49, 48]) (by decide) (by decide) (by decide) (show _ = Rat.divInt 9 10 by decide))
  have D1 := Lib.hid (twFrac (l := [50]) (l' := [50, 53]) (by decide) (by decide) (by decide) (show _ = Rat.divInt 2 25 by decide))
  have D2 := Lib.hid (twFrac (l := [49]) (l' := [57]) (by decide) (by decide) (by decide) (show _ = Rat.divInt 1 9 by decide))
  have D3 := Lib.hid (twFrac (l := [49]) (l' := [52]) (by decide) (by decide) (by decide) (show _ = Rat.divInt 1 4 by decide))
  have D4 := Lib.hid (twFrac (l := [49, 51]) (l' := [53, 48]) (by decide) (by decide) (by decide) (show _ = Rat.divInt 13 50 by decide))
  have D5 := Lib.hid (twFrac (l := [45, 49, 55]) (l' := [53, 48]) (by decide) (by decide) (by decide) (show _ = Rat.divInt (-17) 50 by decide))
  have D6 := Lib.hid (twFrac (l := [45, 51, 51]) (l' := [49, 48, 48]) (by decide) (by decide) (by decide) (show _ = Rat.divInt (-33) 100 by decide))
  have A1 := Lib.hid (twAnnualR (Rat.divInt 2 1) 3 2 125 (by decide +kernel) (by decide +kernel) (by decide) aw_r1)
  rw [aw_a1] at A1
  have A2 := Lib.hid (twAnnualR (Rat.divInt 8 27) 3 2 66 (by decide +kernel) (by decide +kernel) (by decide) aw_r2)
  rw [aw_a2] at A2
  generalize Rat.divInt 2 1 = k1 at *
  generalize Rat.divInt 8 27 = k2 at *
  generalize Rat.divInt 6 5 = k3 at *
  generalize Rat.divInt 9 10 = k4 at *
  generalize Rat.divInt 2 25 = q1 at *
  generalize Rat.divInt 1 9 = q2 at *
  generalize Rat.divInt 1 4 = q3 at *
  generalize Rat.divInt 13 50 = q4 at *
  generalize Rat.divInt (-17) 50 = q5 at *
  generalize Rat.divInt (-33) 100 = q6 at *
  clear hwa HQ
  go_enter Tryz.func55, Tryz.ntmps55
  go_wp2_with fail
  rw [← HWa.out]
  refine CF.out.mono ?_
  rintro e w2 ⟨B, cp, rfl, hcp, hfs, hb2⟩
  have HFS := Lib.hid hfs
  have CR2 := Lib.hid (CR.out.below hb2)
  have CD2 := Lib.hid (CD.out.below hb2)
  have HG2 := hG.below (bto hb hb2)
  replace hb := bto hb hb2
  have hcp2 := hcp
  clear hcp hfs hb2 CF CR CD
  go_wp2_with fail
  ((with_reducible refine (CR2.out.of HG2 (Below.refl _ _)).mono ?_); rintro e w3 ⟨rfl, hb3⟩)
  have hbA := below_alloc w3 (.cells #[.string ⟨(fN (q1)).toArray⟩, .string ⟨(fD (q1)).toArray⟩] 25)
  have x4 := FBox.new w3 (.string ⟨(fN (q1)).toArray⟩) (.string ⟨(fD (q1)).toArray⟩) 25
  have hb23 := bto hb3 hbA
  replace hb := bto hb hb23
  have HF3 := Lib.hid (HFS.out.below hb23)
  have CD3 := Lib.hid (CD2.out.below hb23)
  have HG3 := hG.below hb
  clear hb3 hbA hb23 CR2 CD2 HFS HG2
  go_wp2_with fail
  ((with_reducible refine (CD3.out.of HG3 (Below.refl _ _)).mono ?_); rintro e w4 ⟨rfl, hb4⟩)
  have hbA := below_alloc w4 (.cells #[.string ⟨(fN (q2)).toArray⟩, .string ⟨(fD (q2)).toArray⟩] 25)
  have x6 := FBox.new w4 (.string ⟨(fN (q2)).toArray⟩) (.string ⟨(fD (q2)).toArray⟩) 25
  have hb34 := bto hb4 hbA
  replace x4 := x4.below hb34
  replace hb := bto hb hb34
  have HF4 := Lib.hid (HF3.out.below hb34)
  clear hb4 hbA hb34 CD3 HF3 HG3
  go_wp2_with fail
  ((with_reducible refine (B1.out.of hG hb).mono ?_); rintro e w5 ⟨rfl, hb5⟩)
  have hbC := hb5
  replace x4 := x4.below hbC
  replace x6 := x6.below hbC
  replace hb := bto hb hbC
  have HF5 := Lib.hid (HF4.out.below hbC)
  clear hbC hb5 HF4 B1 
  go_wp2_with fail
  ((with_reducible refine (A1.out.of hG hb).mono ?_); rintro e w6 ⟨rfl, hb6⟩)
  have hbAx8 := below_alloc w6 (.cells #[.string ⟨(fN (q3)).toArray⟩, .string ⟨(fD (q3)).toArray⟩] 25)
  have x8 := FBox.new w6 (.string ⟨(fN (q3)).toArray⟩) (.string ⟨(fD (q3)).toArray⟩) 25
  have hbAx9 := below_alloc (w6.alloc (.cells #[.string ⟨(fN (q3)).toArray⟩, .string ⟨(fD (q3)).toArray⟩] 25)) (.cells #[.string ⟨(fN (q4)).toArray⟩, .string ⟨(fD (q4)).toArray⟩] 25)
  have x9 := FBox.new (w6.alloc (.cells #[.string ⟨(fN (q3)).toArray⟩, .string ⟨(fD (q3)).toArray⟩] 25)) (.string ⟨(fN (q4)).toArray⟩) (.string ⟨(fD (q4)).toArray⟩) 25
  replace x8 := x8.below hbAx9
  have hbC := (bto (bto hb6 hbAx8) hbAx9)
  replace x4 := x4.below hbC
  replace x6 := x6.below hbC
  replace hb := bto hb hbC
  have HF6 := Lib.hid (HF5.out.below hbC)
  clear hbC hb6 HF5 A1 hbAx8 hbAx9
  (try simp only [World.size_alloc] at x8 x9)
  go_wp2_with fail
  ((with_reducible refine (B2.out.of hG hb).mono ?_); rintro e w7 ⟨rfl, hb7⟩)
  have hbC := hb7
  replace x4 := x4.below hbC
  replace x6 := x6.below hbC
  replace x8 := x8.below hbC
  replace x9 := x9.below hbC
  replace hb := bto hb hbC
  have HF7 := Lib.hid (HF6.out.below hbC)
  clear hbC hb7 HF6 B2 
  go_wp2_with fail
  ((with_reducible refine (A2.out.of hG hb).mono ?_); rintro e w8 ⟨rfl, hb8⟩)
  have hbAx11 := below_alloc w8 (.cells #[.string ⟨(fN (q5)).toArray⟩, .string ⟨(fD (q5)).toArray⟩] 25)
  have x11 := FBox.new w8 (.string ⟨(fN (q5)).toArray⟩) (.string ⟨(fD (q5)).toArray⟩) 25
  have hbAx12 := below_alloc (w8.alloc (.cells #[.string ⟨(fN (q5)).toArray⟩, .string ⟨(fD (q5)).toArray⟩] 25)) (.cells #[.string ⟨(fN (q6)).toArray⟩, .string ⟨(fD (q6)).toArray⟩] 25)
  have x12 := FBox.new (w8.alloc (.cells #[.string ⟨(fN (q5)).toArray⟩, .string ⟨(fD (q5)).toArray⟩] 25)) (.string ⟨(fN (q6)).toArray⟩) (.string ⟨(fD (q6)).toArray⟩) 25
  replace x11 := x11.below hbAx12
  have hbC := (bto (bto hb8 hbAx11) hbAx12)
  replace x4 := x4.below hbC
  replace x6 := x6.below hbC
  replace x8 := x8.below hbC
  replace x9 := x9.below hbC
  replace hb := bto hb hbC
  have HF8 := Lib.hid (HF7.out.below hbC)
  clear hbC hb8 HF7 A2 hbAx11 hbAx12
  (try simp only [World.size_alloc] at x11 x12)
  go_wp2_with fail
  ((with_reducible refine (B3.out.of hG hb).mono ?_); rintro e w9 ⟨rfl, hb9⟩)
  have hbC := hb9
  replace x4 := x4.below hbC
  replace x6 := x6.below hbC
  replace x8 := x8.below hbC
  replace x9 := x9.below hbC
  replace x11 := x11.below hbC
  replace x12 := x12.below hbC
  replace hb := bto hb hbC
  have HF9 := Lib.hid (HF8.out.below hbC)
  clear hbC hb9 HF8 B3 
  go_wp2_with fail
  ((with_reducible refine (B4.out.of hG hb).mono ?_); rintro e w10 ⟨rfl, hb10⟩)
  have hbC := hb10
  replace x4 := x4.below hbC
  replace x6 := x6.below hbC
  replace x8 := x8.below hbC
  replace x9 := x9.below hbC
  replace x11 := x11.below hbC
  replace x12 := x12.below hbC
  replace hb := bto hb hbC
  have HF10 := Lib.hid (HF9.out.below hbC)
  clear hbC hb10 HF9 B4 
  go_wp2_with fail
  obtain ⟨wc, hwc⟩ : ∃ wc, wc = w10.alloc (.cells #[.string ⟨(fN k3).toArray⟩, .string ⟨(fD k3).toArray⟩, .string ⟨(fN k4).toArray⟩, .string ⟨(fD k4).toArray⟩] 25) := ⟨_, rfl⟩
  have hbC : Below w10.heap.size w10 wc := by rw [hwc]; exact below_alloc _ _
  have hfs2 : FsAt wc (some ⟨w10.heap.size, 0, none⟩) (frs [k3, k4]) := fun i t ht => by
    have hi := (List.getElem?_eq_some_iff.1 ht).1
    have hi : i = 0 ∨ i = 1 := by simp [frs] at hi; omega
    rw [hwc]
    rcases hi with rfl | rfl <;> (simp [frs] at ht; subst ht; exact ⟨w10.heap.size, 0, rfl, by simp, by simp [go_sem], by simp [go_sem]⟩)
  rw [← hwc]
  have CE := Lib.hid (eqFrs B (some ⟨w10.heap.size, 0, none⟩) (frs [k3, k4]) (frs [k3, k4]) 2 2 cp 2 wc rfl rfl (by decide) (by decide) (HF10.out.below hbC) hfs2)
  rw [sameFs_self] at CE
  replace hb := bto hb hbC
  replace x4 := x4.below hbC; replace x6 := x6.below hbC; replace x8 := x8.below hbC; replace x9 := x9.below hbC; replace x11 := x11.below hbC; replace x12 := x12.below hbC; skip
  clear hwc hbC hfs2 HF10
  ((with_reducible refine CE.out.mono ?_); rintro e w11 ⟨rfl, hb11⟩)
  replace x4 := x4.below hb11; replace x6 := x6.below hb11; replace x8 := x8.below hb11; replace x9 := x9.below hb11; replace x11 := x11.below hb11; replace x12 := x12.below hb11; skip
  replace hb := bto hb hb11
  clear hb11 CE
  go_wp2_with fail
  refine wp_region_kept (by kernel_rfl) (by kernel_rfl) ?_
  refine kept_val _ (fun _ => rfl) (fun ρ w hw => by go_simp; first | done | with_reducible rfl) ?_
  simp only [Act.put, List.setIfInBounds_toArray, List.set_cons_zero, List.set_cons_succ, Nat.reduceAdd]
  refine kept_val _ (fun _ => rfl) (fun ρ w hw => by go_simp; first | done | with_reducible rfl) ?_
  simp only [Act.put, List.setIfInBounds_toArray, List.set_cons_zero, List.set_cons_succ, Nat.reduceAdd]
  refine kept_val _ (fun _ => rfl) (fun ρ w hw => by have q0 := (x4.below hw).c0; have q1 := (x4.below hw).c1; go_simp; first | done | with_reducible rfl) ?_
  simp only [Act.put, List.setIfInBounds_toArray, List.set_cons_zero, List.set_cons_succ, Nat.reduceAdd]
  refine kept_call _ _ _ (fun _ => rfl) (fun ρ w hw => by go_simp; first | done | with_reducible rfl) (fun w hw => D1.out.of hG (bto hb hw)) ?_
  simp only [Act.put, List.setIfInBounds_toArray, List.set_cons_zero, List.set_cons_succ, Nat.reduceAdd]
  refine kept_val _ (fun _ => rfl) (fun ρ w hw => by go_simp; first | done | with_reducible rfl) ?_
  simp only [Act.put, List.setIfInBounds_toArray, List.set_cons_zero, List.set_cons_succ, Nat.reduceAdd]
  refine kept_val _ (fun _ => rfl) (fun ρ w hw => by go_simp; first | done | with_reducible rfl) ?_
  simp only [Act.put, List.setIfInBounds_toArray, List.set_cons_zero, List.set_cons_succ, Nat.reduceAdd]
  refine kept_val _ (fun _ => rfl) (fun ρ w hw => by go_simp; first | done | with_reducible rfl) ?_
  simp only [Act.put, List.setIfInBounds_toArray, List.set_cons_zero, List.set_cons_succ, Nat.reduceAdd]
  refine kept_val _ (fun _ => rfl) (fun ρ w hw => by have q0 := (x6.below hw).c0; have q1 := (x6.below hw).c1; go_simp; first | done | with_reducible rfl) ?_
  simp only [Act.put, List.setIfInBounds_toArray, List.set_cons_zero, List.set_cons_succ, Nat.reduceAdd]
  refine kept_call _ _ _ (fun _ => rfl) (fun ρ w hw => by go_simp; first | done | with_reducible rfl) (fun w hw => D2.out.of hG (bto hb hw)) ?_
  simp only [Act.put, List.setIfInBounds_toArray, List.set_cons_zero, List.set_cons_succ, Nat.reduceAdd]
  refine kept_val _ (fun _ => rfl) (fun ρ w hw => by go_simp; first | done | with_reducible rfl) ?_
  simp only [Act.put, List.setIfInBounds_toArray, List.set_cons_zero, List.set_cons_succ, Nat.reduceAdd]
  refine kept_val _ (fun _ => rfl) (fun ρ w hw => by go_simp; first | done | with_reducible rfl) ?_
  simp only [Act.put, List.setIfInBounds_toArray, List.set_cons_zero, List.set_cons_succ, Nat.reduceAdd]
  refine kept_val _ (fun _ => rfl) (fun ρ w hw => by go_simp; first | done | with_reducible rfl) ?_
  simp only [Act.put, List.setIfInBounds_toArray, List.set_cons_zero, List.set_cons_succ, Nat.reduceAdd]
  refine kept_val _ (fun _ => rfl) (fun ρ w hw => by have q0 := (x8.below hw).c0; have q1 := (x8.below hw).c1; go_simp; first | done | with_reducible rfl) ?_
  simp only [Act.put, List.setIfInBounds_toArray, List.set_cons_zero, List.set_cons_succ, Nat.reduceAdd]
  refine kept_call _ _ _ (fun _ => rfl) (fun ρ w hw => by go_simp; first | done | with_reducible rfl) (fun w hw => D3.out.of hG (bto hb hw)) ?_
  simp only [Act.put, List.setIfInBounds_toArray, List.set_cons_zero, List.set_cons_succ, Nat.reduceAdd]
  refine kept_val _ (fun _ => rfl) (fun ρ w hw => by go_simp; first | done | with_reducible rfl) ?_
  simp only [Act.put, List.setIfInBounds_toArray, List.set_cons_zero, List.set_cons_succ, Nat.reduceAdd]
  refine kept_val _ (fun _ => rfl) (fun ρ w hw => by go_simp; first | done | with_reducible rfl) ?_
  simp only [Act.put, List.setIfInBounds_toArray, List.set_cons_zero, List.set_cons_succ, Nat.reduceAdd]
  refine kept_val _ (fun _ => rfl) (fun ρ w hw => by go_simp; first | done | with_reducible rfl) ?_
  simp only [Act.put, List.setIfInBounds_toArray, List.set_cons_zero, List.set_cons_succ, Nat.reduceAdd]
  refine kept_val _ (fun _ => rfl) (fun ρ w hw => by have q0 := (x9.below hw).c0; have q1 := (x9.below hw).c1; go_simp; first | done | with_reducible rfl) ?_
  simp only [Act.put, List.setIfInBounds_toArray, List.set_cons_zero, List.set_cons_succ, Nat.reduceAdd]
  refine kept_call _ _ _ (fun _ => rfl) (fun ρ w hw => by go_simp; first | done | with_reducible rfl) (fun w hw => D4.out.of hG (bto hb hw)) ?_
  simp only [Act.put, List.setIfInBounds_toArray, List.set_cons_zero, List.set_cons_succ, Nat.reduceAdd]
  refine kept_val _ (fun _ => rfl) (fun ρ w hw => by go_simp; first | done | with_reducible rfl) ?_
  simp only [Act.put, List.setIfInBounds_toArray, List.set_cons_zero, List.set_cons_succ, Nat.reduceAdd]
  refine kept_val _ (fun _ => rfl) (fun ρ w hw => by go_simp; first | done | with_reducible rfl) ?_
  simp only [Act.put, List.setIfInBounds_toArray, List.set_cons_zero, List.set_cons_succ, Nat.reduceAdd]
  refine kept_val _ (fun _ => rfl) (fun ρ w hw => by go_simp; first | done | with_reducible rfl) ?_
  simp only [Act.put, List.setIfInBounds_toArray, List.set_cons_zero, List.set_cons_succ, Nat.reduceAdd]
  refine kept_val _ (fun _ => rfl) (fun ρ w hw => by have q0 := (x11.below hw).c0; have q1 := (x11.below hw).c1; go_simp; first | done | with_reducible rfl) ?_
  simp only [Act.put, List.setIfInBounds_toArray, List.set_cons_zero, List.set_cons_succ, Nat.reduceAdd]
  refine kept_call _ _ _ (fun _ => rfl) (fun ρ w hw => by go_simp; first | done | with_reducible rfl) (fun w hw => D5.out.of hG (bto hb hw)) ?_
  simp only [Act.put, List.setIfInBounds_toArray, List.set_cons_zero, List.set_cons_succ, Nat.reduceAdd]
  refine kept_val _ (fun _ => rfl) (fun ρ w hw => by go_simp; first | done | with_reducible rfl) ?_
  simp only [Act.put, List.setIfInBounds_toArray, List.set_cons_zero, List.set_cons_succ, Nat.reduceAdd]
  refine kept_val _ (fun _ => rfl) (fun ρ w hw => by go_simp; first | done | with_reducible rfl) ?_
  simp only [Act.put, List.setIfInBounds_toArray, List.set_cons_zero, List.set_cons_succ, Nat.reduceAdd]
  refine kept_val _ (fun _ => rfl) (fun ρ w hw => by go_simp; first | done | with_reducible rfl) ?_
  simp only [Act.put, List.setIfInBounds_toArray, List.set_cons_zero, List.set_cons_succ, Nat.reduceAdd]
  refine kept_val _ (fun _ => rfl) (fun ρ w hw => by have q0 := (x12.below hw).c0; have q1 := (x12.below hw).c1; go_simp; first | done | with_reducible rfl) ?_
  simp only [Act.put, List.setIfInBounds_toArray, List.set_cons_zero, List.set_cons_succ, Nat.reduceAdd]
  refine kept_call _ _ _ (fun _ => rfl) (fun ρ w hw => by go_simp; first | done | with_reducible rfl) (fun w hw => D6.out.of hG (bto hb hw)) ?_
  simp only [Act.put, List.setIfInBounds_toArray, List.set_cons_zero, List.set_cons_succ, Nat.reduceAdd]
  refine kept_val _ (fun _ => rfl) (fun ρ w hw => by go_simp; first | done | with_reducible rfl) ?_
  simp only [Act.put, List.setIfInBounds_toArray, List.set_cons_zero, List.set_cons_succ, Nat.reduceAdd]
  refine kept_val _ (fun _ => rfl) (fun ρ w hw => by go_simp; first | done | with_reducible rfl) ?_
  simp only [Act.put, List.setIfInBounds_toArray, List.set_cons_zero, List.set_cons_succ, Nat.reduceAdd]
  refine kept_val _ (fun _ => rfl) (fun ρ w hw => by go_simp; first | done | with_reducible rfl) ?_
  simp only [Act.put, List.setIfInBounds_toArray, List.set_cons_zero, Nat.reduceAdd]
  refine kept_end (fun ρ w12 hF => ?_)
  have hbF := hF.below
  replace hb := bto hb hbF
  clear hF hbF
  go_wp2
  go_ret
  exact ⟨rfl, hb⟩
end Go.Proofs.YtgnppdkeiihlfaaGreatDoor
namespace Go.Proofs.YtgnppdkeiihlfaaGreatDoor
open Go.RowKit Num
theorem qGreatB {l : List UInt8} : Ret 54 #[.string ⟨l.toArray⟩] (.bool (decide (60 < l.length))) := qGreat rfl
/-- what Great and fine say -/
def GEnd (G : Bool → Prop) (w : World) (e : Ending) (w' : World) : Prop := ∃ b, e = .returned (.bool b) ∧ G b ∧ Below w.heap.size w w'
theorem gend {G : Bool → Prop} {w w' : World} {b : Bool} (h : G b) (hb : Below w.heap.size w w') : GEnd G w (.returned (.bool b)) w' := ⟨b, rfl, h, hb⟩
set_option maxHeartbeats 4000000 in
set_option maxRecDepth 100000 in
theorem rGreat46 (A : Option Addr) (ts : List Pnt) (n c : Nat) (w : World) (hG : Glob w) (hn : ts.length = n) (hn2 : n ≤ 9223372036854775807) (h : PntAt w A ts) :
    Calls Tryz.prog 111 #[.slice A n c] w (GEnd (fun b => b = false → QL w A ts n) w) := by
  have HI := Lib.hid h
  have hn1 : ts.length ≤ n := by omega
  have hn3 : n ≤ ts.length := by omega
  have HN := Lib.hid hn
  clear h hn
  go_enter Tryz.func111, Tryz.ntmps111
  go_wp2_with fail
  go_loopw [3] (fun iv wr => ∃ k : Nat, k ≤ n ∧ iv = .int .i64 (k : Int) ∧ Hid (∀ i t, i < k → ts[i]? = some t → t.vl.length ≤ 60 ∧ t.fl.length ≤ 60) ∧ Below w.heap.size w wr) (fun iv _ => n - (intOf iv).toNat)
  case atStart => exact ⟨0, Nat.zero_le _, rfl, fun i t hi => absurd hi (Nat.not_lt_zero _), Below.refl _ _⟩
  case round =>
    obtain ⟨k, hk, rfl, HK, hb⟩ := hrel
    by_cases hlt : k < n
    · obtain ⟨t, ht⟩ : ∃ t, ts[k]? = some t := ⟨_, List.getElem?_eq_getElem (by omega)⟩
      obtain ⟨b, o, rfl, hbs, p0, p1, p2⟩ := (HI.out.below hb) k t ht
      have HT := Lib.hid ht
      have C1 := Lib.hid (qGreatB (l := t.vl))
      have C2 := Lib.hid (qGreatB (l := t.fl))
      clear ht p0
      by_cases g1 : 60 < t.vl.length
      · have e1 : decide (60 < t.vl.length) = true := decide_eq_true g1
        rw [e1] at C1
        clear g1 e1
        go_wp2_with fail
        ((with_reducible refine (C1.out.of hG hb).mono ?_); rintro e w2 ⟨rfl, hb2⟩)
        replace hb := bto hb hb2
        clear hb2 p1 p2 C2
        go_wp2
        go_ret
        exact gend (fun h => by cases h) hb
      have e1 : decide (60 < t.vl.length) = false := decide_eq_false g1
      rw [e1] at C1
      by_cases g2 : 60 < t.fl.length
      · have e2 : decide (60 < t.fl.length) = true := decide_eq_true g2
        rw [e2] at C2
        clear g1 g2 e1 e2
        go_wp2_with fail
        ((with_reducible refine (C1.out.of hG hb).mono ?_); rintro e w2 ⟨rfl, hb2⟩)
        replace p2 := (hb2.cell (p := ⟨b, o + k * 3 + 2, none⟩) hbs).trans p2
        replace hb := bto hb hb2
        clear hb2 p1
        go_wp2_with fail
        ((with_reducible refine (C2.out.of hG hb).mono ?_); rintro e w3 ⟨rfl, hb3⟩)
        replace hb := bto hb hb3
        clear hb3 p2
        go_wp2
        go_ret
        exact gend (fun h => by cases h) hb
      have e2 : decide (60 < t.fl.length) = false := decide_eq_false g2
      rw [e2] at C2
      have HK2 : Hid (∀ i t, i < k + 1 → ts[i]? = some t → t.vl.length ≤ 60 ∧ t.fl.length ≤ 60) := fun i x hi hx => by
        by_cases hik : i < k
        · exact HK.out i x hik hx
        · obtain rfl : i = k := by omega
          have := HT.out
          rw [hx] at this
          injection this with this
          subst this
          omega
      clear g1 g2 e1 e2 HK HT
      go_wp2_with fail
      ((with_reducible refine (C1.out.of hG hb).mono ?_); rintro e w2 ⟨rfl, hb2⟩)
      replace p2 := (hb2.cell (p := ⟨b, o + k * 3 + 2, none⟩) hbs).trans p2
      replace hb := bto hb hb2
      clear hb2 p1
      go_wp2_with fail
      ((with_reducible refine (C2.out.of hG hb).mono ?_); rintro e w3 ⟨rfl, hb3⟩)
      replace hb := bto hb hb3
      clear hb3 p2
      go_wp2
      go_roundw
      case rel => exact ⟨k + 1, by omega, by go_num, HK2.out, hb⟩
      case measure => simp [intOf]; omega
    · have HS : Hid (∀ t ∈ ts, t.vl.length ≤ 60 ∧ t.fl.length ≤ 60) := fun t ht => by
        obtain ⟨i, hi⟩ := List.mem_iff_getElem?.1 ht
        exact HK.out i t (by have := (List.getElem?_eq_some_iff.1 hi).1; omega) hi
      clear HK
      by_cases h12 : 12 < n
      · have e1 : decide (12 < n) = true := decide_eq_true h12
        by_cases h400 : n ≤ 400
        · have e2 : decide (n ≤ 400) = true := decide_eq_true h400
          go_wp2
          go_ret
          exact gend (fun h => by first | cases h | (simp at h; omega)) hb
        · have e2 : decide (n ≤ 400) = false := decide_eq_false h400
          by_cases h403 : 403 < n
          · have e3 : decide (403 < n) = true := decide_eq_true h403
            go_wp2
            go_ret
            exact gend (fun h => by first | cases h | (simp at h; omega)) hb
          · have e3 : decide (403 < n) = false := decide_eq_false h403
            go_wp2
            go_ret
            exact gend (fun _ => ⟨HN.out, by omega, by omega, HS.out, HI.out⟩) hb
      · have e1 : decide (12 < n) = false := decide_eq_false h12
        have e3 : decide (403 < n) = false := decide_eq_false (by omega)
        go_wp2
        go_ret
        exact gend (fun _ => ⟨HN.out, by omega, by omega, HS.out, HI.out⟩) hb
set_option maxHeartbeats 1000000 in
set_option maxRecDepth 100000 in
theorem rFine (A : Option Addr) (ts : List Pnt) (n c : Nat) (w : World) (hG : Glob w) (hn : ts.length = n) (hn2 : n ≤ 9223372036854775807) (h : PntAt w A ts) :
    Calls Tryz.prog 51 #[.slice A n c] w (GEnd (fun b => b = true → QL w A ts n ∧ pntE ts = 0) w) := by
  have C1 := Lib.hid (rGreat46 A ts n c w hG hn hn2 h)
  clear hn h
  go_enter Tryz.func51, Tryz.ntmps51
  go_wp2_with fail
  refine C1.out.mono ?_
  rintro e w2 ⟨b, rfl, hq, hb⟩
  cases b
  rotate_left
  · clear hq
    go_wp2
    go_ret
    exact gend (fun h => by cases h) hb
  have h := hq rfl
  have HQ := Lib.hid h
  have C2 := Lib.hid (rwCheckB hG h c)
  clear hq h
  by_cases g : pntE ts = 0
  · rw [g] at C2
    have HG := Lib.hid g
    clear g
    go_wp2_with fail
    ((with_reducible refine (C2.out.of hG hb).mono ?_); rintro e w3 ⟨rfl, hb3⟩)
    replace hb := bto hb hb3
    go_wp2
    go_ret
    exact gend (fun _ => ⟨HQ.out, HG.out⟩) hb
  · have e1 : (pntE ts == 0) = false := intbne g
    generalize pntE ts = E at *
    clear g
    go_wp2_with fail
    ((with_reducible refine (C2.out.of hG hb).mono ?_); rintro e w3 ⟨rfl, hb3⟩)
    replace hb := bto hb hb3
    go_wp2
    go_ret
    exact gend (fun h => by first | cases h | simp_all) hb
/-! rows written in place -/
theorem rowsQ_setF : ∀ {xs : List Pnt} {i : Nat} {x : Pnt} (a : List UInt8), xs[i]? = some x → (rowsQ xs).set (i * 3 + 2) (.string ⟨a.toArray⟩) = rowsQ (xs.set i ⟨x.day, x.vl, a⟩)
  | [], i, x, a, h => by simp at h
  | y :: xs, 0, x, a, h => by
    have : y = x := by simpa using h
    subst this; rfl
  | y :: xs, i + 1, x, a, h => by
    have h1 := rowsQ_setF (xs := xs) (i := i) (x := x) a (by simpa using h)
    rw [rowsQ_cons, show (i + 1) * 3 + 2 = (i * 3 + 2) + 1 + 1 + 1 by omega, List.set_cons_succ, List.set_cons_succ, List.set_cons_succ, h1]; rfl
theorem rowsQ_setV : ∀ {xs : List Pnt} {i : Nat} {x : Pnt} (a : List UInt8), xs[i]? = some x → (rowsQ xs).set (i * 3 + 1) (.string ⟨a.toArray⟩) = rowsQ (xs.set i ⟨x.day, a, x.fl⟩)
  | [], i, x, a, h => by simp at h
  | y :: xs, 0, x, a, h => by
    have : y = x := by simpa using h
    subst this; rfl
  | y :: xs, i + 1, x, a, h => by
    have h1 := rowsQ_setV (xs := xs) (i := i) (x := x) a (by simpa using h)
    rw [rowsQ_cons, show (i + 1) * 3 + 1 = (i * 3 + 1) + 1 + 1 + 1 by omega, List.set_cons_succ, List.set_cons_succ, List.set_cons_succ, h1]; rfl
/-- the first k are turned -/
def mixF (f : Pnt → Pnt) (ts : List Pnt) (k : Nat) : List Pnt := (ts.take k).map f ++ ts.drop k
theorem mix_zero (f : Pnt → Pnt) (ts : List Pnt) : mixF f ts 0 = ts := rfl
theorem mix_all {f : Pnt → Pnt} {ts : List Pnt} {k : Nat} (h : ts.length ≤ k) : mixF f ts k = ts.map f := by
  unfold mixF; rw [List.take_of_length_le h, List.drop_of_length_le h, List.append_nil]
theorem mix_len (f : Pnt → Pnt) (ts : List Pnt) (k : Nat) : (mixF f ts k).length = ts.length := by
  unfold mixF; simp; omega
theorem mix_at {f : Pnt → Pnt} {ts : List Pnt} {k : Nat} {t : Pnt} (h : ts[k]? = some t) : (mixF f ts k)[k]? = some t := by
  obtain ⟨hk, rfl⟩ := List.getElem?_eq_some_iff.1 h
  unfold mixF
  rw [List.getElem?_append_right (by simp; omega), List.length_map, List.length_take, Nat.min_eq_left (Nat.le_of_lt hk), Nat.sub_self, List.getElem?_drop, Nat.add_zero]
  exact h
theorem mix_set {f : Pnt → Pnt} {ts : List Pnt} {k : Nat} {t : Pnt} (h : ts[k]? = some t) : (mixF f ts k).set k (f t) = mixF f ts (k + 1) := by
  obtain ⟨hk, rfl⟩ := List.getElem?_eq_some_iff.1 h
  unfold mixF
  rw [List.set_append_right _ _ (by simp; omega), List.length_map, List.length_take, Nat.min_eq_left (Nat.le_of_lt hk), Nat.sub_self, List.drop_eq_getElem_cons hk, List.set_cons_zero, take_snoc h, List.map_append, List.append_assoc]
  rfl
set_option maxHeartbeats 1000000 in
set_option maxRecDepth 100000 in
theorem cloneQ0 (A : Option Addr) (c : Nat) (w : World) :
    Calls Tryz.prog 57 #[.slice A 0 c] w fun e w' => ∃ B cp, e = .returned (.slice B 0 cp) ∧ Below w.heap.size w w' := by
  cases A with
  | none =>
    refine (AnyE.slices_Clone_nil Tryz.clonePnt 0 c w).mono ?_
    rintro e w' ⟨rfl, rfl⟩
    exact ⟨none, 0, rfl, Below.refl _ _⟩
  | some a =>
    obtain ⟨i0, hi, hz0, hz1, hz2⟩ := info_parts info_pnt
    have q22 : ∀ w, (binOp .eql 72 (.slice (some a) 0 c) (.slice none 0 0)).run Tryz.prog w = .ok (.bool false) w := fun w => Lib.run_eql_slice_nil w _ _ (some a) 0 c 0 0 Tryz.underlying72
    go_enter Tryz.func57, Tryz.ntmps57
    go_wp2_with (at_builtin; refine wpList_append_own _ rfl _ _ 72 rfl w.heap.size 74 i0 (.agg #[.int .i64 0, .string ⟨#[]⟩, .string ⟨#[]⟩]) 3 40 Tryz.underlying72 hi hz0 hz1 hz2 rfl (by decide) _ _ _ rfl (World.ownsRow_made w #[] 0 (Nat.le_refl _) (Nat.zero_le _) (by simp)) a 0 c [] rfl ?qc1 ?qc2 ?qc3 ?qc4 ?qc5 ?qc6 ?_)
    case qc1 => rfl
    case qc2 => intro j u hu; simp at hu
    case qc3 => intro u hu; simp at hu
    case qc4 => unfold maxLen; omega
    case qc5 => omega
    case qc6 => simp
    intro v' w' hown hgrow _
    obtain ⟨B, cp, rfl⟩ : ∃ B cp, v' = .slice B 0 cp := by
      rcases hown.2 with ⟨rfl, -⟩ | ⟨g, cap, cur, rfl, -⟩
      · exact ⟨_, _, rfl⟩
      · exact ⟨_, _, rfl⟩
    have hb := Below.grown (below_alloc w (.cells #[] 74)) hgrow (by simp) (fun k hk => by simp [Value.ownBlock] at hk; omega)
    go_wp2
    go_ret
    exact ⟨_, _, rfl, hb⟩
end Go.Proofs.YtgnppdkeiihlfaaGreatDoor
namespace Go.Proofs.YtgnppdkeiihlfaaGreatDoor
open Num
theorem facs_cut : ∀ (l : List PT) (k : Nat), k < l.length → facs l = facs (l.take (k + 1)) ++ facs (l.drop k)
  | [], k, h => by simp at h
  | a :: r, 0, _ => by
    show facs (a :: r) = facs [a] ++ facs (a :: r)
    rfl
  | [a], k + 1, h => by simp at h
  | a :: b :: r, k + 1, h => by
    have ih := facs_cut (b :: r) k (by simpa using h)
    show Rat.divInt b.2.1 (a.2.1 + a.2.2) :: facs (b :: r) = Rat.divInt b.2.1 (a.2.1 + a.2.2) :: facs ((b :: r).take (k + 1)) ++ facs ((b :: r).drop k)
    rw [ih]; rfl
theorem facs_mid (x : PT) (hx : 0 < x.2.1) (h0 : x.2.2 = 0) : ∀ (l : List PT) (k : Nat), 1 ≤ k → k < l.length → ∀ y : Rat, prodQ y (facs (l.take k ++ x :: l.drop k)) = prodQ y (facs l)
  | [], k, h1, h2, y => by simp at h2
  | [a], k, h1, h2, y => by simp at h2; omega
  | a :: b :: r, 0, h1, h2, y => by omega
  | a :: b :: r, 1, h1, h2, y => by
    show prodQ (y * Rat.divInt x.2.1 (a.2.1 + a.2.2) * Rat.divInt b.2.1 (x.2.1 + x.2.2)) (facs (b :: r)) = prodQ (y * Rat.divInt b.2.1 (a.2.1 + a.2.2)) (facs (b :: r))
    congr 1
    rw [h0, Int.add_zero, divInt_div, divInt_div, divInt_div]
    have n1 := intq_ne (show x.2.1 ≠ 0 by omega)
    generalize ((a.2.1 + a.2.2 : Int) : Rat) = s
    grind
  | a :: b :: r, k + 2, h1, h2, y => by
    have ih := facs_mid x hx h0 (b :: r) (k + 1) (by omega) (by simpa using h2) (y * Rat.divInt b.2.1 (a.2.1 + a.2.2))
    show prodQ y (facs (a :: b :: ((r.take k) ++ x :: r.drop k))) = prodQ (y * Rat.divInt b.2.1 (a.2.1 + a.2.2)) (facs (b :: r))
    rw [← ih]
    rfl
/-- the points of a period -/
def inPer (a b : Int) (t : Pnt) : Bool := decide (a ≤ t.day) && decide (t.day ≤ b)
theorem filter_take : ∀ (ts : List Pnt) (o : Option Int) (k : Nat) (z : Pnt) (a : Int), UpD o ts → ts[k]? = some z → (∀ t ∈ ts, a ≤ t.day) → ts.filter (inPer a z.day) = ts.take (k + 1)
  | [], _, k, z, a, _, h, _ => by simp at h
  | p :: r, o, 0, z, a, hu, h, hl => by
    have : p = z := by simpa using h
    subst this
    rw [List.filter_cons, if_pos (by unfold inPer; simp [hl p (by simp)])]
    show p :: _ = [p]
    congr 1
    rw [List.filter_eq_nil_iff]
    intro t ht
    obtain ⟨i, hi⟩ := List.mem_iff_getElem?.1 ht
    have := upD_le hu.2 hi p.day rfl
    unfold inPer
    simp
    omega
  | p :: r, o, k + 1, z, a, hu, h, hl => by
    have hz : r[k]? = some z := by simpa using h
    have h1 := upD_le hu.2 hz p.day rfl
    rw [List.filter_cons, if_pos (by unfold inPer; simp [hl p (by simp)]; omega)]
    show _ = p :: r.take (k + 1)
    rw [filter_take r (some p.day) k z a hu.2 hz (fun t ht => hl t (List.mem_cons_of_mem _ ht))]
theorem filter_drop : ∀ (ts : List Pnt) (o : Option Int) (k : Nat) (z : Pnt) (b : Int), UpD o ts → ts[k]? = some z → (∀ t ∈ ts, t.day ≤ b) → ts.filter (inPer z.day b) = ts.drop k
  | [], _, k, z, b, _, h, _ => by simp at h
  | p :: r, o, 0, z, b, hu, h, hl => by
    have : p = z := by simpa using h
    subst this
    rw [List.drop_zero, List.filter_eq_self]
    intro t ht
    obtain ⟨i, hi⟩ := List.mem_iff_getElem?.1 ht
    have h1 := hl t ht
    unfold inPer
    cases i with
    | zero =>
      have : p = t := by simpa using hi
      subst this; simpa using h1
    | succ i =>
      have := upD_le (ts := r) (k := i) hu.2 (by simpa using hi) p.day rfl
      simp; omega
  | p :: r, o, k + 1, z, b, hu, h, hl => by
    have hz : r[k]? = some z := by simpa using h
    have h1 := upD_le hu.2 hz p.day rfl
    rw [List.filter_cons, if_neg (by unfold inPer; simp; omega)]
    show _ = r.drop k
    exact filter_drop r (some p.day) k z b hu.2 hz (fun t ht => hl t (List.mem_cons_of_mem _ ht))
end Go.Proofs.YtgnppdkeiihlfaaGreatDoor
namespace Go.Proofs.YtgnppdkeiihlfaaGreatDoor
open Go.RowKit Num
theorem run_clear_many {P : Program} (w : World) (t e ty : TypeId) (z : Value) (ht : P.underlying t = some (.slice e)) (hv : ∀ w, (zeroValue e).run P w = .ok z w) (m : Nat) (hm : 0 < m) (h1 : ∀ u ∈ (Builtin.zeroCells z.cells m).toList, u.oneCell' = true) (b o c : Nat)
    (hc : ∀ j, j < (Builtin.zeroCells z.cells m).toList.length → (w.cell? ⟨b, o + j, none⟩).isSome = true) (hf : ∀ j, j < (Builtin.zeroCells z.cells m).toList.length → w.frozen? ⟨b, o + j, none⟩ = false) :
    (Builtin.clear_ #[t] ty #[.slice (some ⟨b, o, none⟩) m c]).run P w = .ok (.tuple #[]) (w.setCells b o (Builtin.zeroCells z.cells m).toList) := by
  have hst := run_storeCells_cells (P := P) b o (Builtin.zeroCells z.cells m).toList 0 w hc hf h1
  simp only [Nat.add_zero] at hst
  obtain ⟨k, rfl⟩ : ∃ k, m = k + 1 := ⟨m - 1, by omega⟩
  simp [Builtin.clear_, run_underlying ht, hv, hst]
theorem zero_len (cs : Array Value) (m : Nat) : (Builtin.zeroCells cs m).toList.length = m * cs.size := by unfold Builtin.zeroCells; simp
theorem zero_mem {cs : Array Value} {m : Nat} {u : Value} (h : u ∈ (Builtin.zeroCells cs m).toList) (hp : ∀ v ∈ cs.toList, v.oneCell' = true) : u.oneCell' = true := by
  obtain ⟨i, hi⟩ := List.mem_iff_getElem?.1 h
  obtain ⟨hlt, rfl⟩ := List.getElem?_eq_some_iff.1 hi
  have hl : i < m * cs.size := by rw [← zero_len]; exact hlt
  have hcs : 0 < cs.size := by
    rcases Nat.eq_zero_or_pos cs.size with h | h
    · rw [h, Nat.mul_zero] at hl; omega
    · exact h
  have hm := Nat.mod_lt i hcs
  refine hp _ ?_
  unfold Builtin.zeroCells
  simp [hm]
section
variable {w w' : World} {g b i : Nat} {ty : TypeId} {cs : List Value} {u v : Value}
theorem CRow.pre (h : CRow w g ty cs) (k : Nat) : CRow w g ty (cs.take k) := by
  obtain ⟨cur, hh, ht, hs⟩ := h
  refine ⟨cur, hh, ?_, by rw [List.length_take]; omega⟩
  conv => rhs; rw [← ht]
  rw [List.take_take, List.length_take]
theorem CRow.setMany : ∀ (vs : List Value) (o : Nat) (w : World), CRow w g ty cs → cs.length ≤ o → CRow (w.setCells g o vs) g ty cs
  | [], _, _, h, _ => h
  | v :: r, o, _, h, hl => by
    have h1 := h.set o v
    rw [List.set_eq_of_length_le hl] at h1
    exact CRow.setMany r (o + 1) _ h1 (by omega)
theorem below_many {w0 : World} (hg : w0.heap.size ≤ g) : ∀ (vs : List Value) (o : Nat) (w : World), Below w0.heap.size w0 w → Below w0.heap.size w0 (w.setCells g o vs)
  | [], _, _, h => h
  | v :: r, o, _, h => below_many hg r (o + 1) _ (h.setCell (p := ⟨g, o, none⟩) hg v)
end
theorem rowsQ_set3 {xs : List Pnt} {i : Nat} (t : Pnt) {x : Pnt} (h : xs[i]? = some x) : (((rowsQ xs).set (i * 3) (.int .i64 t.day)).set (i * 3 + 1) (.string ⟨t.vl.toArray⟩)).set (i * 3 + 2) (.string ⟨t.fl.toArray⟩) = rowsQ (xs.set i t) := by
  induction xs generalizing i with
  | nil => simp at h
  | cons y xs ih =>
    cases i with
    | zero => rfl
    | succ i =>
      have h1 := ih (i := i) (by simpa using h)
      rw [rowsQ_cons, show (i + 1) * 3 = i * 3 + 1 + 1 + 1 by omega]
      show (.int .i64 y.day :: .string ⟨y.vl.toArray⟩ :: .string ⟨y.fl.toArray⟩ :: (((rowsQ xs).set (i * 3) _).set (i * 3 + 1) _).set (i * 3 + 2) _) = _
      rw [h1]; rfl
def idxP (a b : Int) : List Pnt → Nat → Int
  | [], _ => -1
  | t :: r, k => if inPer a b t = true then idxP a b r (k + 1) else (k : Int)
theorem idxP_drop {a b : Int} {zs : List Pnt} {k : Nat} {y : Pnt} (h : zs[k]? = some y) : idxP a b (zs.drop k) k = if inPer a b y = true then idxP a b (zs.drop (k + 1)) (k + 1) else (k : Int) := by
  obtain ⟨hk, rfl⟩ := List.getElem?_eq_some_iff.1 h
  rw [List.drop_eq_getElem_cons hk]; rfl
theorem idxP_cases (a b : Int) : ∀ (zs : List Pnt) (k : Nat), (idxP a b zs k = -1 ∧ zs.filter (inPer a b) = zs) ∨ ∃ i : Nat, i < zs.length ∧ idxP a b zs k = ((k + i : Nat) : Int) ∧ (zs.take i).filter (inPer a b) = zs.take i ∧ ∃ t, zs[i]? = some t ∧ inPer a b t = false
  | [], _ => .inl ⟨rfl, rfl⟩
  | t :: r, k => by
    cases h : inPer a b t
    · exact .inr ⟨0, by simp, by show (if inPer a b t = true then _ else (k : Int)) = _; rw [h]; rfl, rfl, t, rfl, h⟩
    · have e : idxP a b (t :: r) k = idxP a b r (k + 1) := by show (if inPer a b t = true then _ else (k : Int)) = _; rw [h]; rfl
      rcases idxP_cases a b r (k + 1) with ⟨h1, h2⟩ | ⟨i, h1, h2, h3, x, h4, h5⟩
      · exact .inl ⟨by rw [e, h1], by rw [List.filter_cons, if_pos h, h2]⟩
      · exact .inr ⟨i + 1, by simp; omega, by rw [e, h2]; congr 1; omega, by rw [List.take_succ_cons, List.filter_cons, if_pos h, h3], x, by simpa using h4, h5⟩
end Go.Proofs.YtgnppdkeiihlfaaGreatDoor
namespace Go.Proofs.YtgnppdkeiihlfaaGreatDoor
open Num
theorem pntL_last {z z' : Pnt} (h1 : z'.day = z.day) (h2 : z'.vl = z.vl) (h3 : z'.fl = canon (val z'.fl)) (h4 : ¬ longB z'.fl = true) : ∀ (r : List Pnt) (o : Option Int), pntL o (r ++ [z]) = 0 → pntL o (r ++ [z']) = 0
  | [], o, h => by
    have h : pntL o [z] = 0 := h
    show pntL o [z'] = 0
    unfold pntL at h ⊢
    rw [h1, h2]
    by_cases g1 : dayB z.day = false
    · rw [if_pos g1] at h; cases h
    rw [if_neg g1] at h ⊢
    by_cases g2 : z.vl = canon (val z.vl)
    rotate_left
    · rw [if_pos g2] at h; cases h
    rw [if_neg (fun h => h g2)] at h ⊢
    rw [if_neg (fun h => h h3)]
    by_cases g3 : z.fl = canon (val z.fl)
    rotate_left
    · rw [if_pos g3] at h; cases h
    rw [if_neg (fun h => h g3)] at h
    by_cases g7 : longB z.vl = true
    · rw [if_pos g7] at h; cases h
    rw [if_neg g7] at h ⊢
    rw [if_neg h4]
    by_cases g8 : longB z.fl = true
    · rw [if_pos g8] at h; cases h
    rw [if_neg g8] at h
    by_cases g4 : ordB o z.day = true
    · rw [if_pos g4] at h; cases h
    rw [if_neg g4] at h ⊢
    by_cases g5 : val z.vl < 0
    · rw [if_pos g5] at h; cases h
    rw [if_neg g5]
    rw [if_neg (fun h => h.1 rfl)]
    rfl
  | p :: r, o, h => by
    have h : pntL o (p :: (r ++ [z])) = 0 := h
    show pntL o (p :: (r ++ [z'])) = 0
    unfold pntL at h ⊢
    simp only [ne_eq, List.append_eq_nil_iff, List.cons_ne_self, and_false, not_false_eq_true, true_and] at h ⊢
    split at h
    · cases h
    rename_i g1
    rw [if_neg g1]
    split at h
    · cases h
    rename_i g2
    rw [if_neg g2]
    split at h
    · cases h
    rename_i g3
    rw [if_neg g3]
    split at h
    · cases h
    rename_i g4
    rw [if_neg g4]
    split at h
    · cases h
    rename_i g5
    rw [if_neg g5]
    split at h
    · cases h
    rename_i g6
    rw [if_neg g6]
    split at h
    · cases h
    rename_i g7
    rw [if_neg g7]
    split at h
    · cases h
    rename_i g8
    rw [if_neg g8]
    exact pntL_last h1 h2 h3 h4 r (some p.day) h
theorem last_split {ts : List Pnt} {m : Nat} {z : Pnt} (hn : ts.length = m + 1) (hz : ts[m]? = some z) : ts = ts.take m ++ [z] := by
  rw [← take_snoc hz, List.take_of_length_le (by omega)]
theorem set_last {ts : List Pnt} {m : Nat} {z z' : Pnt} (hn : ts.length = m + 1) (hz : ts[m]? = some z) : ts.set m z' = ts.take m ++ [z'] := by
  conv => lhs; rw [last_split hn hz]
  rw [List.set_append_right _ _ (by simp; omega), List.length_take, Nat.min_eq_left (by omega), Nat.sub_self]
  rfl
theorem pts_app (a b : List Pnt) : pts (a ++ b) = pts a ++ pts b := List.map_append ..
/-- a canonical string that is not long -/
theorem short_not_long {l : List UInt8} (h : l.length ≤ 40) : ¬ longB l = true := fun h2 => by
  have h3 : 40 < digN l := of_decide_eq_true h2
  have := (digN_le l).2
  omega
theorem last_same {ts : List Pnt} {m : Nat} {z : Pnt} {f : List UInt8} (hm : 1 ≤ m) (hn : ts.length = m + 1) (hz : ts[m]? = some z) (h0 : pntE ts = 0) (hc : f = canon (val f)) (hl : f.length ≤ 40) :
    pntE (ts.set m ⟨z.day, z.vl, f⟩) = 0 ∧ facs (pts (ts.set m ⟨z.day, z.vl, f⟩)) = facs (pts ts) ∧ gainP (pts (ts.set m ⟨z.day, z.vl, f⟩)) = gainP (pts ts) ∧ capP (pts (ts.set m ⟨z.day, z.vl, f⟩)) = capP (pts ts) := by
  have hs := set_last (z' := ⟨z.day, z.vl, f⟩) hn hz
  have ht := last_split hn hz
  have hE : pntE (ts.set m ⟨z.day, z.vl, f⟩) = 0 := by
    have h1 := pntE_ok h0
    unfold pntE at h0 ⊢
    rw [List.length_set]
    rw [if_neg (by omega), if_neg (by omega)] at h0 ⊢
    rw [hs]
    rw [ht] at h0
    exact pntL_last (z := z) (z' := ⟨z.day, z.vl, f⟩) rfl rfl hc (short_not_long hl) (ts.take m) none h0
  have e1 : pts (ts.set m ⟨z.day, z.vl, f⟩) = pts (ts.take m) ++ [(z.day, val z.vl, val f)] := by rw [hs, pts_app]; rfl
  have e2 : pts ts = pts (ts.take m) ++ [(z.day, val z.vl, val z.fl)] := by
    conv => lhs; rw [ht]
    rw [pts_app]; rfl
  refine ⟨hE, ?_⟩
  rw [e1, e2]
  refine ⟨facs_last _ _ _ _ _, ?_⟩
  cases hp : pts (ts.take m) with
  | nil =>
    have := pts_len (ts.take m)
    rw [hp, List.length_take] at this
    simp at this
    omega
  | cons a r => exact gain_last a r _ _ _ _
theorem last_vals {ts : List Pnt} {m : Nat} {z : Pnt} {f : List UInt8} (hm : 1 ≤ m) (hn : ts.length = m + 1) (hz : ts[m]? = some z) (h0 : pntE ts = 0) (hc : f = canon (val f)) (hl : f.length ≤ 40) :
    pntE (ts.set m ⟨z.day, z.vl, f⟩) = 0 ∧ retV (ts.set m ⟨z.day, z.vl, f⟩) = retV ts ∧ dtzV (ts.set m ⟨z.day, z.vl, f⟩) = dtzV ts := by
  obtain ⟨h1, h2, h3, h4⟩ := last_same hm hn hz h0 hc hl
  refine ⟨h1, ?_, ?_⟩
  · unfold retV; rw [h1, h2, h0]
  · unfold dtzV; rw [h1, h3, h4, h0, List.length_set]
/-- what a valid series returns -/
theorem ret_form {ts : List Pnt} (h : pntE ts = 0) : retV ts = .tuple #[(Value.agg #[Value.string ⟨List.toArray (fN (prodQ 1 (facs (pts ts)) - 1))⟩, Value.string ⟨List.toArray (fD (prodQ 1 (facs (pts ts)) - 1))⟩]), .int .i64 0] := if_neg (fun g => g h)
theorem dtz_form (ts : List Pnt) : ∃ (a b : List UInt8) (c : Int), dtzV ts = .tuple #[(Value.agg #[Value.string ⟨List.toArray a⟩, Value.string ⟨List.toArray b⟩]), .int .i64 c] := by
  unfold dtzV
  split
  · exact ⟨[], [], _, rfl⟩
  · split
    · exact ⟨[], [], _, rfl⟩
    · split
      · exact ⟨[], [], _, rfl⟩
      · exact ⟨_, _, _, rfl⟩
/-- no flow -/
def noFlow (t : Pnt) : Pnt := ⟨t.day, t.vl, []⟩
theorem pts_noFlow (ts : List Pnt) : ∀ p ∈ pts (ts.map noFlow), p.2.2 = 0 := fun p hp => by
  unfold pts at hp
  obtain ⟨x, hx, rfl⟩ := List.mem_map.1 hp
  obtain ⟨y, -, rfl⟩ := List.mem_map.1 hx
  exact val_nil
/-- a flow on the first day only: both returns are the same -/
theorem first_vals {a : Pnt} {ts : List Pnt} (h2 : ts ≠ []) (h0 : pntE (a :: ts.map noFlow) = 0) : dtzV (a :: ts.map noFlow) = retV (a :: ts.map noFlow) := by
  obtain ⟨-, -, hp, hu, -⟩ := pntE_ok h0
  cases hts : ts with
  | nil => exact absurd hts h2
  | cons b r =>
    rw [hts] at h0 hp hu
    have e : pts (a :: (b :: r).map noFlow) = ptZ a :: ptZ (noFlow b) :: pts (r.map noFlow) := rfl
    have hf : ∀ p ∈ ptZ (noFlow b) :: pts (r.map noFlow), p.2.2 = 0 := pts_noFlow (b :: r)
    have hlast0 : ((ptZ (noFlow b) :: pts (r.map noFlow)).getLast (by simp)) ∈ ptZ (noFlow b) :: pts (r.map noFlow) := List.getLast_mem (by simp)
    have hlast : ((ptZ (noFlow b) :: pts (r.map noFlow)).getLast (by simp)) ∈ pts ((b :: r).map noFlow) := hlast0
    obtain ⟨x, hx, hx2⟩ := List.mem_map.1 hlast
    obtain ⟨i, hi⟩ := List.mem_iff_getElem?.1 hx
    have hday := upD_days (ts := a :: (b :: r).map noFlow) (i := 0) (k := i + 1) hu rfl (show (a :: (b :: r).map noFlow)[i + 1]? = some x from hi) (by omega)
    rw [e] at hp
    obtain ⟨c1, c2⟩ := first_only (ptZ a) (ptZ (noFlow b)) (pts (r.map noFlow)) hp (fun p hp => hf p ((List.dropLast_sublist _).subset hp)) (by rw [← hx2]; exact hday) hf
    rw [ret_form h0]
    unfold dtzV
    rw [h0, if_neg (fun h => h rfl), if_neg (by simp), if_neg ?_]
    · rw [e, c2]
    · rw [e, c1]
      exact intq_ne (by have := hp.1; omega)
/-- without flows: the last value divided by the first one, less 1 -/
theorem still_vals {ts : List Pnt} {m : Nat} {a z : Pnt} (hm : 1 ≤ m) (hn : ts.length = m + 1) (ha : ts[0]? = some a) (hz : ts[m]? = some z) (h0 : pntE (ts.map noFlow) = 0) :
    retV (ts.map noFlow) = .tuple #[(Value.agg #[Value.string ⟨List.toArray (fN (Rat.divInt (val z.vl) (val a.vl) - 1))⟩, Value.string ⟨List.toArray (fD (Rat.divInt (val z.vl) (val a.vl) - 1))⟩]), .int .i64 0] ∧ dtzV (ts.map noFlow) = retV (ts.map noFlow) ∧ val a.vl ≠ 0 := by
  cases hts : ts with
  | nil => rw [hts] at hn; cases hn
  | cons a' r =>
    have haa : a' = a := by rw [hts] at ha; simpa using ha
    subst haa
    have hr : r ≠ [] := fun e => by rw [hts, e] at hn; simp at hn; omega
    rw [hts] at h0 hn hz
    have hd := first_vals (a := noFlow a') (ts := r) hr h0
    obtain ⟨-, -, hp, -, -⟩ := pntE_ok h0
    have hpos : 0 < val a'.vl := by
      cases hr2 : r with
      | nil => exact absurd hr2 hr
      | cons b s =>
        rw [hr2] at hp
        have := hp.1
        have e : (ptZ (noFlow a')).2.2 = 0 := val_nil
        have h5 : 0 < (ptZ (noFlow a')).2.1 + (ptZ (noFlow a')).2.2 := this
        rw [e, Int.add_zero] at h5
        exact h5
    have hr3 : pts (r.map noFlow) ≠ [] := fun e => hr (by
      have := congrArg List.length e
      rw [pts_len, List.length_map] at this
      exact List.length_eq_zero_iff.1 this)
    have key := facs_still (pts (r.map noFlow)) (ptZ (noFlow a')) (val a'.vl) hpos hp (pts_noFlow r) (by show val a'.vl + val [] = _; rw [val_nil, Int.add_zero])
    rw [dif_neg hr3] at key
    have hl : ((pts (r.map noFlow)).getLast hr3).2.1 = val z.vl := by
      obtain ⟨k, rfl⟩ : ∃ k, m = k + 1 := ⟨m - 1, by omega⟩
      have hz2 : r[k]? = some z := by simpa using hz
      have hz3 : (pts (r.map noFlow))[k]? = some (ptZ (noFlow z)) := pts_at (by rw [List.getElem?_map, hz2]; rfl)
      have hlen : (pts (r.map noFlow)).length = k + 1 := by rw [pts_len, List.length_map]; simp at hn; omega
      rw [last_at hlen hz3 hr3]; rfl
    rw [hl] at key
    refine ⟨?_, hd, by omega⟩
    rw [ret_form h0]
    have e : pts ((a' :: r).map noFlow) = ptZ (noFlow a') :: pts (r.map noFlow) := rfl
    rw [e, key]
end Go.Proofs.YtgnppdkeiihlfaaGreatDoor
namespace Go.Proofs.YtgnppdkeiihlfaaGreatDoor
open Go.RowKit Num
section
variable {P : Program}
theorem wp_region_kept_one {id : Nat} {Q : Exit → Act → World → Prop} {a : Act} {w : World} {l : List Oper} (K b1 : Nat) (s1 : Tmp) (ob1 : Obj) (hm : P.follows .mixedOrders = true) (hB : Region.lexB .any l.toArray = true)
    (hK : l.length ≤ K) (h1 : w.heap[b1]? = some ob1)
    (ha : a.put (some s1) (.pointer (some ⟨b1, 0, none⟩)) = a)
    (h : wpKept P l.toArray (BelowX (fun k => k = b1) w) (fun a' B => ∀ ρ w', FitsX (fun k => k = b1) w ρ B w' → Q .normal (a' ρ) w') l 0 (fun ρ => a.put (some s1) (.pointer (some ⟨ρ K, 0, none⟩))) (fun k => if k = K then some (false, ob1) else none)) : (Code.region id l.toArray true).wp P Q a w := by
  simp only [Region.lexB, Bool.and_eq_true] at hB
  refine wp_region_any hm ?_
  have hf : FitsX (fun k => k = b1) w (fun _ => b1) (fun k => if k = K then some (false, ob1) else none) { w with drawn := w.drawn + 1 } := by
    refine ⟨⟨rfl, rfl, rfl, Nat.le_refl _, fun _ _ _ => rfl⟩, ?_, ?_⟩
    · intro k s' o' hk
      by_cases hkK : k = K
      · rw [if_pos hkK] at hk
        simp only [Option.some.injEq, Prod.mk.injEq] at hk
        exact ⟨by simp, by rw [← hk.2]; exact h1⟩
      · rw [if_neg hkK] at hk; cases hk
    · intro k j hk hj _
      have hc : ∀ k, (if k = K then some (false, ob1) else none) ≠ none → k = K := fun k hk => by
        by_cases g1 : k = K
        · exact g1
        · rw [if_neg g1] at hk; exact absurd rfl hk
      rw [hc k hk, hc j hj]
  have hfr : FreeOf (Array.replicate l.toArray.size false) (fun ρ => a.put (some s1) (.pointer (some ⟨ρ K, 0, none⟩))) := by
    intro i ρ c hi
    have hlt : i < l.length := by
      rcases Nat.lt_or_ge i l.length with h' | h'
      · exact h'
      · rw [Array.getD_eq_getD_getElem?, Array.getElem?_eq_none (by simpa using h')] at hi; cases hi
    have e : upd ρ i c K = ρ K := if_neg (by omega)
    simp only [e]
  have := wpAnyK_lex (C := BelowX (fun k => k = b1) w) (md := .any) hB.1 l 0 (Array.replicate l.toArray.size false) _ _ (by simp) (by simpa using hB.2) h
  have h3 := wpAny_of_keptX (Q := fun a' B => ∀ ρ w', FitsX (fun k => k = b1) w ρ B w' → Q .normal (a' ρ) w') (fun a' B ρ w' hf' h' => h' ρ w' hf') _ _ _ _ _ _ hf hfr this
  rw [ha] at h3
  simpa using h3
end
theorem qOf1 (n : Int) (h1 : -9223372036854775808 ≤ n) (h2 : n ≤ 9223372036854775807) : Ret 183 #[.int .i64 n] (.string ⟨(canon n).toArray⟩) := fun w _ => (rof_any n w h1 h2).mono fun e w' ⟨h, k⟩ => ⟨h, by subst k; exact Below.refl _ _⟩
end Go.Proofs.YtgnppdkeiihlfaaGreatDoor
namespace Go.Proofs.YtgnppdkeiihlfaaGreatDoor
open Go.RowKit Num
def cutE (ts : List Pnt) (a b : Int) : Int := if pntE ts ≠ 0 then 1 else if dayB a = false then 13 else if dayB b = false then 13 else if b < a then 2 else if ts.filter (inPer a b) = [] then 11 else 0
def cutL (ts : List Pnt) (a b : Int) : List Pnt := if cutE ts a b = 0 then ts.filter (inPer a b) else []
theorem cutL_no {ts : List Pnt} {a b z : Int} (h : cutE ts a b = z) (h0 : z ≠ 0) : cutL ts a b = [] := by unfold cutL; rw [if_neg (by rw [h]; exact h0)]
theorem cutL_yes {ts : List Pnt} {a b : Int} (h : cutE ts a b = 0) : cutL ts a b = ts.filter (inPer a b) := by unfold cutL; rw [if_pos h]
theorem HO_open {w : World} {base : Nat} {vv : Value} {ys : List Pnt} (h : w.ownsRow base 74 3 vv ys.length (rowsQ ys)) : ∃ A' cp, vv = .slice A' ys.length cp ∧ PntAt w A' ys := by
  have h0 := h
  obtain ⟨-, h2⟩ := h
  rcases h2 with ⟨e0, h3⟩ | ⟨g, cap, cur, e0, h3⟩
  · refine ⟨none, 0, by rw [h3]; exact e0, ?_⟩
    rw [List.length_eq_zero_iff.1 h3]
    intro i t ht; simp at ht
  · refine ⟨_, cap, e0, ?_⟩
    rcases Nat.eq_zero_or_pos ys.length with hz | hz
    · rw [List.length_eq_zero_iff.1 hz]; intro i t ht; simp at ht
    · rw [e0] at h0
      obtain ⟨g', e1, -, hc⟩ := own_crow h0 (rowsQ_len ys) hz
      rw [e1]
      exact crow_pnt hc
theorem own_blk {w : World} {base n sz : Nat} {ty : TypeId} {v : Value} {cs : List Value} (h : w.ownsRow base ty sz v n cs) : ∀ j, v.ownBlock = some j → base ≤ j := fun j hj => by
  rcases h.2 with ⟨e0, -⟩ | ⟨g, cap, cur, e0, hB, -⟩
  · rw [e0] at hj; cases hj
  · rw [e0] at hj; simp [Value.ownBlock] at hj; omega
theorem Blk.grown {w w' : World} {b : Nat} {cs : Array Value} {row : Option Nat} (h : Blk w b cs) (hg : w.grownBy w' row) (hn : row ≠ some b) : Blk w' b cs := by
  obtain ⟨t, h⟩ := h
  exact ⟨t, (hg.block b (Array.getElem?_eq_some_iff.1 h).1 (fun e => hn e.symm)).trans h⟩
def CutEnd (ts : List Pnt) (a b : Int) (w : World) (e : Ending) (w' : World) : Prop := ∃ X m cp, e = .returned (.tuple #[.slice X m cp, .int .i64 (cutE ts a b)]) ∧ (cutL ts a b).length = m ∧ m ≤ ts.length ∧ PntAt w' X (cutL ts a b) ∧ Below w.heap.size w w'
theorem cutEnd_no {ts : List Pnt} {a b z : Int} {w w' : World} {X : Option Addr} {cp : Nat} (h : cutE ts a b = z) (h0 : z ≠ 0) (hb : Below w.heap.size w w') : CutEnd ts a b w (.returned (.tuple #[.slice X 0 cp, .int .i64 z])) w' :=
  ⟨X, 0, cp, by rw [h], by rw [cutL_no h h0]; rfl, Nat.zero_le _, by rw [cutL_no h h0]; intro i t ht; simp at ht, hb⟩
theorem cutEnd_yes {ts : List Pnt} {a b : Int} {w w' : World} {X : Option Addr} {m cp : Nat} (h : cutE ts a b = 0) (hm : (ts.filter (inPer a b)).length = m) (hp : PntAt w' X (ts.filter (inPer a b))) (hb : Below w.heap.size w w') : CutEnd ts a b w (.returned (.tuple #[.slice X m cp, .int .i64 0])) w' :=
  ⟨X, m, cp, by rw [h], by rw [cutL_yes h]; exact hm, by rw [← hm]; exact List.length_filter_le _ _, by rw [cutL_yes h]; exact hp, hb⟩

end Go.Proofs.YtgnppdkeiihlfaaGreatDoor
namespace Go.Proofs.YtgnppdkeiihlfaaGreatDoor
open Go.RowKit Num
def fsV (t : Fs) : Rat := fv t.1 t.2
def canB (t : Fs) : Bool := decide (t.1 = fN (fv t.1 t.2) ∧ t.2 = fD (fv t.1 t.2))
/-- what Link returns -/
def linkV (fs : List Fs) : Value := if 400 < fs.length then .tuple #[.agg #[.string ⟨#[]⟩, .string ⟨#[]⟩], .int .i64 4] else if fs.all canB = true then .tuple #[(Value.agg #[Value.string ⟨List.toArray (fN (prodQ 1 (fs.map fsV)))⟩, Value.string ⟨List.toArray (fD (prodQ 1 (fs.map fsV)))⟩]), .int .i64 0] else .tuple #[.agg #[.string ⟨#[]⟩, .string ⟨#[]⟩], .int .i64 1]
structure FL (w : World) (A : Option Addr) (fs : List Fs) (n : Nat) : Prop where
  len : fs.length = n
  sm : n ≤ 1000
  gap : n ≤ 12 ∨ 400 < n
  str : ∀ t ∈ fs, t.1.length ≤ 60 ∧ t.2.length ≤ 60
  mem : FsAt w A fs
theorem FL.below {w w' : World} {A : Option Addr} {fs : List Fs} {n : Nat} (h : FL w A fs n) (hb : Below w.heap.size w w') : FL w' A fs n := ⟨h.len, h.sm, h.gap, h.str, h.mem.below hb⟩
theorem fs_bd {fs : List Fs} {n k : Nat} (hn : fs.length = n) (h12 : n ≤ 12) (hs : ∀ t ∈ fs, t.1.length ≤ 60 ∧ t.2.length ≤ 60) : Bd 721 (prodQ 1 ((fs.map fsV).take k)) := by
  have h1 := prodQ_bd (M := 60) ((fs.map fsV).take k) bd_one (fun q hq => by
    obtain ⟨t, ht, rfl⟩ := List.mem_map.1 (List.mem_of_mem_take hq)
    exact bd_fv (hs t ht).1 (hs t ht).2 (by decide))
  refine bd_mono h1 ?_
  have : ((fs.map fsV).take k).length ≤ 12 := by rw [List.length_take, List.length_map]; omega
  omega
theorem link_step {fs : List Fs} {k : Nat} {t : Fs} (h : fs[k]? = some t) : prodQ 1 ((fs.map fsV).take (k + 1)) = prodQ 1 ((fs.map fsV).take k) * fsV t := by
  rw [take_snoc (show (fs.map fsV)[k]? = some (fsV t) by rw [List.getElem?_map, h]; rfl), prodQ_snoc]
end Go.Proofs.YtgnppdkeiihlfaaGreatDoor
namespace Go.Proofs.YtgnppdkeiihlfaaGreatDoor
open Go.RowKit Num
theorem frs_map (qs : List Rat) : (frs qs).map fsV = qs := by
  unfold frs
  rw [List.map_map]
  conv => rhs; rw [← List.map_id qs]
  exact List.map_congr_left (fun q _ => fv_frac q)
theorem frs_can (qs : List Rat) : (frs qs).all canB = true := by
  rw [List.all_eq_true]
  intro t ht
  obtain ⟨q, -, rfl⟩ := List.mem_map.1 ht
  exact decide_eq_true (by show fN q = fN (fv (fN q) (fD q)) ∧ fD q = fD (fv (fN q) (fD q)); rw [fv_frac]; exact ⟨rfl, rfl⟩)
theorem link_frs {qs : List Rat} (h : qs.length ≤ 400) : linkV (frs qs) = .tuple #[(Value.agg #[Value.string ⟨List.toArray (fN (prodQ 1 qs))⟩, Value.string ⟨List.toArray (fD (prodQ 1 qs))⟩]), .int .i64 0] := by
  unfold linkV
  rw [if_neg (by unfold frs; rw [List.length_map]; omega), if_pos (frs_can qs), frs_map]
theorem own_formF {w : World} {B : Nat} {v : Value} {qs : List Rat} (hown : w.ownsRow B 25 2 v qs.length (rowsF (frs qs))) : ∃ C cp, v = .slice C qs.length cp ∧ qs.length ≤ cp ∧ FsAt w C (frs qs) := by
  cases hq : qs with
  | nil =>
    subst hq
    rcases hown.2 with ⟨rfl, -⟩ | ⟨g, cap, cur, rfl, -⟩
    · exact ⟨none, 0, rfl, Nat.le_refl _, fun i t ht => by simp [frs] at ht⟩
    · exact ⟨_, _, rfl, Nat.zero_le _, fun i t ht => by simp [frs] at ht⟩
  | cons q r =>
    rw [← hq]
    have hl : 0 < qs.length := by rw [hq]; simp
    rcases hown.2 with ⟨-, h0⟩ | ⟨g, cap, cur, rfl, hg, hh, hcap, hrest⟩
    · omega
    · obtain ⟨g', hA, -, hr⟩ := own_crow hown (by rw [rowsF_len]; unfold frs; rw [List.length_map]) hl
      injection hA with hA
      injection hA with hA
      subst hA
      exact ⟨_, _, rfl, hcap, crow_fs hr⟩
theorem divInt_one' (z : Int) : Rat.divInt z 1 = ((z : Int) : Rat) := by rw [divInt_div]; have o : ((1 : Int) : Rat) = 1 := rfl; rw [o]; grind
theorem part_mul (f d e : Int) : ((f : Int) : Rat) * Rat.divInt d e = Rat.divInt (f * d) e := by rw [divInt_div, divInt_div, Rat.intCast_mul, Rat.div_def, Rat.div_def]; grind
end Go.Proofs.YtgnppdkeiihlfaaGreatDoor
namespace Go.Proofs.YtgnppdkeiihlfaaGreatDoor
open Go.RowKit Num
theorem pntL_split {o : Option Int} {p : Pnt} {r : List Pnt} (h : pntL o (p :: r) = 0) : ¬ dayB p.day = false ∧ p.vl = canon (val p.vl) ∧ p.fl = canon (val p.fl) ∧ ¬ longB p.vl = true ∧ ¬ longB p.fl = true ∧ ¬ ordB o p.day = true ∧ ¬ val p.vl < 0 ∧ ¬ (r ≠ [] ∧ val p.vl + val p.fl ≤ 0) ∧ pntL (some p.day) r = 0 := by
  unfold pntL at h
  by_cases g1 : dayB p.day = false
  · rw [if_pos g1] at h; cases h
  rw [if_neg g1] at h
  by_cases g2 : p.vl = canon (val p.vl)
  rotate_left
  · rw [if_pos g2] at h; cases h
  rw [if_neg (fun h => h g2)] at h
  by_cases g3 : p.fl = canon (val p.fl)
  rotate_left
  · rw [if_pos g3] at h; cases h
  rw [if_neg (fun h => h g3)] at h
  by_cases g7 : longB p.vl = true
  · rw [if_pos g7] at h; cases h
  rw [if_neg g7] at h
  by_cases g8 : longB p.fl = true
  · rw [if_pos g8] at h; cases h
  rw [if_neg g8] at h
  by_cases g4 : ordB o p.day = true
  · rw [if_pos g4] at h; cases h
  rw [if_neg g4] at h
  by_cases g5 : val p.vl < 0
  · rw [if_pos g5] at h; cases h
  rw [if_neg g5] at h
  by_cases g6 : r ≠ [] ∧ val p.vl + val p.fl ≤ 0
  · rw [if_pos g6] at h; cases h
  rw [if_neg g6] at h
  exact ⟨g1, g2, g3, g7, g8, g4, g5, g6, h⟩
theorem pntL_join {o : Option Int} {p : Pnt} {r : List Pnt} (g1 : ¬ dayB p.day = false) (g2 : p.vl = canon (val p.vl)) (g3 : p.fl = canon (val p.fl)) (g7 : ¬ longB p.vl = true) (g8 : ¬ longB p.fl = true) (g4 : ¬ ordB o p.day = true) (g5 : ¬ val p.vl < 0) (g6 : ¬ (r ≠ [] ∧ val p.vl + val p.fl ≤ 0)) (h : pntL (some p.day) r = 0) : pntL o (p :: r) = 0 := by
  unfold pntL
  rw [if_neg g1, if_neg (fun h => h g2), if_neg (fun h => h g3), if_neg g7, if_neg g8, if_neg g4, if_neg g5, if_neg g6]
  exact h
theorem pntL_take : ∀ (ts : List Pnt) (o : Option Int) (k : Nat), pntL o ts = 0 → pntL o (ts.take k) = 0
  | [], o, k, _ => by rw [List.take_nil]; rfl
  | p :: r, o, 0, _ => rfl
  | p :: r, o, k + 1, h => by
    obtain ⟨g1, g2, g3, g7, g8, g4, g5, g6, h⟩ := pntL_split h
    exact pntL_join g1 g2 g3 g7 g8 g4 g5 (fun hx => g6 ⟨fun e => hx.1 (by rw [e, List.take_nil]), hx.2⟩) (pntL_take r _ k h)
theorem pntL_weak : ∀ (ts : List Pnt) (o : Option Int), pntL o ts = 0 → pntL none ts = 0
  | [], _, _ => rfl
  | p :: r, o, h => by
    obtain ⟨g1, g2, g3, g7, g8, g4, g5, g6, h⟩ := pntL_split h
    exact pntL_join g1 g2 g3 g7 g8 (by show ¬ false = true; decide) g5 g6 h
theorem pntL_drop : ∀ (ts : List Pnt) (o : Option Int) (k : Nat), pntL o ts = 0 → pntL none (ts.drop k) = 0
  | ts, o, 0, h => by rw [List.drop_zero]; exact pntL_weak ts o h
  | [], o, k + 1, _ => rfl
  | p :: r, o, k + 1, h => by
    obtain ⟨-, -, -, -, -, -, -, -, h⟩ := pntL_split h
    exact pntL_drop r _ k h
theorem pntE_list {ts : List Pnt} (h : pntE ts = 0) : pntL none ts = 0 := by
  obtain ⟨h1, h2, -⟩ := pntE_ok h
  unfold pntE at h
  rwa [if_neg (by omega), if_neg (by omega)] at h
theorem pntE_mk {ts : List Pnt} (h1 : 1 ≤ ts.length) (h2 : ts.length ≤ 400) (h : pntL none ts = 0) : pntE ts = 0 := by
  unfold pntE
  rw [if_neg (by omega), if_neg (by omega)]; exact h
theorem pntE_take {ts : List Pnt} {k : Nat} (h : pntE ts = 0) : pntE (ts.take (k + 1)) = 0 := by
  obtain ⟨h1, h2, -⟩ := pntE_ok h
  exact pntE_mk (by rw [List.length_take]; omega) (by rw [List.length_take]; omega) (pntL_take _ _ _ (pntE_list h))
theorem pntE_drop {ts : List Pnt} {k : Nat} (h : pntE ts = 0) (hk : k < ts.length) : pntE (ts.drop k) = 0 := by
  obtain ⟨h1, h2, -⟩ := pntE_ok h
  exact pntE_mk (by rw [List.length_drop]; omega) (by rw [List.length_drop]; omega) (pntL_drop _ _ _ (pntE_list h))
theorem upD_first {ts : List Pnt} {o : Option Int} {a : Pnt} (hu : UpD o ts) (ha : ts[0]? = some a) : ∀ t ∈ ts, a.day ≤ t.day := by
  cases ts with
  | nil => simp at ha
  | cons p r =>
    have : p = a := by simpa using ha
    subst this
    intro t ht
    rcases List.mem_cons.1 ht with rfl | ht
    · exact Int.le_refl _
    · obtain ⟨i, hi⟩ := List.mem_iff_getElem?.1 ht
      have := upD_le hu.2 hi p.day rfl
      omega
theorem upD_last : ∀ (ts : List Pnt) (o : Option Int) (m : Nat) (y : Pnt), UpD o ts → ts.length = m + 1 → ts[m]? = some y → ∀ t ∈ ts, t.day ≤ y.day
  | [], _, _, _, _, h, _, _, _ => by simp at h
  | p :: r, o, 0, y, hu, hn, hy, t, ht => by
    have hr : r = [] := List.length_eq_zero_iff.1 (by simpa using hn)
    subst hr
    have h1 : p = y := by simpa using hy
    have h2 : t = p := by simpa using ht
    rw [h2, h1]; exact Int.le_refl _
  | p :: r, o, m + 1, y, hu, hn, hy, t, ht => by
    have hy2 : r[m]? = some y := by simpa using hy
    rcases List.mem_cons.1 ht with rfl | ht
    · have := upD_le hu.2 hy2 t.day rfl
      omega
    · exact upD_last r (some p.day) m y hu.2 (by simpa using hn) hy2 t ht
theorem link_vals {ts : List Pnt} {m k : Nat} {a z y : Pnt} (h0 : pntE ts = 0) (hn : ts.length = m + 1) (hk : k ≤ m) (ha : ts[0]? = some a) (hz : ts[k]? = some z) (hy : ts[m]? = some y) :
    cutE ts a.day z.day = 0 ∧ cutL ts a.day z.day = ts.take (k + 1) ∧ cutE ts z.day y.day = 0 ∧ cutL ts z.day y.day = ts.drop k := by
  obtain ⟨-, -, -, hu, hok⟩ := pntE_ok h0
  have f1 := filter_take ts none k z a.day hu hz (upD_first hu ha)
  have f2 := filter_drop ts none k z y.day hu hz (upD_last ts none m y hu hn hy)
  have hd : ∀ t ∈ ts, ¬ dayB t.day = false := fun t ht => by
    have h1 := (hok t ht).day
    unfold dayB
    rw [decide_eq_true h1.1, decide_eq_true h1.2]; decide
  have hma := List.mem_of_getElem? ha
  have hmz := List.mem_of_getElem? hz
  have hmy := List.mem_of_getElem? hy
  have l1 := upD_first hu ha z hmz
  have l2 := upD_last ts none m y hu hn hy z hmz
  have e1 : cutE ts a.day z.day = 0 := by
    unfold cutE
    rw [if_neg (fun h => h h0), if_neg (hd a hma), if_neg (hd z hmz), if_neg (by omega), if_neg ?_]
    rw [f1]
    intro h
    have := congrArg List.length h
    rw [List.length_take, List.length_nil] at this; omega
  have e2 : cutE ts z.day y.day = 0 := by
    unfold cutE
    rw [if_neg (fun h => h h0), if_neg (hd z hmz), if_neg (hd y hmy), if_neg (by omega), if_neg ?_]
    rw [f2]
    intro h
    have := congrArg List.length h
    rw [List.length_drop, List.length_nil] at this; omega
  exact ⟨e1, (cutL_yes e1).trans f1, e2, (cutL_yes e2).trans f2⟩
theorem link_prod {ts : List Pnt} {k : Nat} (hk : k < ts.length) : prodQ 1 (facs (pts (ts.take (k + 1)))) * prodQ 1 (facs (pts (ts.drop k))) = prodQ 1 (facs (pts ts)) := by
  rw [pts_take, pts_drop, facs_cut (pts ts) k (by rw [pts_len]; exact hk), prodQ_app]
  generalize prodQ 1 (facs ((pts ts).take (k + 1))) = x
  have := prodQ_mul (facs ((pts ts).drop k)) x 1
  rw [Rat.mul_one] at this
  exact this.symm
theorem pntAt_take {w : World} {A : Option Addr} {ts : List Pnt} (h : PntAt w A ts) (k : Nat) : PntAt w A (ts.take k) := fun i t ht => by
  rw [List.getElem?_take] at ht
  split at ht
  · exact h i t ht
  · cases ht
theorem pntAt_drop {w : World} {b o : Nat} {ts : List Pnt} (h : PntAt w (some ⟨b, o, none⟩) ts) (k : Nat) : PntAt w (some ⟨b, o + k * 3, none⟩) (ts.drop k) := fun i t ht => by
  rw [List.getElem?_drop] at ht
  obtain ⟨b', o', h0, h1, h2, h3, h4⟩ := h (k + i) t ht
  cases h0
  refine ⟨b, o + k * 3, rfl, h1, ?_, ?_, ?_⟩
  · rw [show o + k * 3 + i * 3 = o + (k + i) * 3 by omega]; exact h2
  · rw [show o + k * 3 + i * 3 = o + (k + i) * 3 by omega]; exact h3
  · rw [show o + k * 3 + i * 3 = o + (k + i) * 3 by omega]; exact h4
end Go.Proofs.YtgnppdkeiihlfaaGreatDoor
namespace Go.Proofs.YtgnppdkeiihlfaaGreatDoor
open Go.RowKit Num
theorem run_copy_wide {P : Program} (w : World) (dT sT ty elem : TypeId) (sz b o dLen dCap : Nat) (a : Addr) (sLen sCap m : Nat) (cs : List Value)
    (hu : P.underlying dT = some (.slice elem)) (hs : (P.info? elem).map (·.size) = some sz) (hn : Nat.min sLen dLen = m) (hcl : cs.length = m * sz)
    (hsrc : ∀ j v, cs[j]? = some v → w.cell? (a.add j) = some v) (hc : ∀ j, j < cs.length → (w.cell? ⟨b, o + j, none⟩).isSome = true) (hf : ∀ j, j < cs.length → w.frozen? ⟨b, o + j, none⟩ = false) (h1 : ∀ v ∈ cs, v.oneCell' = true) :
    (Builtin.copy_ #[dT, sT] ty #[.slice (some ⟨b, o, none⟩) dLen dCap, .slice (some a) sLen sCap]).run P w = .ok (goInt m) (w.setCells b o cs) := by
  have hl := run_loadCells_list (P := P) w a cs hsrc
  have hst := run_storeCells_cells (P := P) b o cs 0 w (by simpa using hc) (by simpa using hf) h1
  rw [hcl] at hl
  cases hq : P.info? elem with
  | none => simp [hq] at hs
  | some i =>
    have hi : i.size = sz := by simpa [hq] using hs
    simp [Builtin.copy_, run_underlying hu, Builtin.lenOf, Builtin.firstCells, sizeOf, typeInfo, hq, hi, hn, hl, hst]
theorem set_row {g : Nat} {t : TypeId} : ∀ (vs : List Value) (o : Nat) (w : World) (cur : Array Value), w.heap[g]? = some (.cells cur t (0, 0)) → o + vs.length ≤ cur.size →
    ∃ cur' : Array Value, (w.setCells g o vs).heap[g]? = some (.cells cur' t (0, 0)) ∧ cur'.toList = cur.toList.take o ++ vs ++ cur.toList.drop (o + vs.length)
  | [], o, w, cur, h, _ => ⟨cur, h, by simp⟩
  | v :: r, o, w, cur, h, hl => by
    have h1 : (w.setCell ⟨g, o, none⟩ v).heap[g]? = some (.cells (cur.setIfInBounds o v) t (0, 0)) := by
      obtain ⟨hlt, hk⟩ := Array.getElem?_eq_some_iff.1 h
      show (w.heap.modify g _)[g]? = _
      rw [Array.getElem?_eq_getElem (by rw [Array.size_modify]; exact hlt), Array.getElem_modify_self, hk]
      simp
    obtain ⟨cur', e1, e2⟩ := set_row r (o + 1) _ _ h1 (by simp at hl ⊢; omega)
    refine ⟨cur', e1, ?_⟩
    have ho : o < cur.toList.length := by simp at hl ⊢; omega
    have hs : (cur.toList.set o v)[o]? = some v := by rw [List.getElem?_set_self ho]
    rw [e2, Array.toList_setIfInBounds, take_snoc hs, List.take_set_of_le (Nat.le_refl o), List.drop_set_of_lt (by omega), List.append_assoc, List.append_assoc, List.append_assoc, List.length_cons, show o + (r.length + 1) = o + 1 + r.length by omega]
    rfl
theorem setCells_far {g b : Nat} (hne : b ≠ g) : ∀ (vs : List Value) (o : Nat) (w : World), (w.setCells g o vs).heap[b]? = w.heap[b]?
  | [], _, _ => rfl
  | _ :: r, o, _ => (setCells_far hne r (o + 1) _).trans (Below.heap_setCell _ _ _ _ hne)
theorem shape_blk {w : World} {b : Nat} {cs : Array Value} {t : TypeId} (h : w.heap[b]? = some (.cells cs t (0, 0))) : w.shape? b = some (t, cs.size) := by
  unfold World.shape?
  rw [h]
theorem overlaps_no {w : World} {g vb : Nat} {cur cv : Array Value} (hne : vb ≠ g) (hg : w.heap[g]? = some (.cells cur 74 (0, 0))) (hv : w.heap[vb]? = some (.cells cv 74 (0, 0))) (h0 : cur.size ≠ 0) (o m vc lb cb : Nat) :
    (callFunc 119 #[.slice (some ⟨vb, 0, none⟩) m vc, .slice (some ⟨g, o, none⟩) lb cb]).run Tryz.prog w = .ok (.value (.bool false)) w := by
  rw [run_callFunc_extern Tryz.func119 (by kernel_rfl) (by kernel_rfl) (by kernel_rfl) (e := Extern.SlicesOverlaps.overlaps #[72, 72] #[4]) (by kernel_rfl),
    Lib.run_overlaps_apart w 72 4 74 Tryz.underlying72 3 Tryz.sizeOf74 ⟨vb, 0, none⟩ ⟨g, o, none⟩ m vc lb cb hne _ _ _ _ (shape_blk hv) (shape_blk hg) h0 (blk_frozen hv 0) (blk_frozen hv _)]
  rfl

theorem isSome_row {w : World} {g : Nat} {cur : Array Value} {t : TypeId} (h : w.heap[g]? = some (.cells cur t (0, 0))) {j : Nat} (hj : j < cur.size) : (w.cell? ⟨g, j, none⟩).isSome = true := by
  rw [blk_cell h, Array.getElem?_eq_getElem hj]; rfl
theorem info_pnt3 : (Tryz.prog.info? 74).map (·.size) = some 3 := by
  obtain ⟨i0, hi, hz0, hz1, hz2⟩ := info_parts info_pnt
  rw [hi]; simp [hz1]
set_option maxHeartbeats 8000000 in
set_option maxRecDepth 100000 in
theorem insShift (g n cp k vb : Nat) (cur : Array Value) (ts : List Pnt) (x : Pnt) (w : World) (hn : ts.length = n) (hk : k < n) (hroom : n + 1 ≤ cp) (hc63 : cp ≤ 9223372036854775807) (hvb : vb ≠ g)
    (hg : w.heap[g]? = some (.cells cur 74 (0, 0))) (hsz : cur.size = cp * 3) (htk : cur.toList.take (n * 3) = rowsQ ts) (hv : w.heap[vb]? = some (.cells #[.int .i64 x.day, .string ⟨x.vl.toArray⟩, .string ⟨x.fl.toArray⟩] 74 (0, 0))) :
    Calls Tryz.prog 56 #[.slice (some ⟨g, 0, none⟩) n cp, .int .i64 (k : Int), .slice (some ⟨vb, 0, none⟩) 1 1] w fun e w' =>
      e = .returned (.slice (some ⟨g, 0, none⟩) (n + 1) cp) ∧ w' = (w.drew.setCells g ((k + 1) * 3) (rowsQ (ts.drop k))).setCells g (k * 3) [.int .i64 x.day, .string ⟨x.vl.toArray⟩, .string ⟨x.fl.toArray⟩] := by
  have hov := fun o lb cb => overlaps_no hvb hg hv (by omega) o 1 1 lb cb
  have hdl : (rowsQ (ts.drop k)).length = (n - k) * 3 := by rw [rowsQ_len, List.length_drop, hn]
  have hdk : ∀ j v, (rowsQ (ts.drop k))[j]? = some v → w.cell? ⟨g, k * 3 + j, none⟩ = some v := fun j v hj => by
    have h1 : rowsQ ts = rowsQ (ts.take k) ++ rowsQ (ts.drop k) := by rw [← rowsQ_app, List.take_append_drop]
    have h2 : (rowsQ (ts.take k)).length = k * 3 := by rw [rowsQ_len, List.length_take, hn]; omega
    have h3 : (rowsQ ts)[k * 3 + j]? = some v := by rw [h1, List.getElem?_append_right (by omega), h2, show k * 3 + j - k * 3 = j by omega]; exact hj
    have hj2 := (List.getElem?_eq_some_iff.1 h3).1
    rw [rowsQ_len, hn] at hj2
    rw [blk_cell hg, ← Array.getElem?_toList]
    rw [← htk, List.getElem?_take, if_pos hj2] at h3
    exact h3
  have hz1 : ¬ ((1 : Int) = 0) := by decide
  have hz2 : ¬ ((k : Int) = (n : Int)) := by omega
  have hw1 : IntKind.i64.wrap ((k : Int) + 1) = (k : Int) + 1 := Go.IntWalk.i64_in _ (by omega)
  have hw2 : IntKind.i64.wrap ((n : Int) + 1) = (n : Int) + 1 := Go.IntWalk.i64_in _ (by omega)
  have hkt : ((k : Int) + 1).toNat = k + 1 := by omega
  have hnt : ((n : Int) + 1).toNat = n + 1 := by omega
  have c1 : (0 : Int) ≤ (k : Int) + 1 := by omega
  have c2 : (k : Int) + 1 ≤ (n : Int) + 1 := by omega
  have c3 : (n : Int) + 1 ≤ (cp : Int) := by omega
  have c4 : (k : Int) ≤ (n : Int) + 1 := by omega
  have c5 : (k : Int) ≤ (n : Int) := by omega
  have c7 : ¬ (cp = k) := by omega
  have c8 : ¬ (cp = k + 1) := by omega
  have c6 : ¬ ((cp : Int) < (n : Int) + 1) := by omega
  have hcp1 : ∀ ty dc sc, (Builtin.copy_ #[72, 72] ty #[.slice (some ⟨g, (k + 1) * 3, none⟩) (n - k) dc, .slice (some ⟨g, k * 3, none⟩) (n + 1 - k) sc]).run Tryz.prog w.drew = .ok (goInt ((n - k : Nat) : Int)) (w.drew.setCells g ((k + 1) * 3) (rowsQ (ts.drop k))) := fun ty dc sc =>
    run_copy_wide w.drew _ _ ty 74 3 g ((k + 1) * 3) (n - k) dc ⟨g, k * 3, none⟩ (n + 1 - k) sc (n - k) (rowsQ (ts.drop k)) Tryz.underlying72 info_pnt3 (by simp only [Nat.min_def]; split <;> omega) hdl
      (fun j v hj => by rw [Lib.add_plain]; exact hdk j v hj) (fun j hj => isSome_row (w := w.drew) hg (by rw [hdl] at hj; omega)) (fun j hj => blk_frozen (w := w.drew) hg _) (rowsQ_one _)
  obtain ⟨W1, hW1⟩ : ∃ W1, W1 = w.drew.setCells g ((k + 1) * 3) (rowsQ (ts.drop k)) := ⟨_, rfl⟩
  obtain ⟨cur1, hg1, ht1⟩ := set_row (rowsQ (ts.drop k)) ((k + 1) * 3) w.drew cur hg (by rw [hdl]; omega)
  rw [← hW1] at hcp1 hg1 ⊢
  have hs1 : cur1.size = cp * 3 := by
    have h1 := congrArg List.length ht1
    rw [List.length_append, List.length_append, List.length_take, List.length_drop, hdl, Array.length_toList, Array.length_toList, hsz] at h1
    omega
  have hv1 : W1.heap[vb]? = some (.cells #[.int .i64 x.day, .string ⟨x.vl.toArray⟩, .string ⟨x.fl.toArray⟩] 74 (0, 0)) := by rw [hW1]; exact (setCells_far hvb _ _ _).trans hv
  have hcp2 : ∀ ty dc, (Builtin.copy_ #[72, 72] ty #[.slice (some ⟨g, k * 3, none⟩) (n + 1 - k) dc, .slice (some ⟨vb, 0, none⟩) 1 1]).run Tryz.prog W1 = .ok (goInt 1) (W1.setCells g (k * 3) [.int .i64 x.day, .string ⟨x.vl.toArray⟩, .string ⟨x.fl.toArray⟩]) := fun ty dc =>
    run_copy_wide W1 _ _ ty 74 3 g (k * 3) (n + 1 - k) dc ⟨vb, 0, none⟩ 1 1 1 [.int .i64 x.day, .string ⟨x.vl.toArray⟩, .string ⟨x.fl.toArray⟩] Tryz.underlying72 info_pnt3 (by simp only [Nat.min_def]; split <;> omega) rfl
      (fun j v hj => by rw [Lib.add_plain, Nat.zero_add, blk_cell hv1]; simpa using hj) (fun j hj => isSome_row hg1 (by have hj : j < 3 := hj; omega)) (fun j hj => blk_frozen hg1 _) (fun v hv => by simp at hv; rcases hv with rfl | rfl | rfl <;> rfl)
  clear hdk hg hv hsz htk hg1 ht1 hs1 hv1 hW1
  go_enter Tryz.func56, Tryz.ntmps56
  go_wp2_with (simp only [hov])
  go_region_law (refine step_copy_runI rfl _ _ 72 72 rfl _ _ (by simp [Act.eval, Act.put]) (by simp [Act.eval, Act.put]) (hcp1 _ _ _) ?_)
  go_wp2_with (at_builtin; refine wpList_copy_runI _ rfl _ _ 72 72 rfl _ _ rfl rfl (hcp2 _ _) ?_)
  go_ret
  exact ⟨rfl, rfl⟩
theorem rowsQ_mid (ts : List Pnt) (x : Pnt) (k : Nat) : rowsQ (ts.take k ++ x :: ts.drop k) = rowsQ (ts.take k) ++ [.int .i64 x.day, .string ⟨x.vl.toArray⟩, .string ⟨x.fl.toArray⟩] ++ rowsQ (ts.drop k) := by
  rw [rowsQ_app, rowsQ_cons, List.append_assoc]; rfl
theorem crow_of {w : World} {g : Nat} {ty : TypeId} {cur : Array Value} {cs rest : List Value} (h : w.heap[g]? = some (.cells cur ty (0, 0))) (ht : cur.toList = cs ++ rest) : CRow w g ty cs :=
  ⟨cur, h, by rw [ht, List.take_left' rfl], by rw [← Array.length_toList, ht, List.length_append]; omega⟩
theorem below_drew (w : World) : Below w.heap.size w w.drew := ⟨rfl, rfl, rfl, Nat.le_refl _, fun _ _ => rfl⟩
set_option maxHeartbeats 8000000 in
set_option maxRecDepth 100000 in
theorem insGrow (g n cp k vb : Nat) (cur : Array Value) (ts : List Pnt) (x : Pnt) (w : World) (hn : ts.length = n) (hk : k < n) (hnc : n ≤ cp) (hroom : cp < n + 1) (hn2 : n ≤ 1000000)
    (hg : w.heap[g]? = some (.cells cur 74 (0, 0))) (htk : cur.toList.take (n * 3) = rowsQ ts) (hv : w.heap[vb]? = some (.cells #[.int .i64 x.day, .string ⟨x.vl.toArray⟩, .string ⟨x.fl.toArray⟩] 74 (0, 0))) :
    Calls Tryz.prog 56 #[.slice (some ⟨g, 0, none⟩) n cp, .int .i64 (k : Int), .slice (some ⟨vb, 0, none⟩) 1 1] w fun e w' =>
      ∃ G, e = .returned (.slice (some ⟨w.heap.size, 0, none⟩) (n + 1) G) ∧ n + 1 ≤ G ∧ CRow w' w.heap.size 74 (rowsQ (ts.take k ++ x :: ts.drop k)) ∧ Below w.heap.size w w' := by
  obtain ⟨i0, hi0, hz0, hzs, hzb⟩ := info_parts info_pnt
  have hgl := (Array.getElem?_eq_some_iff.1 hg).1
  have hvl := (Array.getElem?_eq_some_iff.1 hv).1
  have hall : rowsQ ts = rowsQ (ts.take k) ++ rowsQ (ts.drop k) := by rw [← rowsQ_app, List.take_append_drop]
  have htl : (rowsQ (ts.take k)).length = k * 3 := by rw [rowsQ_len, List.length_take, hn]; omega
  have hdl : (rowsQ (ts.drop k)).length = (n - k) * 3 := by rw [rowsQ_len, List.length_drop, hn]
  have hcell : ∀ j v, (rowsQ ts)[j]? = some v → w.cell? ⟨g, j, none⟩ = some v := fun j v h3 => by
    have hj2 := (List.getElem?_eq_some_iff.1 h3).1
    rw [rowsQ_len, hn] at hj2
    rw [blk_cell hg, ← Array.getElem?_toList]
    rw [← htk, List.getElem?_take, if_pos hj2] at h3
    exact h3
  have hold : (Builtin.firstCells i0.size k (.slice (some ⟨g, 0, none⟩) k cp)).run Tryz.prog w.drew = .ok (rowsQ (ts.take k)).toArray w.drew := by
    rw [hzs]
    exact run_firstCells_some w.drew 3 k ⟨g, 0, none⟩ k cp (rowsQ (ts.take k)) htl (fun j v hj => by
      rw [Lib.add_plain, Nat.zero_add]
      exact hcell j v (by rw [hall, List.getElem?_append_left (List.getElem?_eq_some_iff.1 hj).1]; exact hj))
  have hik : k + (n + 1 - k) = n + 1 := by omega
  have hkk : (n : Int) + 1 - (k : Int) = ((n + 1 - k : Nat) : Int) := by omega
  obtain ⟨G, hG⟩ : ∃ G, G = grownCap w (n + 1) cp 74 := ⟨_, rfl⟩
  have hGn : n + 1 ≤ G := by rw [hG]; exact grownCap_ge w _ _ _
  have hG63 : G ≤ 9223372036854775807 := by
    have := grownCap_le_maxLen w (n + 1) cp 74 (by unfold maxLen; omega)
    rw [← hG] at this
    unfold maxLen at this
    omega
  obtain ⟨REST, hREST⟩ : ∃ R : Array Value, R = Builtin.zeroCells (Value.agg #[.int .i64 0, .string ⟨#[]⟩, .string ⟨#[]⟩]).cells (n + 1 - k) ++ Builtin.zeroCells (Value.agg #[.int .i64 0, .string ⟨#[]⟩, .string ⟨#[]⟩]).cells (G - (n + 1)) := ⟨_, rfl⟩
  have hRl : (n + 1 - k) * 3 ≤ REST.size := by
    rw [hREST]
    simp [Builtin.zeroCells, Value.cells]
    try omega
  obtain ⟨W1, hW1⟩ : ∃ W1, W1 = w.drew.alloc (.cells ((rowsQ (ts.take k)).toArray ++ REST) 74) := ⟨_, rfl⟩
  have hrz : ∀ ty, (Builtin.append_ #[72, 3] ty #[.slice (some ⟨g, 0, none⟩) k cp, .int .i64 ((n : Int) + 1 - (k : Int))]).run Tryz.prog w = .ok (.slice (some ⟨w.heap.size, 0, none⟩) (n + 1) G) W1 := fun ty => by
    have h := Lib.run_append_grow_zeros w 72 3 ty 74 i0 _ .i64 .i64 Tryz.underlying72 Tryz.underlying3 hi0 hz0 (some ⟨g, 0, none⟩) k cp (rowsQ (ts.take k)) hold (n + 1 - k) (by omega) (by omega) (by omega) (by omega) (by rw [hzb]; omega) (by rw [hzb, hik]; exact growslice_fits hroom (by omega))
    rw [hik, ← hG] at h
    rw [hkk, hW1, hREST, ← Array.append_assoc]
    exact h
  have hN : W1.heap[w.heap.size]? = some (.cells ((rowsQ (ts.take k)).toArray ++ REST) 74 (0, 0)) := by rw [hW1]; exact heap_alloc_new w.drew _
  have hb1 : Below w.heap.size w W1 := by rw [hW1]; exact bto (below_drew w) (below_alloc w.drew _)
  have hg1 := (hb1.block g hgl).trans hg
  have hv1 := (hb1.block vb hvl).trans hv
  have hvN : vb ≠ w.heap.size := by omega
  have hgN : g ≠ w.heap.size := by omega
  have hRs : ((rowsQ (ts.take k)).toArray ++ REST).size = k * 3 + REST.size := by rw [Array.size_append, List.size_toArray, htl]
  have hcpA : ∀ ty dc, (Builtin.copy_ #[72, 72] ty #[.slice (some ⟨w.heap.size, k * 3, none⟩) (n + 1 - k) dc, .slice (some ⟨vb, 0, none⟩) 1 1]).run Tryz.prog W1 = .ok (goInt ((1 : Nat) : Int)) (W1.setCells w.heap.size (k * 3) [.int .i64 x.day, .string ⟨x.vl.toArray⟩, .string ⟨x.fl.toArray⟩]) := fun ty dc =>
    run_copy_wide W1 _ _ ty 74 3 w.heap.size (k * 3) (n + 1 - k) dc ⟨vb, 0, none⟩ 1 1 1 [.int .i64 x.day, .string ⟨x.vl.toArray⟩, .string ⟨x.fl.toArray⟩] Tryz.underlying72 info_pnt3 (by simp only [Nat.min_def]; split <;> omega) rfl
      (fun j v hj => by rw [Lib.add_plain, Nat.zero_add, blk_cell hv1]; simpa using hj) (fun j hj => isSome_row hN (by have hj : j < 3 := hj; omega)) (fun j hj => blk_frozen hN _) (fun v hv => by simp at hv; rcases hv with rfl | rfl | rfl <;> rfl)
  obtain ⟨cur2, hN2, ht2⟩ := set_row [.int .i64 x.day, .string ⟨x.vl.toArray⟩, .string ⟨x.fl.toArray⟩] (k * 3) W1 _ hN (by rw [hRs]; show k * 3 + 3 ≤ _; omega)
  have hg2 := (setCells_far hgN [.int .i64 x.day, .string ⟨x.vl.toArray⟩, .string ⟨x.fl.toArray⟩] (k * 3) W1).trans hg1
  have hb2 := below_many (w0 := w) (g := w.heap.size) (Nat.le_refl _) [.int .i64 x.day, .string ⟨x.vl.toArray⟩, .string ⟨x.fl.toArray⟩] (k * 3) W1 hb1
  have hlt2 : cur2.toList = rowsQ (ts.take k) ++ [.int .i64 x.day, .string ⟨x.vl.toArray⟩, .string ⟨x.fl.toArray⟩] ++ REST.toList.drop 3 := by
    rw [ht2, Array.toList_append, List.toList_toArray, List.take_left' htl]
    congr 1
    show List.drop (k * 3 + 3) _ = _
    rw [List.drop_append, htl, List.drop_of_length_le (by rw [htl]; omega), List.nil_append, show k * 3 + 3 - k * 3 = 3 by omega]
  have hs2 : cur2.size = k * 3 + REST.size := by
    rw [← Array.length_toList, hlt2, List.length_append, List.length_append, htl, List.length_drop, Array.length_toList]
    have hrl : REST.toList.length = REST.size := Array.length_toList
    show k * 3 + 3 + _ = _
    omega
  obtain ⟨W2, hW2⟩ : ∃ W2, W2 = W1.setCells w.heap.size (k * 3) [.int .i64 x.day, .string ⟨x.vl.toArray⟩, .string ⟨x.fl.toArray⟩] := ⟨_, rfl⟩
  rw [← hW2] at hcpA hN2 hg2 hb2
  have hcpB : ∀ ty dc sc, (Builtin.copy_ #[72, 72] ty #[.slice (some ⟨w.heap.size, (k + 1) * 3, none⟩) (n - k) dc, .slice (some ⟨g, k * 3, none⟩) (n - k) sc]).run Tryz.prog W2.drew = .ok (goInt ((n - k : Nat) : Int)) (W2.drew.setCells w.heap.size ((k + 1) * 3) (rowsQ (ts.drop k))) := fun ty dc sc =>
    run_copy_wide W2.drew _ _ ty 74 3 w.heap.size ((k + 1) * 3) (n - k) dc ⟨g, k * 3, none⟩ (n - k) sc (n - k) (rowsQ (ts.drop k)) Tryz.underlying72 info_pnt3 (by simp only [Nat.min_def]; split <;> omega) hdl
      (fun j v hj => by
        rw [Lib.add_plain]
        have h3 : (rowsQ ts)[k * 3 + j]? = some v := by rw [hall, List.getElem?_append_right (by omega), htl, show k * 3 + j - k * 3 = j by omega]; exact hj
        have h4 := hcell _ v h3
        rw [blk_cell hg] at h4
        exact (blk_cell (w := W2.drew) hg2 _).trans h4)
      (fun j hj => isSome_row (w := W2.drew) hN2 (by rw [hdl] at hj; omega)) (fun j hj => blk_frozen (w := W2.drew) hN2 _) (rowsQ_one _)
  obtain ⟨cur3, hN3, ht3⟩ := set_row (rowsQ (ts.drop k)) ((k + 1) * 3) W2.drew cur2 hN2 (by rw [hdl]; omega)
  have hb3 := below_many (w0 := w) (g := w.heap.size) (Nat.le_refl _) (rowsQ (ts.drop k)) ((k + 1) * 3) W2.drew (bto hb2 (below_drew W2))
  have HR : CRow (W2.drew.setCells w.heap.size ((k + 1) * 3) (rowsQ (ts.drop k))) w.heap.size 74 (rowsQ (ts.take k ++ x :: ts.drop k)) := by
    refine crow_of hN3 (rest := cur2.toList.drop ((k + 1) * 3 + (rowsQ (ts.drop k)).length)) ?_
    rw [ht3, rowsQ_mid]
    congr 2
    rw [hlt2, List.take_left' (by rw [List.length_append, htl]; show k * 3 + 3 = _; omega)]
  have HR' := Lib.hid HR
  have hb3' := Lib.hid hb3
  have hz1 : ¬ ((1 : Int) = 0) := by decide
  have hz2 : ¬ ((k : Int) = (n : Int)) := by omega
  have hw1 : IntKind.i64.wrap ((k : Int) + 1) = (k : Int) + 1 := Go.IntWalk.i64_in _ (by omega)
  have hw2 : IntKind.i64.wrap ((n : Int) + 1) = (n : Int) + 1 := Go.IntWalk.i64_in _ (by omega)
  have hw3 : IntKind.i64.wrap ((n : Int) + 1 - (k : Int)) = (n : Int) + 1 - (k : Int) := Go.IntWalk.i64_in _ (by omega)
  have hkt : ((k : Int) + 1).toNat = k + 1 := by omega
  have c0 : (cp : Int) < (n : Int) + 1 := by omega
  have c1 : (0 : Int) ≤ (k : Int) + 1 := by omega
  have c2 : (k : Int) + 1 ≤ (n : Int) + 1 := by omega
  have c4 : (k : Int) ≤ (n : Int) + 1 := by omega
  have c5 : (k : Int) ≤ (n : Int) := by omega
  have c9 : (k : Int) ≤ (cp : Int) := by omega
  have c7 : ¬ (cp = k) := by omega
  have c8 : ¬ (G = k) := by omega
  have c10 : ¬ (G = k + 1) := by omega
  clear HR hb3 hb2 hb1 hN hN2 hN3 hg hg1 hg2 hv hv1 ht2 ht3 hlt2 hs2 hRs hREST hRl hold hall hcell htk hG hz0 hzs hzb hi0 hW1 hW2 hkk hik
  go_enter Tryz.func56, Tryz.ntmps56
  go_wp2_with (first
    | (at_builtin; refine Lib.wpList_append_run _ rfl _ _ _ _ rfl _ _ rfl rfl _ _ (hrz _) ?_)
    | (at_builtin; refine wpList_copy_runI _ rfl _ _ 72 72 rfl _ _ rfl rfl (hcpA _ _) ?_))
  go_region_law (refine step_copy_runI rfl _ _ 72 72 rfl _ _ (by simp [Act.eval, Act.put]) (by simp [Act.eval, Act.put]) (hcpB _ _ _) ?_)
  go_wp2
  go_ret
  exact ⟨G, rfl, hGn, HR'.out, hb3'.out⟩
end Go.Proofs.YtgnppdkeiihlfaaGreatDoor
